/- Lemmas for the claims of this seat, without a condition: part 2 (P8, P9, P10, P11, P12, P13, P14, Q1, Q2). -/
import Derived.Test.YtddfphmpfnmknaaGreatDoorBA01
import Derived.Lib.SplitLaws
import Derived.Lib.IndexBytes
namespace Go.Eng
def CF(l:Bi):Bi:=(l.map Ha).filter fun x=>decide (x.1<x.2)
theorem NT(a b:Bi):CF (a++b)=CF a++CF b:=by unfold CF;rw[Ay,Dd]
theorem Uf{l:Bi}{x:Int×Int}(h:x∈CF l):0≤x.1∧x.1<x.2∧x.2≤1000000:=by
 unfold CF at h;rw[BI,Al]at h;obtain⟨⟨y,_,rfl⟩,h2⟩:=h;have h2:=A8 h2;refine⟨?_,h2,?_⟩<;>simp only[Ha]<;>omega
theorem aF(l:Bi)(p:Int):(CF l).any (BG p)=has l p:=by
 rw[←Kd]
 induction l with
 |nil=>rfl
 |cons x r ih =>
  have e:CF (x::r)=(if(Ha x).1<(Ha x).2 then [Ha x]else [])++CF r:=by
   unfold CF;rw[AJ,CT]
   by_cases h:(Ha x).1<(Ha x).2<;>simp[h]
  have ec:canon (x::r)=if(Ha x).1<(Ha x).2 then Va (Ha x) (canon r)else canon r:=rfl
  rw[e,Hd,ih,ec]
  by_cases h:(Ha x).1<(Ha x).2
  ·rw[Ao h,Ao h,NL _ p (Cb r) h];simp
  ·rw[Ai h,Ai h];simp
theorem M1:∀{l:Bi} {lo:Int},EB lo l↔(∀y∈l,lo≤y.1∧y.1<y.2∧y.2≤1000000)∧l.Pairwise fun a b=>a.2<b.1
 | [],lo=>by simp[EB]
 |y::r,lo=>by
  rw[BE];constructor
  ·intro h;have hl:=h.low;refine⟨hl,fun z hz=>?_,((M1 (l:=r)).1 h.2.2.2).2⟩
   have:=h.2.2.2.low z hz;omega
  ·intro⟨h1,h2,h3⟩;have hy:=h1 y (Ab ..);refine⟨hy.1,hy.2.1,hy.2.2,M1.2 ⟨fun z hz=>?_,h3⟩⟩
   have:=h1 z (Ag _ hz)
   have:=h2 z hz
   omega
def Kx(r:Bi)(x:Int×Int):Bi:=match r with
 | []=>[x]
 |y::t=>if x.1≤y.2 then(y.1,max y.2 x.2)::t else x::y::t
def By(s:Bi):Bi:=s.foldl Kx []
theorem F8(s:Bi)(i:Nat)(h:i<s.length):By (s.take (i+1))=Kx (By (s.take i)) s[i]:=by
 unfold By;rw[Bn,As h,Ff];rfl
theorem cu(r:Bi)(x:Int×Int):(Kx r x).length≤r.length+1∧r.length≤(Kx r x).length∧0<(Kx r x).length:=by
 unfold Kx;split
 ·simp
 ·split<;>simp
theorem SD(s:Bi):∀i,i≤s.length→(By (s.take i)).length≤i∧(0<i→0<(By (s.take i)).length):=by
 intro i
 induction i with
 |zero=>intro _;simp[By]
 |succ i ih =>
  intro h;rw[F8 s i (by omega)]
  have:=cu (By (s.take i)) s[i]
  have:=ih (by omega)
  omega
structure lw(r done:Bi):Prop where
 ok:∀y∈r,0≤y.1∧y.1<y.2∧y.2≤1000000
 pw:r.Pairwise fun a b=>b.2<a.1
 has:∀p,r.any (BG p)=done.any (BG p)
 first:∀y t,r=y::t→∃x∈done,y.1=x.1
theorem ct{r done:Bi}{x:Int×Int}(h:lw r done)(hx:0≤x.1∧x.1<x.2∧x.2≤1000000)(hs:∀y∈done,y.1≤x.1):lw (Kx r x) (done++[x]):=by
 unfold Kx;split
 ·refine⟨fun y hy=>?_,by simp,fun p=>?_,fun y t e=>?_⟩
  ·rw[Ak.1 hy];exact hx
  ·rw[Hd,←h.has];rfl
  ·cases e;exact⟨x,by simp,rfl⟩
 ·rename_i y t;have hy:=h.ok y (Ab ..);obtain⟨xF,zU⟩:=BE.1 h.pw;obtain⟨z,hz,e⟩:=h.first y t rfl
  have oe:=hs z hz;split
  ·rename_i Hb;refine⟨fun u hu=>?_,BE.2 ⟨xF,zU⟩,fun p=>?_,fun u t' e'=>?_⟩
   ·rcases Au.1 hu with rfl | hu
    ·exact⟨hy.1,by dsimp only;omega,by dsimp only;omega⟩
    ·exact h.ok u (Ag _ hu)
   ·rw[Hd,←h.has,B6,B6,B6,List.any_nil,Bool.or_false]
    have:BG p (y.1,max y.2 x.2)=(BG p y||BG p x):=by
     simp only[BG];rw[BO];simp only[Af,Cp,Av];omega
    rw[this];cases BG p y<;>cases BG p x<;>cases t.any (BG p)<;>rfl
   ·cases e';exact⟨z,Bd _ hz,e⟩
  ·rename_i Hb;refine⟨fun u hu=>?_,BE.2 ⟨fun u hu=>?_,h.pw⟩,fun p=>?_,fun u t' e'=>?_⟩
   ·rcases Au.1 hu with rfl | hu
    ·exact hx
    ·exact h.ok u hu
   ·rcases Au.1 hu with rfl | hu
    ·omega
    ·have:=xF u hu;omega
   ·rw[Hd,←h.has,B6,B6,B6,List.any_nil,Bool.or_false];cases BG p y<;>cases BG p x<;>cases t.any (BG p)<;>rfl
   ·cases e';exact⟨x,by simp,rfl⟩
theorem YG{s:Bi}(Gk:∀y∈s,0≤y.1∧y.1<y.2∧y.2≤1000000)(hs:s.Pairwise fun a b=>a.1≤b.1):∀i,i≤s.length→lw (By (s.take i)) (s.take i):=by
 intro i
 induction i with
 |zero=>intro _;exact⟨fun _ h=>by simp[By]at h,by simp[By],fun p=>by simp[By],fun y t e=>by simp[By]at e⟩
 |succ i ih =>
  intro h;have hi:i<s.length:=by omega
  rw[F8 s i hi];have e:s.take (i+1)=s.take i++[s[i]]:=by rw[Bn,As hi];rfl
  rw[e];refine ct (ih (by omega)) (Gk _ (At hi)) fun y hy=>?_;obtain⟨j,hj,rfl⟩:=CD.1 hy;rw[F1];rw[AB]at hj;exact(AT.1 hs) j i (by omega) hi (by omega)
theorem QA{l s:Bi}(hp:s.Perm (CF l))(hs:s.Pairwise fun a b=>a.1≤b.1):(By s).reverse=canon l:=by
 have hi:=YG (s:=s) (fun y hy=>Uf (hp.mem_iff.1 hy)) hs s.length (Am _);rw[DA]at hi;have hc:Ev (By s).reverse:=by
  unfold Ev;rw[M1];refine⟨fun y hy=>hi.ok y (List.mem_reverse.1 hy),?_⟩;rw[List.pairwise_reverse];exact hi.pw
 refine Rz hc fun p=>?_;rw[Ho hc,List.any_reverse,hi.has,←aF];rw[BO,Bf,Bf];constructor
 ·rintro⟨y,h1,h2⟩;exact⟨y,hp.mem_iff.1 h1,h2⟩
 ·rintro⟨y,h1,h2⟩;exact⟨y,hp.mem_iff.2 h1,h2⟩
-- maps from numbers to numbers,as lists in the order in which they are met
def E7(m:List (Int×Int))(k:Int):Int:=match m.find? (fun p=>decide (p.1=k))with | some p=>p.2 | none=>0
def KV(m:List (Int×Int))(k v:Int):List (Int×Int):=if m.any (fun p=>decide (p.1=k))then m.map (fun p=>if p.1=k then(k,v)else p)else m++[(k,v)]
theorem G5(p:Int×Int)(m:List (Int×Int))(k:Int):E7 (p::m) k=if p.1=k then p.2 else E7 m k:=by
 unfold E7;rw[ED];by_cases h:p.1=k<;>simp[h]
theorem OL(m:List (Int×Int))(k v j:Int):E7 (KV m k v) j=if j=k then v else E7 m j:=by
 unfold KV;split
 ·rename_i h
  induction m with
  |nil=>simp at h
  |cons p m ih =>
   rw[AJ,G5,G5]
   by_cases e:p.1=k
   ·rw[Ao e];dsimp only
    by_cases ej:j=k
    ·subst ej;simp
    ·rw[Ai (fun c=>ej c.symm),Ai ej,Ai (fun c=>ej (c.symm.trans e))]
     by_cases hm:(m.any fun p=>decide (p.1=k))=true
     ·rw[ih hm,Ai ej]
     ·have:∀q∈m,q.1≠k:=fun q hq e=>hm (Bf.2 ⟨q,hq,by simp[e]⟩)
      have:m.map (fun p=>if p.1=k then(k,v)else p)=m:=by
       conv=>rhs;rw[←Jq m]
       exact Ba fun q hq=>by simp[this q hq]
      rw[this]
   ·rw[Ai e];have hm:(m.any fun p=>decide (p.1=k))=true:=by simpa[e]using h
    rw[ih hm]
    by_cases ej:j=k
    ·subst ej;simp[e]
    ·simp[ej]
 ·rename_i h;have hn:∀q∈m,q.1≠k:=fun q hq e=>h (Bf.2 ⟨q,hq,by simp[e]⟩)
  induction m with
  |nil =>
   rw[Fm,G5]
   by_cases ej:j=k
   ·simp[ej]
   ·have:¬k=j:=fun c=>ej c.symm
    simp[ej,this]
  |cons p m ih =>
   rw[It,G5,G5];have e:=hn p (Ab ..);have ih:=ih (by simpa[e]using h) fun q hq=>hn q (Ag _ hq)
   by_cases ep:p.1=j
   ·have:¬j=k:=fun c=>e (ep.trans c)
    simp[ep,this]
   ·simp only[ep,F7];exact ih
def ES(m:List (Int×Int)):List Int:=m.map (·.1)
theorem Uy(m:List (Int×Int))(k v:Int):ES (KV m k v)=if k∈ES m then ES m else ES m++[k]:=by
 unfold KV ES;have e:(m.any fun p=>decide (p.1=k))=decide (k∈m.map (·.1)):=by
  rw[BO];simp only[Bf,Av,Al]
 rw[e]
 by_cases h:k∈m.map (·.1)
 ·simp only[h,decide_true,Qg,BK];apply Ba;intro p _;simp only[Function.comp];split
  ·rename_i e;exact e.symm
  ·rfl
 ·simp[h]
theorem LK{m:List (Int×Int)}(h:(ES m).Nodup)(k v:Int):(ES (KV m k v)).Nodup:=by
 rw[Uy];split
 ·exact h
 ·rename_i hn;rw[F2];exact⟨h,by simp,fun a ha b hb e=>by subst e;rw[Ak.1 hb]at ha;exact hn ha⟩
theorem HT(m:List (Int×Int))(k v j:Int):j∈ES (KV m k v)↔j=k∨j∈ES m:=by
 rw[Uy];split
 ·rename_i h;constructor
  ·exact .inr
  ·rintro(rfl | h')
   ·exact h
   ·exact h'
 ·simp[or_comm]
theorem gW{m:List (Int×Int)}(h:(ES m).Nodup){p:Int×Int}(hp:p∈m):E7 m p.1=p.2:=by
 induction m with
 |nil=>cases hp
 |cons q m ih =>
  rw[G5];unfold ES at h ih;rw[AJ,CI]at h;rcases Au.1 hp with rfl | hp
  ·simp
  ·have:¬q.1=p.1:=fun e=>h.1 (e▸Al.2 ⟨p,hp,rfl⟩)
   rw[Ai this];exact ih h.2 hp
theorem gX{m:List (Int×Int)}{k:Int}(h:k∉ES m):E7 m k=0:=by
 unfold E7
 have:m.find? (fun p=>decide (p.1=k))=none:=by
  rw[DL];intro p hp;simp only[Av];exact fun e=>h (Al.2 ⟨p,hp,e⟩)
 rw[this]
-- counting
def cF(S:Bi)(k:Int):Nat:=S.countP fun x=>decide (x.1=k)
def cT(S:Bi)(k:Int):Nat:=S.countP fun x=>decide (x.2=k)
def lF(S:Bi)(k:Int):Nat:=S.countP fun x=>decide (x.1≤k)
def lT(S:Bi)(k:Int):Nat:=S.countP fun x=>decide (x.2≤k)
theorem IJ{α:Type}{p q r:α→Bool}:∀{l:List α},(∀x∈l,(p x=true↔q x=true∨r x=true)∧¬(q x=true∧r x=true))→l.countP p=l.countP q+l.countP r
 | [],_=>rfl
 |x::l,h=>by
  have ih:=IJ fun y hy=>h y (Ag _ hy);obtain⟨h1,h2⟩:=h x (Ab ..);rw[Iu,Iu,Iu,ih];cases hp:p x<;>cases hq:q x<;>cases hr:r x<;>simp_all<;>omega
structure H9(m:List (Int×Int))(S:Bi):Prop where
 nd:(ES m).Nodup
 val:∀k,E7 m k=(cF S k:Int)-cT S k
 keys:0∈ES m∧1000000∈ES m∧∀x∈S,x.1∈ES m∧x.2∈ES m
 rng:∀k∈ES m,0≤k∧k≤1000000
def oX:List (Int×Int):=[(0,0),(1000000,0)]
theorem iM:H9 oX []:=⟨by decide,fun k=>by
  unfold oX;rw[G5,G5];simp[E7,cF,cT],⟨by decide,by decide,fun _ h=>by cases h⟩,fun k hk=>by
  unfold oX ES at hk;simp at hk;omega⟩
def XO(m:List (Int×Int))(x:Int×Int):List (Int×Int):=KV (KV m x.1 (E7 m x.1+1)) x.2 (E7 (KV m x.1 (E7 m x.1+1)) x.2-1)
theorem cr{m:List (Int×Int)}{S:Bi}{x:Int×Int}(h:H9 m S)(hx:0≤x.1∧x.1<x.2∧x.2≤1000000):H9 (XO m x) (S++[x]):=by
 unfold XO;refine⟨LK (LK h.nd _ _) _ _,fun k=>?_,⟨?_,?_,fun y hy=>?_⟩,fun k hk=>?_⟩
 ·rw[OL,OL,OL,h.val,h.val,h.val];unfold cF cT;simp only[List.countP_append,List.countP_singleton,Av]
  by_cases e1:k=x.2
  ·subst e1
   have:¬x.2=x.1:=by omega
   have:¬x.1=x.2:=by omega
   simp[*];omega
  ·by_cases e2:k=x.1
   ·subst e2
    have:¬x.2=x.1:=by omega
    have:¬x.1=x.2:=by omega
    simp[*];omega
   ·have a1:¬x.1=k:=fun c=>e2 c.symm;have a2:¬x.2=k:=fun c=>e1 c.symm;simp[e1,e2,a1,a2]
 ·rw[HT,HT];exact .inr (.inr h.keys.1)
 ·rw[HT,HT];exact .inr (.inr h.keys.2.1)
 ·simp only[HT];rcases AL.1 hy with hy | hy
  ·have:=h.keys.2.2 y hy
   exact⟨.inr (.inr this.1),.inr (.inr this.2)⟩
  ·rw[Ak.1 hy];exact⟨.inr (.inl rfl),.inl rfl⟩
 ·rw[HT,HT]at hk;rcases hk with rfl | rfl | hk
  ·omega
  ·omega
  ·exact h.rng k hk
def Iq(m:List (Int×Int))(B:List Int):Int:=(B.map (E7 m)).foldl (·+·) 0
theorem PH(m:List (Int×Int))(B:List Int)(i:Nat)(h:i<B.length):Iq m (B.take (i+1))=Iq m (B.take i)+E7 m B[i]:=by
 unfold Iq;rw[Bn,As h,Ay,Ff];simp only[Option.toList_some,AJ,ET,D7,List.foldl_nil]
structure iv(B:List Int)(m:List (Int×Int)):Prop where
 perm:B.Perm (ES m)
 srt:B.Pairwise fun a b=>a<b
theorem ZX{m:List (Int×Int)}{S:Bi}{B:List Int}(h:H9 m S)(hB:iv B m):∀i (hi:i<B.length),Iq m (B.take (i+1))=(lF S B[i]:Int)-lT S B[i]:=by
 have mem:∀k,k∈ES m→∃j,∃hj:j<B.length,B[j]=k:=fun k hk=>by
  have:=hB.perm.mem_iff.2 hk
  obtain⟨j,hj,e⟩:=CD.1 this;exact⟨j,hj,e⟩
 have lt:∀i j (hi:i<B.length) (hj:j<B.length),i<j→B[i]<B[j]:=fun i j hi hj OO=>(AT.1 hB.srt) i j hi hj OO;intro i
 induction i with
 |zero =>
  intro hi;rw[PH m B 0 hi,h.val]
  have:Iq m (B.take 0)=0:=by simp[Iq]
  rw[this];have low:∀k∈ES m,B[0]≤k:=fun k hk=>by
   obtain⟨j,hj,rfl⟩:=mem k hk;cases j with
   |zero=>exact BD _
   |succ j=>have:=lt 0 (j+1) hi hj (by omega);omega
  have e1:lF S B[0]=cF S B[0]:=by
   unfold lF cF;apply PP;intro x hx
   have:=low _ (h.keys.2.2 x hx).1
   simp only[Av];omega
  have e2:lT S B[0]=cT S B[0]:=by
   unfold lT cT;apply PP;intro x hx
   have:=low _ (h.keys.2.2 x hx).2
   simp only[Av];omega
  rw[e1,e2];omega
 |succ i ih =>
  intro hi;rw[PH m B (i+1) hi,ih (by omega),h.val];have nb:∀k∈ES m,k≤B[i+1]↔k≤B[i]∨k=B[i+1]:=fun k hk=>by
   obtain⟨j,hj,rfl⟩:=mem k hk;have l0:=lt i (i+1) (by omega) hi (by omega);rcases Nat.lt_trichotomy j (i+1)with c | c | c
   ·have:B[j]≤B[i]:=by
     rcases Ez j i with d | d
     ·have:=lt j i hj (by omega) d;omega
     ·have:j=i:=by omega
      subst this;exact BD _
    omega
   ·subst c;omega
   ·have:=lt (i+1) j hi hj c;omega
  have l0:=lt i (i+1) (by omega) hi (by omega);have e1:lF S B[i+1]=lF S B[i]+cF S B[i+1]:=by
   unfold lF cF;apply IJ;intro x hx
   have:=nb _ (h.keys.2.2 x hx).1
   simp only[Av];omega
  have e2:lT S B[i+1]=lT S B[i]+cT S B[i+1]:=by
   unfold lT cT;apply IJ;intro x hx
   have:=nb _ (h.keys.2.2 x hx).2
   simp only[Av];omega
  rw[e1,e2];omega
theorem WD{S:Bi}(hS:∀x∈S,x.1<x.2)(p:Int):(lF S p:Int)-lT S p=(S.countP (BG p):Nat):=by
 have:lF S p=S.countP (BG p)+lT S p:=by
  unfold lF lT;apply IJ;intro x hx
  have:=hS x hx
  simp only[BG,Af,Av];omega
 omega
theorem NW:∀{l:Bi} {lo:Int} (p:Int),EB lo l→l.countP (BG p)=if l.any (BG p)then 1 else 0
 | [],_,_,_=>rfl
 |y::r,lo,p,⟨h1,h2,h3,h4⟩=>by
  rw[Iu,NW p h4,B6];cases hy:BG p y with
  |false=>rw[Lo];simp
  |true =>
   have:=DC.1 hy
   have:r.any (BG p)=false:=by
    rw[AK];intro hr;have:=L6 h4 hr;omega
   simp[this]
theorem Lt:∀(l:List Bi) (p:Int),((l.map canon).flatten).countP (BG p)=cG l p
 | [],_=>rfl
 |s::l,p=>by
  rw[AJ,Bv,List.countP_append,Lt l p,NW p (Cb s),Kd];unfold cG;rw[Iu];omega
def El(keep:Nat→Bool)(m:List (Int×Int))(B:List Int):Nat→Bi
 |0=>[]
 |i+1=>El keep m B i++(match B[i]?,B[i+1]? with
  |some a,some b=>if keep (Iq m (B.take (i+1))).toNat then [(a,b)]else []
  |_,_=>[])
theorem Pj{keep:Nat→Bool}{m:List (Int×Int)}{B:List Int}{x:Int×Int}:∀{n:Nat},x∈El keep m B n↔∃i,i<n∧∃(h1:i<B.length) (h2:i+1<B.length),keep (Iq m (B.take (i+1))).toNat=true∧x=(B[i],B[i+1])
 |0=>by simp[El]
 |n+1=>by
  unfold El;rw[AL,Pj (n:=n)];constructor
  ·rintro(⟨i,h1,h2⟩ | h)
   ·exact⟨i,by omega,h2⟩
   ·split at h
    ·rename_i a b ha hb;obtain⟨h1,e1⟩:=Ap.1 ha;obtain⟨h2,e2⟩:=Ap.1 hb;split at h
     ·rename_i hk;refine⟨n,by omega,h1,h2,hk,?_⟩;rw[Ak.1 h,e1,e2]
     ·cases h
    ·cases h
  ·rintro⟨i,h1,h2,h3,h4,rfl⟩
   by_cases e:i=n
   ·subst e;refine .inr ?_;rw[As h2,As h3];simp[h4]
   ·exact .inl ⟨i,by omega,h2,h3,h4,rfl⟩
theorem NQ{B:List Int}(hs:B.Pairwise fun a b=>a<b){p:Int}:∀(n:Nat) (h0:0<B.length) (hn:n<B.length),B[0]≤p→p<B[n]→∃i,∃(h1:i<B.length) (h2:i+1<B.length),B[i]≤p∧p<B[i+1]
 |0,h0,hn,h1,h2=>by omega
 |n+1,h0,hn,h1,h2=>by
  by_cases e:B[n]≤p
  ·exact⟨n,by omega,hn,e,h2⟩
  ·exact NQ hs n h0 (by omega) h1 (by omega)
theorem fq{keep:Nat→Bool}{l:List Bi}{m:List (Int×Int)}{B:List Int}(h:H9 m (l.map canon).flatten)(hB:iv B m)(p:Int):has (El keep m B (B.length-1)) p=(Lj p&&keep (cG l p)):=by
 have hS:∀x∈(l.map canon).flatten,x.1<x.2:=fun x hx=>by
  obtain⟨s,hs,hx⟩:=Eh.1 hx;obtain⟨t,_,rfl⟩:=Al.1 hs;exact((Cb t).low x hx).2.1
 have mem:∀k,k∈ES m→∃j,∃hj:j<B.length,B[j]=k:=fun k hk=>by
  obtain⟨j,hj,e⟩:=CD.1 (hB.perm.mem_iff.2 hk);exact⟨j,hj,e⟩
 have lt:∀i j (hi:i<B.length) (hj:j<B.length),i<j→B[i]<B[j]:=fun i j hi hj OO=>(AT.1 hB.srt) i j hi hj OO;have rng:∀i (hi:i<B.length),0≤B[i]∧B[i]≤1000000:=fun i hi=>h.rng _ (hB.perm.mem_iff.1 (At hi))
 -- Vh two bounds
 have Vh:∀i (h1:i<B.length) (h2:i+1<B.length),B[i]≤p→p<B[i+1]→(Iq m (B.take (i+1))).toNat=cG l p:=fun i h1 h2 a b=>by
  have same:∀k∈ES m,k≤B[i]↔k≤p:=fun k hk=>by
   obtain⟨j,hj,rfl⟩:=mem k hk;constructor
   ·intro c;omega
   ·intro c;rcases Ez i j with d | d
    ·rcases Ez (i+1) j with f | f
     ·have:=lt (i+1) j h2 hj f;omega
     ·have:j=i+1:=by omega
      subst this;omega
    ·rcases Ez j i with f | f
     ·have:=lt j i hj h1 f;omega
     ·have:j=i:=by omega
      subst this;exact BD _
  have e1:lF (l.map canon).flatten B[i]=lF (l.map canon).flatten p:=by
   unfold lF;apply PP;intro x hx
   have:=same _ (h.keys.2.2 x hx).1
   simp only[Av];exact this
  have e2:lT (l.map canon).flatten B[i]=lT (l.map canon).flatten p:=by
   unfold lT;apply PP;intro x hx
   have:=same _ (h.keys.2.2 x hx).2
   simp only[Av];exact this
  rw[ZX h hB i h1,e1,e2,WD hS,Lt];simp
 rw[BO];constructor
 ·intro hh;have ii:=LD hh;unfold has at hh;simp only[ii,decide_true,Eu]at hh;obtain⟨x,hx,hp⟩:=Bf.1 hh;obtain⟨i,_,h1,h2,hk,rfl⟩:=Pj.1 hx
  have:=DC.1 hp
  dsimp only at this;rw[←Vh i h1 h2 this.1 this.2];simp[Lj,ii,hk]
 ·intro hh;simp only[Af,Lj,Av]at hh;obtain⟨⟨p0,p1⟩,hk⟩:=hh;obtain⟨j0,y9,e0⟩:=mem 0 h.keys.1;obtain⟨j1,za,e1⟩:=mem 1000000 h.keys.2.1;have tK:B[0]'(by omega)≤p:=by
   have:B[0]'(by omega)≤0:=by
    cases j0 with
    |zero=>omega
    |succ j=>have:=lt 0 (j+1) (by omega) y9 (by omega);omega
   omega
  obtain⟨i,h1,h2,a,b⟩:=NQ hB.srt j1 (by omega) za tK (by omega);unfold has;simp only[p0,p1,decide_true,Eu];exact Bf.2 ⟨(B[i],B[i+1]),Pj.2 ⟨i,by omega,h1,h2,by rw[Vh i h1 h2 a b];exact hk,rfl⟩,DC.2 ⟨a,b⟩⟩
theorem gK{l:List Bi}{m:List (Int×Int)}{B:List Int}(h:H9 m (l.map canon).flatten)(hB:iv B m)(i:Nat)(hi:i<B.length):0≤Iq m (B.take (i+1))∧Iq m (B.take (i+1))≤l.length:=by
 have hS:∀x∈(l.map canon).flatten,x.1<x.2:=fun x hx=>by
  obtain⟨s,hs,hx⟩:=Eh.1 hx;obtain⟨t,_,rfl⟩:=Al.1 hs;exact((Cb t).low x hx).2.1
 rw[ZX h hB i hi,WD hS,Lt]
 have:cG l B[i]≤l.length:=List.countP_le_length
 omega
def VQ(m:List Tm)(t:Tm):List Tm:=if m.any (fun u=>decide (u.path=t.path))then m.map (fun u=>if u.path=t.path then t else u)else m++[t]
def Qx(m:List Tm)(t:Tm):List Tm:=VQ m (Nu (Db m t.path) t)
def CK(l:List Tm):List Tm:=l.foldl Qx []
theorem aQ(t:Tm)(p:ByteArray):∀m:List Tm,Db (VQ m t) p=if t.path=p then some t else Db m p:=by
 intro m;unfold VQ
 by_cases h:(m.any fun u=>decide (u.path=t.path))=true
 ·rw[Ao h]
  induction m with
  |nil=>simp at h
  |cons u m ih =>
   rw[AJ,CA,CA]
   by_cases e:u.path=t.path
   ·rw[Ao e]
    by_cases ep:t.path=p
    ·simp[ep]
    ·rw[Ai ep,Ai ep,Ai (fun c=>ep (e.symm.trans c))]
     by_cases hm:(m.any fun u=>decide (u.path=t.path))=true
     ·rw[ih hm,Ai ep]
     ·have:∀q∈m,q.path≠t.path:=fun q hq c=>hm (Bf.2 ⟨q,hq,by simp[c]⟩)
      have:m.map (fun u=>if u.path=t.path then t else u)=m:=by
       conv=>rhs;rw[←Jq m]
       exact Ba fun q hq=>by simp[this q hq]
      rw[this]
   ·rw[Ai e];have hm:(m.any fun u=>decide (u.path=t.path))=true:=by simpa[e]using h
    rw[ih hm]
    by_cases ep:t.path=p
    ·subst ep;simp[e]
    ·simp[ep]
 ·rw[Ai h];have hn:∀q∈m,q.path≠t.path:=fun q hq e=>h (Bf.2 ⟨q,hq,by simp[e]⟩)
  clear h
  induction m with
  |nil=>rw[Fm,CA]
  |cons u m ih =>
   rw[It,CA,CA,ih fun q hq=>hn q (Ag _ hq)]
   have:=hn u (Ab ..)
   by_cases e:u.path=p
   ·have:¬t.path=p:=fun c=>this (e.trans c.symm)
    simp[e,this]
   ·simp[e]
def Em(m:List Tm):List ByteArray:=m.map (·.path)
open Classical in
theorem YP(m:List Tm)(t:Tm):Em (VQ m t)=if t.path∈Em m then Em m else Em m++[t.path]:=by
 unfold VQ Em;have e:(m.any fun u=>decide (u.path=t.path))=true↔t.path∈m.map (·.path):=by
  simp only[Bf,Av,Al]
 by_cases h:t.path∈m.map (·.path)
 ·rw[Ao (e.2 h),Ao h,BK];apply Ba;intro p _;simp only[Function.comp];split
  ·rename_i e;exact e.symm
  ·rfl
 ·rw[Ai (fun c=>h (e.1 c)),Ai h,Ay];rfl
theorem bI{m:List Tm}(h:(Em m).Nodup)(t:Tm):(Em (VQ m t)).Nodup:=by
 rw[YP];split
 ·exact h
 ·rename_i hn;rw[F2];exact⟨h,by simp,fun a ha b hb e=>by subst e;rw[Ak.1 hb]at ha;exact hn ha⟩
theorem Qn(l:List Tm)(i:Nat)(h:i<l.length):CK (l.take (i+1))=Qx (CK (l.take i)) l[i]:=by
 unfold CK;rw[Bn,As h,Ff];rfl
theorem N9:∀(l m:List Tm),(Em m).Nodup→(Em (l.foldl Qx m)).Nodup
 | [],_,h=>h
 |_::l,_,h=>N9 l _ (bI h _)
theorem Ht(l:List Tm):(Em (CK l)).Nodup:=N9 l [] .nil
theorem WR(m:List Tm)(t:Tm)(p:ByteArray):Db (Qx m t) p=JG p (Db m p) t:=by
 unfold Qx JG;have hp:(Nu (Db m t.path) t).path=t.path:=Pr _ _ fun u h=>GO h;rw[aQ,hp]
 by_cases e:t.path=p
 ·rw[Ao e,Ao e,e]
 ·rw[Ai e,Ai e]
theorem N6(p:ByteArray):∀(l m:List Tm),Db (l.foldl Qx m) p=l.foldl (JG p) (Db m p)
 | [],_=>rfl
 |t::l,m=>by rw[D7,D7,N6 p l,WR]
theorem Yk(l:List Tm)(p:ByteArray):Db (CK l) p=Db (EO l) p:=by
 unfold CK;rw[N6,IM];rfl
theorem Ly{m:List Tm}(h:(Em m).Nodup){t:Tm}:t∈m↔Db m t.path=some t:=by
 constructor
 ·induction m with
  |nil=>intro h;cases h
  |cons u m ih =>
   intro ht;unfold Em at h ih;rw[AJ,CI]at h;rw[CA];rcases Au.1 ht with rfl | ht
   ·rw[Ao rfl]
   ·have:¬u.path=t.path:=fun e=>h.1 (e▸Al.2 ⟨t,ht,rfl⟩)
    rw[Ai this];exact ih h.2 ht
 ·exact EY
theorem Hx{m:List Tm}(h:(Em m).Nodup):m.Nodup:=by
 unfold Em at h
 induction m with
 |nil=>exact .nil
 |cons u m ih =>
  rw[AJ,CI]at h;exact CI.2 ⟨fun hu=>h.1 (Al.2 ⟨u,hu,rfl⟩),ih h.2⟩
theorem HD{l:List Tm}{lo:Option ByteArray}(h:B5 lo l):(Em l).Nodup:=by
 unfold Em
 induction l generalizing lo with
 |nil=>exact .nil
 |cons t l ih =>
  rw[AJ,CI];refine⟨fun hm=>?_,ih h.2.2⟩;obtain⟨u,hu,e⟩:=Al.1 hm
  have:=h.2.2.low u hu
  rw[e,CO]at this;cases this
theorem IU(l:List Tm)(t:Tm):t∈CK l↔t∈EO l:=by
 rw[Ly (Ht l),Yk,←Ly (HD (Eg l))]
theorem Oo(l:List Tm):∀t∈CK l,Ev t.set:=fun t ht=>(Eg l).canon t ((IU l t).1 ht)
theorem cw(m:List Tm)(t:Tm):(Qx m t).length≤m.length+1:=by
 unfold Qx VQ;split<;>simp
theorem Np(l:List Tm):∀i,i≤l.length→(CK (l.take i)).length≤i:=by
 intro i
 induction i with
 |zero=>intro _;simp[CK]
 |succ i ih =>
  intro h;rw[Qn l i (by omega)]
  have:=cw (CK (l.take i)) l[i]
  have:=ih (by omega)
  omega
theorem Y3{s:List Tm}(hs:s.Pairwise fun x y=>En x.path y.path=true)(hc:∀t∈s,Ev t.set):B5 none s:=by
 have:∀(s:List Tm) (lo:Option ByteArray),s.Pairwise (fun x y=>En x.path y.path=true)→(∀t∈s,Ev t.set)→(∀p,lo=some p→∀t∈s,En p t.path=true)→B5 lo s:=by
  intro s
  induction s with
  |nil=>intro _ _ _ _;trivial
  |cons t s ih =>
   intro lo hs hc hl;obtain⟨h1,h2⟩:=BE.1 hs;exact⟨fun p e=>hl p e t (Ab ..),hc t (Ab ..),ih _ h2 (fun u hu=>hc u (Ag _ hu)) fun p e u hu=>by cases e;exact h1 u hu⟩
 exact this s none hs hc fun _ e=>by cases e
theorem OY{l s:List Tm}(q:Tm→Bool)(hp:s.Perm ((CK l).filter q))(hs:s.Pairwise fun x y=>En y.path x.path=false):s=(EO l).filter q:=by
 have hm:∀t,t∈s↔t∈(EO l).filter q:=fun t=>by
  rw[hp.mem_iff,BI,BI,IU]
 have QF:(Em s).Nodup:=by
  have h1:(Em ((CK l).filter q)).Nodup:=by
   unfold Em;exact List.Nodup.sublist (List.Sublist.map _ List.filter_sublist) (Ht l)
  unfold Em at h1⊢;exact(hp.map (·.path)).nodup_iff.2 h1
 have I7:s.Pairwise fun x y=>En x.path y.path=true:=by
  rw[AT]at hs⊢;intro i j hi hj OO;cases hb:En s[i].path s[j].path with
  |true=>rfl
  |false =>
   have e:=Hh hb (hs i j hi hj OO);unfold Em at QF
   have:=(AT.1 QF) i j (by simpa using hi) (by simpa using hj) OO
   simp at this;exact absurd e this
 have xr:B5 none s:=Y3 I7 fun t ht=>(Eg l).canon t (BI.1 ((hm t).1 ht)).1;have im:B5 none ((EO l).filter q):=B5.filter q (Eg l);refine L3 xr im fun p=>?_;cases h1:Db s p with
 |some t =>
  have:=(hm t).1 (EY h1)
  rw[Fu im,GO h1]at this;exact this.symm
 |none =>
  cases h2:Db ((EO l).filter q) p with
  |none=>rfl
  |some t =>
   have:=(hm t).2 (EY h2)
   rw[Fu xr,GO h2,h1]at this;cases this
theorem X7(t:Tm):GC t t=K4 t:=by unfold GC K4;rw[Yz,Bool.and_self]
theorem ZR(o:Option Tm)(t:Tm):Nu o t=GC (o.getD t) t:=by cases o with | none=>exact(X7 t).symm | some u=>rfl
theorem ap{t:Tm}(h:Ev t.set):(t.absent&&(Ec t.set).isEmpty)=Gg t:=by
 unfold Gg
 congr 1
 rw[BO,GA,Av];have ha:Ev [(0,1000000)]:=⟨BD _,by dsimp only;omega,BD _,trivial⟩;constructor
 ·intro e;refine Hi h ha fun p=>?_
  have:=Fv t.set p
  rw[e]at this;have h0:has [] p=false:=by simp[has]
  rw[h0]at this;have h1:has [(0,1000000)] p=Lj p:=by simp[has,Lj,BG]
  rw[h1];cases hp:Lj p with
  |true=>rw[hp]at this;simpa using this.symm
  |false =>
   rw[AK];intro hh
   have:=LD hh
   simp[Lj,this]at hp
 ·intro e;rw[Pn (GY _)];intro p;rw[Fv,e];have h1:has [(0,1000000)] p=Lj p:=by simp[has,Lj,BG]
  rw[h1];simp
theorem fK{t:Tm}(h:Ev t.set):(!t.absent&&(canon t.set).isEmpty)=Hw t:=by unfold Hw;rw[I1 h]
end Go.Eng
namespace Go.Eng
open Go.Lib
theorem PE(c:UInt8):∀(s:List UInt8) (k:Nat),s.count c≤k→splitK [c] 0 k s=Fb c s
 | [],k,_=>by
  cases k with
  |zero=>rfl
  |succ k=>rfl
 |b::r,k,h=>by
  rw[Fb]
  by_cases e:b=c
  ·subst e;rw[List.count_cons_self]at h;obtain⟨k',rfl⟩:∃k',k=k'+1:=⟨k-1,by omega⟩;rw[Ao rfl,splitK,index_one,indexByte];simp only[beq_self_eq_true,Qg];rw[Ai (by decide)];show []::splitK [b] 0 k' r=_;rw[PE b r k' (by omega)]
  ·have Dt:(b == c)=false:=by simpa using e
   rw[List.count_cons_of_ne (by simpa using e)]at h;have ih:=PE c r k h;rw[Ai e];cases k with
   |zero =>
    rw[←ih];rfl
   |succ k =>
    rw[←ih,splitK,splitK,index_one,index_one,indexByte,Dt]
    by_cases h0:indexByte r c=-1
    ·rw[h0];rfl
    ·have h1:(indexByte r c == -1)=false:=by simpa using h0
     have h2:=indexByte_ge r c;have h3:(indexByte r c+1 == -1)=false:=by rw[beq_eq_false_iff_ne];omega
     simp only[Dc,F7,h1,h3];obtain⟨i,hi⟩:∃i:Nat,indexByte r c=i:=⟨(indexByte r c).toNat,by omega⟩;rw[hi];show(b::r).take (((i:Int)+1).toNat+0)::_=(b::r.take ((i:Int).toNat+0))::_;rw[show((i:Int)+1).toNat=i+1 by omega,show((i:Nat):Int).toNat=i by omega]
     rfl
theorem WC(c:UInt8):∀(n:Nat) (s:List UInt8),s.length≤n→count s [c]=s.count c
 |n,s,hn=>by
  rcases Int.lt_or_le (indexByte s c) 0 with h | h
  ·have h2:=indexByte_ge s c;have h3:indexByte s c=-1:=by omega
   rw[count_miss (by rw[index_one];exact h3)]
   symm
   rw[List.count_eq_zero];intro hm;obtain⟨k,hk,e⟩:=Fs hm;exact indexByte_none h3 k (by rw[As hk,e])
  ·obtain⟨i,hi⟩:∃i:Nat,indexByte s c=i:=⟨(indexByte s c).toNat,by omega⟩;obtain⟨h1,h2⟩:=indexByte_some hi;obtain⟨hl,hg⟩:=Ap.1 h1;cases n with
   |zero=>omega
   |succ n =>
    have hc:=count_hit (s:=s) (sub:=[c]) (i:=i) (by simp) (by rw[index_one];exact hi);rw[hc];have ih:=WC c n (s.drop (i+1)) (by rw[Dn];omega);have qk:s=s.take i++c::s.drop (i+1):=by
     rw[←hg,←Bl hl,KZ]
    have h0:(s.take i).count c=0:=by
     rw[List.count_eq_zero];intro hm;obtain⟨k,hk,e⟩:=Fs hm;rw[AB]at hk;rw[F1]at e;exact h2 k (by omega) (by rw[As (by omega),e])
    conv=>rhs;rw[qk]
    rw[List.count_append,h0,List.count_cons_self];show 1+count (s.drop (i+1)) [c]=_;rw[ih];omega
theorem cq(s:ByteArray)(c:UInt8):((splitB ⟨#[c]⟩ 0 (countB s ⟨#[c]⟩) s).map (·.data.toList))=Fb c s.data.toList:=by
 rw[splitB_data];refine PE c _ _ ?_;show _≤count s.data.toList [c];rw[WC c _ _ (Am _)];exact Am _
end Go.Eng
namespace Go.Eng
theorem UG{α:Type}:∀{l m:List α},l.Nodup→(∀x∈l,x∈m)→l.length≤m.length
 | [],_,_,_=>AO _
 |a::l,m,hn,hs=>by
  obtain⟨h1,h2⟩:=CI.1 hn;obtain⟨s,t,rfl⟩:=List.append_of_mem (hs a (Ab ..))
  have:l.length≤(s++t).length:=UG h2 fun x hx=>by
   rcases AL.1 (hs x (Ag _ hx))with h | h
   ·exact Bd _ h
   ·rcases Au.1 h with rfl | h
    ·exact absurd hx h1
    ·exact Bc _ h
  simp only[Ac,Ax]at this⊢;omega
theorem K6(p:ByteArray):∀(l:List Tm) (o:Option Tm),(∀u∈l,u.path≠p)→l.foldl (JG p) o=o
 | [],_,_=>rfl
 |t::l,o,h=>by
  rw[D7,show JG p o t=o by unfold JG;rw[Ai (h t (Ab ..))]];exact K6 p l o fun u hu=>h u (Ag _ hu)
theorem YH{l:List Tm}{t:Tm}(h:t∈EO l):∃u∈l,u.path=t.path:=by
 apply AS;intro hn
 have:∀u∈l,u.path≠t.path:=fun u hu e=>hn ⟨u,hu,e⟩
 have h1:=(Fu (Eg l)).1 h;rw[IM,K6 _ _ _ this]at h1;cases h1
def TU(U:List ByteArray)(t:List Tm):Prop:=B5 none t∧∀u∈t,u.path∈U
theorem TU.len{U:List ByteArray}{t:List Tm}(h:TU U t):t.length≤U.length:=by
 have:=UG (HD h.1) (m:=U) fun p hp=>by
  obtain⟨u,hu,rfl⟩:=Al.1 hp;exact h.2 u hu
 unfold Em at this
 rwa [A7]at this
theorem X8{l c:List Tm}(h:CE l=some c){t:Tm}(ht:t∈c):t∈EO l:=by
 unfold CE at h;split at h
 ·cases h
 ·cases h;exact(BI.1 ht).1
theorem OX{U:List ByteArray}{l c:List Tm}(h:CE l=some c)(hu:∀u∈l,u.path∈U):TU U c :=
 ⟨EF h,fun t ht=>by
  obtain⟨u,h1,h2⟩:=YH (X8 h ht);rw[←h2];exact hu u h1⟩
theorem TU.nil(U:List ByteArray):TU U []:=⟨trivial,fun u hu=>by cases hu⟩
theorem SL{U:List ByteArray}{l:List Tm}(hu:∀u∈l,u.path∈U):TU U (Po l):=by
 unfold Po;cases h:CE l with
 |none=>exact .nil U
 |some c=>exact OX h hu
theorem Qt{U:List ByteArray}{a b:List Tm}{p:ByteArray}(ha:TU U a)(hb:TU U b):TU U (Bq a b p).1:=by
 have sp:∀{l r:List Tm} {t:Tm},TU U l→Fc l p=some (t,r)→t.path∈U∧∀u∈r,u.path∈U:=by
  intro l r t hl h;unfold Fc at h;cases e:CE l with
  |none=>rw[e]at h;cases h
  |some c =>
   rw[e]at h;have h:(match Db c p with | none=>none | some t=>some (t,FA c p))=some (t,r):=h;have hc:=OX e hl.2;cases e2:Db c p with
   |none=>rw[e2]at h;cases h
   |some u =>
    rw[e2]at h;cases h;exact⟨hc.2 _ (EY e2),fun u hu=>hc.2 u (BI.1 hu).1⟩
 unfold Bq;split
 ·rename_i t r u m e1 e2;obtain⟨a1,a2⟩:=sp ha e1;obtain⟨b1,b2⟩:=sp hb e2;split
  ·rename_i o e3;refine OX e3 fun v hv=>?_;rcases AL.1 hv with hv | hv
   ·rcases AL.1 hv with hv | hv
    ·exact a2 v hv
    ·exact b2 v hv
   ·rw[Ak.1 hv];exact a1
  ·exact .nil U
 ·exact .nil U
def JX(x:List Rl)(roots:List Rq)(l:List Nf):List ByteArray:=(x.map (·.path))++((x.map (·.reqs)).flatten.map (·.path)++(roots.map (·.path)++l.map (·.path)))
theorem bp{x:List Rl}{roots:List Rq}{l:List Nf}{d:List (List Tm)}{i:Nf}(hi:i∈l)(hd:∀t∈d,TU (JX x roots l) t){t:List Tm}(h:DK x roots d i=some t):TU (JX x roots l) t:=by
 have hp:i.path∈JX x roots l:=by
  unfold JX;exact Bc _ (Bc _ (Bc _ (Al.2 ⟨i,hi,rfl⟩)))
 have nz:∀{α:Type} {l:List α} {k:Int} {a:α},Jc l k=some a→a∈l:=by
  intro α l k a h;unfold Jc at h;split at h
  ·cases h
  ·exact Ar h
 have n0:∀{a b:List Tm},bC a=some b→b=a:=by
  intro a b h;unfold bC at h;split at h
  ·cases h
  ·cases h;rfl
 unfold DK at h;split at h
 ·split at h
  ·cases e:Jc roots i.number with
   |none=>rw[e]at h;cases h
   |some q =>
    rw[e]at h;cases h;refine SL fun u hu=>?_;rw[Ak.1 hu];unfold JX;exact Bc _ (Bc _ (Bd _ (Al.2 ⟨q,nz e,rfl⟩)))
  ·cases h
 split at h
 ·split at h
  ·cases e:OA x i.path i.place with
   |none=>rw[e]at h;cases h
   |some r =>
    rw[e]at h;have h:(match Jc r.reqs i.number with | none=>none | some q=>bC (Eb i.path i.place q))=some t:=h;cases e2:Jc r.reqs i.number with
    |none=>rw[e2]at h;cases h
    |some q =>
     rw[e2]at h;have h:=n0 (show bC (Eb i.path i.place q)=some t from h);subst h;refine SL fun u hu=>?_;rcases Au.1 hu with rfl | hu
     ·exact hp
     ·rw[Ak.1 hu];unfold JX;refine Bc _ (Bd _ (Al.2 ⟨q,?_,rfl⟩));exact Eh.2 ⟨r.reqs,Al.2 ⟨r,Cg e,rfl⟩,nz e2⟩
  ·cases h
 split at h
 ·split at h
  ·have h:=n0 h;subst h;refine SL fun u hu=>?_;rw[Ak.1 hu];exact hp
  ·cases h
 split at h
 ·split at h
  ·cases e:Jc d i.left with
   |none=>rw[e]at h;cases h
   |some a =>
    cases e2:Jc d i.right with
    |none=>rw[e,e2]at h;cases h
    |some b =>
     rw[e,e2]at h;have h:(if(Bq a b i.path).2=0 then some (Bq a b i.path).1 else none)=some t:=h;split at h
     ·cases h;exact Qt (hd a (nz e)) (hd b (nz e2))
     ·cases h
  ·cases h
 ·cases h
structure Cd where
 place:Int
 rel:Rl
structure Nd where
 rq:Rq
 path:ByteArray
 place:Int
 number:Int
structure SS where
 infs:List Nf
 drv:List (List Tm)
 full:Bool
abbrev Su(c:Cd):Sl:=⟨c.rel.path,c.rel.ver⟩
abbrev AI(l:List Cd):List Sl:=l.map Su
def Ch(x:List Rl)(p:ByteArray):List Cd:=(x.filter fun r=>decide (r.path=p)&&!r.yanked).map fun r=>⟨plc r.ver,r⟩
def LP(f:Rq→Nat→Nd):Nat→List Rq→List Nd
 |_,[]=>[]
 |i,q::l=>f q i::LP f (i+1) l
def XN(roots:List Rq):List Nd:=LP (fun q i=>⟨q,mt,0,i⟩) 0 roots
def Pu(c:Cd):List Nd:=LP (fun q i=>⟨q,c.rel.path,c.place,i⟩) 0 c.rel.reqs
def Dk(roots:List Rq)(dec:List Cd):List Nd:=XN roots++(dec.map Pu).flatten
def CY(dec:List Cd)(p:ByteArray):Bool:=dec.any fun c=>decide (c.rel.path=p)
def Ea(dec:List Cd)(a:ByteArray×List Nd)(n:Nd):ByteArray×List Nd :=
 if CY dec n.rq.path=true∨(a.2≠[]∧En a.1 n.rq.path=true)then a
 else if a.2≠[]∧En n.rq.path a.1=true then(n.rq.path,[n])else(n.rq.path,a.2++[n])
def Gs(roots:List Rq)(dec:List Cd):ByteArray×List Nd:=(Dk roots dec).foldl (Ea dec) (mt,[])
def ZD(l:List Cd)(n:Nd):Bool:=l.any fun d=>decide (d.rel.path=n.rq.path)&&!has n.rq.set d.place
def D2(dec:List Cd)(c:Cd):Option Nd:=(Pu c).find? (ZD (dec++[c]))
def NY(s:List Sl):Nat→List (List Tm)→Option Nat
 |_,[]=>none
 |i,t::l=>if Ct t s then some i else NY s (i+1) l
def NZ(d:List (List Tm))(s:List Sl):Option Nat:=NY s 0 d
def CP(l:List Tm)(p:ByteArray):Bool:=l.any fun t=>decide (t.path=p)
instance:DecidableEq Nf:=fun a b=>by
 obtain⟨a1,a2,a3,a4,a5,a6⟩:=a;obtain⟨b1,b2,b3,b4,b5,b6⟩:=b;exact decidable_of_iff (a1=b1∧a2=b2∧a3=b3∧a4=b4∧a5=b5∧a6=b6) ⟨fun⟨h1,h2,h3,h4,h5,h6⟩=>by subst h1 h2 h3 h4 h5 h6;rfl,fun h=>by cases h;exact⟨rfl,rfl,rfl,rfl,rfl,rfl⟩⟩
def Ll(i:Nf):Nat→List Nf→Option Nat
 |_,[]=>none
 |k,j::l=>if j=i then some k else Ll i (k+1) l
def D5(s:SS)(i:Nf)(l:List Tm):Nat×SS :=
 match Ll i 0 s.infs with
 |some k=>(k,s)
 |none=>if 65536≤s.infs.length then(s.infs.length-1,⟨s.infs,s.drv,true⟩)else(s.infs.length,⟨s.infs++[i],s.drv++[l],s.full⟩)
def Sp(n:Nd):Nf:=if n.path=mt then⟨0,mt,0,n.number,0,0⟩else⟨1,n.path,n.place,n.number,0,0⟩
def IP(n:Nd):List Tm:=if n.path=mt then Jg n.rq else Eb n.path n.place n.rq
def Bh(s:SS)(n:Nd):Nat×SS:=D5 s (Sp n) (IP n)
abbrev DE(s:SS)(k:Nat):List Tm:=s.drv.getD k []
def Ca(p:ByteArray):List Nat→Nat→SS→Nat×SS
 | [],k,s=>(k,s)
 |r::l,k,s =>
  if s.full=true∨CP (DE s k) p=false then(k,s)
  else if r=k then Ca p l k s
  else if(Bq (DE s k) (DE s r) p).2≠0 then Ca p l k s
  else Ca p l (D5 s ⟨3,p,0,0,k,r⟩ (Bq (DE s k) (DE s r) p).1).1 (D5 s ⟨3,p,0,0,k,r⟩ (Bq (DE s k) (DE s r) p).1).2
def Ed(x:List Rl)(p:ByteArray)(s:SS):Nat×SS:=D5 s ⟨2,p,0,0,0,0⟩ (HM p (BZ x p))
def DX(x:List Rl)(p:ByteArray)(n:Nd)(FL:List Nat)(s:SS):Nat×SS :=
 Ca p ((Ed x p (Bh s n).2).1::FL) (Bh s n).1 (Ed x p (Bh s n).2).2
structure JJ where
 res:Nat
 found:Bool
 ss:SS
 dec:List Cd
 stack:List (List Sk)
def DU(rec:List Cd→SS→List (List Sk)→JJ)(x:List Rl)(p:ByteArray)(needs:List Nd)(n0:Nd)(dec:List Cd)(stack:List (List Sk)):List Cd→SS→List Nat→List Sk→JJ
 | [],s,FL,_=>⟨(DX x p n0 FL s).1,false,(DX x p n0 FL s).2,dec,stack⟩
 |c::cs,s,FL,skips =>
  let after (k:Nat) (s:SS):JJ:=if CP (DE s k) p=false then⟨k,false,s,dec,stack⟩else DU rec x p needs n0 dec stack cs s (FL++[k]) (skips++[⟨p,c.place,k⟩])
  if s.full=true then⟨0,false,s,dec,stack⟩
  else match needs.find? fun n=>!has n.rq.set c.place with
   |some n=>DU rec x p needs n0 dec stack cs (Bh s n).2 (FL++[(Bh s n).1]) skips
   |none=>match NZ s.drv (AI (dec++[c]))with
    |some k=>after k s
    |none=>match D2 dec c with
     |some n=>after (Bh s n).1 (Bh s n).2
     |none =>
      let o:=rec (dec++[c]) s (stack++[skips])
      if o.found=true then⟨0,true,o.ss,o.dec,o.stack⟩
      else if o.ss.full=true then⟨0,false,o.ss,dec,stack⟩
      else after o.res o.ss
def CQ(x:List Rl)(roots:List Rq):Nat→List Cd→SS→List (List Sk)→JJ
 |0,dec,s,stack=>⟨0,false,s,dec,stack⟩
 |n+1,dec,s,stack=>match(Gs roots dec).2 with
  | []=>⟨0,true,s,dec,stack⟩
  |n0::l=>DU (CQ x roots n) x (Gs roots dec).1 (n0::l) n0 dec stack (Ch x (Gs roots dec).1) s [] []
abbrev r8:SS:=⟨[],[],false⟩
def Qc(x:List Rl)(dec:List Cd):Nat:=(x.filter fun r=>!r.yanked&&!CY dec r.path).length
def Fy(x:List Rl)(roots:List Rq):JJ:=CQ x roots (x.length+1) [] r8 []
theorem Ox(f:Rq→Nat→Nd):∀(l:List Rq) (i k:Nat),(LP f i l)[k]?=(l[k]?).map fun q=>f q (i+k)
 | [],i,k=>by simp[LP]
 |q::l,i,0=>by simp[LP]
 |q::l,i,k+1=>by
  have h:=Ox f l (i+1) k;simp only[LP,Gz,h];rw[show i+1+k=i+(k+1) by omega]
theorem Kq(f:Rq→Nat→Nd):∀(l:List Rq) (i:Nat),(LP f i l).length=l.length
 | [],_=>rfl
 |_::l,i=>by simp[LP,Kq f l (i+1)]
theorem Xw{f:Rq→Nat→Nd}{l:List Rq}{n:Nd}(h:n∈LP f 0 l):∃k q,l[k]?=some q∧n=f q k:=by
 obtain⟨k,hk⟩:=B1.1 h;rw[Ox,AW]at hk;obtain⟨q,h1,h2⟩:=hk;exact⟨k,q,h1,by rw[←h2,Bg]⟩
theorem QY{f:Rq→Nat→Nd}(hf:∀q i,(f q i).rq=q):∀(l:List Rq) (i:Nat),(LP f i l).map (·.rq)=l
 | [],_=>rfl
 |q::l,i=>by simp[LP,hf,QY hf l (i+1)]
abbrev HA(roots:List Rq)(dec:List Cd):List Rq:=roots++(dec.map fun c=>c.rel.reqs).flatten
theorem Ml(roots:List Rq)(dec:List Cd):(Dk roots dec).map (·.rq)=HA roots dec:=by
 unfold Dk XN;rw[Ay,QY (fun _ _=>rfl),Ri,BK]
 congr 2
 exact Ba fun c _=>QY (fun _ _=>rfl) _ _
theorem FH(dec:List Cd)(p:ByteArray):Cv (AI dec) p=CY dec p:=by
 unfold Cv CY AI;rw[List.any_map];rfl
theorem Jb(before:List Sl):∀{l:List Rq} {a p:ByteArray},Dm before l (some a)=some p→p=a∨En p a=true
 | [],a,p,h=>by cases h;exact .inl rfl
 |q::l,a,p,h=>by
  unfold Dm at h;split at h
  ·exact Jb before h
  ·dsimp only at h;split at h
   ·rename_i hb;rcases Jb before h with e | e
    ·exact .inr (by rw[e];exact hb)
    ·exact .inr (DM e hb)
   ·exact Jb before h
theorem Im(before:List Sl):∀{l:List Rq} {a:ByteArray},Dm before l (some a)≠none
 | [],a=>by simp[Dm]
 |q::l,a=>by
  unfold Dm;split
  ·exact Im before
  ·dsimp only;split<;>exact Im before
theorem N5{n:Nd}{p:ByteArray}(e:n.rq.path≠p)(L:List Nd):((n::L).filter fun n=>decide (n.rq.path=p))=L.filter fun n=>decide (n.rq.path=p):=by rw[CT,Ai (by simpa using e)]
theorem Vt{n:Nd}{p:ByteArray}(e:n.rq.path=p)(L:List Nd):((n::L).filter fun n=>decide (n.rq.path=p))=n::L.filter fun n=>decide (n.rq.path=p):=by rw[CT,Ao (by simpa using e)]
theorem Mn(dec:List Cd):∀(L:List Nd) (a:ByteArray×List Nd),(a.2≠[]→CY dec a.1=false) →
  L.foldl (Ea dec) a=match Dm (AI dec) (L.map (·.rq)) (if a.2=[]then none else some a.1)with
   |none=>a
   |some p=>(p,(if a.2≠[]∧a.1=p then a.2 else [])++L.filter fun n=>decide (n.rq.path=p))
 | [],a,h=>by
  obtain⟨p,o⟩:=a;cases o with
  |nil=>simp[Dm]
  |cons n o=>simp[Dm]
 |n::L,a,h=>by
  obtain⟨p0,o⟩:=a;rw[D7,AJ];have ql:∀(acc:Option ByteArray) (l:List Rq),(∀p,acc=some p→CY dec p=false)→∀p,Dm (AI dec) l acc=some p→CY dec p=false:=fun acc l ha p hp=>by
   have:=((JD (AI dec) (l:=l) (acc:=acc) (fun p e=>by rw[FH];exact ha p e)).1 p hp).1
   rw[FH]at this;exact this
  cases hd:CY dec n.rq.path with
  |true =>
   have e1:Ea dec (p0,o) n=(p0,o):=by unfold Ea;rw[Ao (.inl hd)]
   have e2:Dm (AI dec) (n.rq::L.map (·.rq)) (if o=[]then none else some p0)=Dm (AI dec) (L.map (·.rq)) (if o=[]then none else some p0):=by
    conv=>lhs;unfold Dm
    rw[Ao (by rw[FH];exact hd)]
   rw[e1,e2,Mn dec L (p0,o) h];dsimp only;cases hg:Dm (AI dec) (L.map (·.rq)) (if o=[]then none else some p0)with
   |none=>rfl
   |some p =>
    dsimp only;have hp:=ql _ _ (fun q e=>by
     split at e
     ·cases e
     ·rename_i ho;cases e;exact h ho) p hg
    have Dt:n.rq.path≠p:=fun e=>by rw[e,hp]at hd;cases hd
    rw[N5 Dt]
  |false =>
   have QF:Cv (AI dec) n.rq.path=false:=by rw[FH];exact hd
   by_cases ho:o=[]
   ·subst ho;have e1:Ea dec (p0,[]) n=(n.rq.path,[n]):=by
     unfold Ea;rw[Ai (by simp[hd]),Ai (by simp)];rfl
    have e2:Dm (AI dec) (n.rq::L.map (·.rq)) none=Dm (AI dec) (L.map (·.rq)) (some n.rq.path):=by
     conv=>lhs;unfold Dm
     rw[Ai (by rw[QF];decide)]
    rw[e1,Mn dec L (n.rq.path,[n]) (fun _=>hd),Ao rfl,e2];rw[Ai (by simp)];cases hg:Dm (AI dec) (L.map (·.rq)) (some n.rq.path)with
    |none=>exact absurd hg (Im _)
    |some p =>
     dsimp only;rw[Ai (show ¬(([]:List Nd)≠[]∧p0=p)from fun h=>h.1 rfl)]
     by_cases e:n.rq.path=p
     ·rw[Vt e,Ao ⟨by simp,e⟩];rfl
     ·rw[N5 e,Ai (fun h=>e h.2)]
   ·have xb:(if o=[]then none else some p0)=some p0:=Ai ho;rw[xb];cases hb:En p0 n.rq.path with
    |true =>
     have e1:Ea dec (p0,o) n=(p0,o):=by unfold Ea;rw[Ao (.inr ⟨ho,hb⟩)]
     have Sb:En n.rq.path p0=false:=L8 hb;have e2:Dm (AI dec) (n.rq::L.map (·.rq)) (some p0)=Dm (AI dec) (L.map (·.rq)) (some p0):=by
      conv=>lhs;unfold Dm
      rw[Ai (by rw[QF];decide)];dsimp only;rw[Ai (by rw[Sb];decide)]
     rw[e1,e2,Mn dec L (p0,o) h];dsimp only;rw[xb];cases hg:Dm (AI dec) (L.map (·.rq)) (some p0)with
     |none=>rfl
     |some p =>
      dsimp only;have Dt:n.rq.path≠p:=fun e=>by
       rcases Jb _ hg with e3 | e3
       ·rw[e,e3,CO]at hb;cases hb
       ·rw[e,L8 e3]at hb;cases hb
      rw[N5 Dt]
    |false =>
     cases Sb:En n.rq.path p0 with
     |true =>
      have e1:Ea dec (p0,o) n=(n.rq.path,[n]):=by
       unfold Ea;rw[Ai (by simp[hd,hb]),Ao ⟨ho,Sb⟩]
      have e2:Dm (AI dec) (n.rq::L.map (·.rq)) (some p0)=Dm (AI dec) (L.map (·.rq)) (some n.rq.path):=by
       conv=>lhs;unfold Dm
       rw[Ai (by rw[QF];decide)];dsimp only;rw[Ao Sb]
      rw[e1,e2,Mn dec L (n.rq.path,[n]) (fun _=>hd),Ai (by simp)];cases hg:Dm (AI dec) (L.map (·.rq)) (some n.rq.path)with
      |none=>exact absurd hg (Im _)
      |some p =>
       dsimp only;have Dt:p0≠p:=fun e=>by
        rcases Jb _ hg with e3 | e3
        ·rw[e,e3,CO]at Sb;cases Sb
        ·rw[e]at Sb;rw[L8 e3]at Sb;cases Sb
       rw[Ai (show ¬(o≠[]∧p0=p)from fun h=>Dt h.2)]
       by_cases e:n.rq.path=p
       ·rw[Vt e,Ao ⟨by simp,e⟩];rfl
       ·rw[N5 e,Ai (fun h=>e h.2)]
     |false =>
      have e0:n.rq.path=p0:=Hh Sb hb;have e1:Ea dec (p0,o) n=(p0,o++[n]):=by
       unfold Ea;rw[Ai (by simp[hd,hb]),Ai (by simp[Sb]),e0]
      have e2:Dm (AI dec) (n.rq::L.map (·.rq)) (some p0)=Dm (AI dec) (L.map (·.rq)) (some p0):=by
       conv=>lhs;unfold Dm
       rw[Ai (by rw[QF];decide)];dsimp only;rw[Ai (by rw[Sb];decide)]
      rw[e1,e2,Mn dec L (p0,o++[n]) (fun _=>by rw[←e0];exact hd),Ai (by simp)];cases hg:Dm (AI dec) (L.map (·.rq)) (some p0)with
      |none=>exact absurd hg (Im _)
      |some p =>
       dsimp only
       by_cases e:p0=p
       ·rw[Vt (e0.trans e),Ao ⟨by simp,e⟩,Ao ⟨ho,e⟩,BH];rfl
       ·rw[N5 (fun h=>e (e0.symm.trans h)),Ai (fun h=>e h.2),Ai (fun h=>e h.2)]
theorem SF(roots:List Rq)(dec:List Cd):Gs roots dec=match Ko (HA roots dec) (AI dec)with
  |none=>(mt,[])
  |some p=>(p,(Dk roots dec).filter fun n=>decide (n.rq.path=p)):=by
 unfold Gs Ko;rw[Mn dec _ (mt,[]) (fun h=>absurd rfl h),Ao rfl,Ml];cases Dm (AI dec) (HA roots dec) none with
 |none=>rfl
 |some p=>dsimp only;rw[Ai (by simp)];rfl
theorem SG{roots:List Rq}{dec:List Cd}:(Gs roots dec).2=[]↔Ko (HA roots dec) (AI dec)=none:=by
 rw[SF];cases h:Ko (HA roots dec) (AI dec)with
 |none=>simp
 |some p =>
  simp only[reduceCtorEq,iff_false];obtain⟨_,q,hq,e⟩:=SH h;rw[←Ml]at hq;obtain⟨n,hn,rfl⟩:=Al.1 hq;exact List.ne_nil_of_mem (BI.2 ⟨hn,by simpa using e⟩)
structure nM(roots:List Rq)(dec:List Cd)(p:ByteArray)(l:List Nd):Prop where
 next:Ko (HA roots dec) (AI dec)=some p
 undone:CY dec p=false
 mem:∀n,n∈l↔n∈Dk roots dec∧n.rq.path=p
theorem Nt{roots:List Rq}{dec:List Cd}{n0:Nd}{l:List Nd}(h:(Gs roots dec).2=n0::l):nM roots dec (Gs roots dec).1 (n0::l):=by
 rw[←h];rw[SF]at *
 cases hp:Ko (HA roots dec) (AI dec)with
 |none=>rw[hp]at h;cases h
 |some p =>
  dsimp only;refine⟨hp,by rw[←FH];exact(SH hp).1,fun n=>?_⟩;rw[BI];simp
theorem KF{x:List Rl}{p:ByteArray}{c:Cd}:c∈Ch x p↔∃r∈x,r.path=p∧r.yanked=false∧c=⟨plc r.ver,r⟩:=by
 unfold Ch;simp only[Al,BI,Af,Av,CG];constructor
 ·rintro⟨r,⟨h1,h2,h3⟩,rfl⟩;exact⟨r,h1,h2,h3,rfl⟩
 ·rintro⟨r,h1,h2,h3,rfl⟩;exact⟨r,⟨h1,h2,h3⟩,rfl⟩
theorem Ms{i:Nf}:∀{l:List Nf} {k m:Nat},Ll i k l=some m→∃j,m=k+j∧l[j]?=some i
 | [],_,_,h=>by cases h
 |y::l,k,m,h=>by
  unfold Ll at h;split at h
  ·rename_i e;cases h;exact⟨0,rfl,by rw[←e];rfl⟩
  ·obtain⟨j,h1,h2⟩:=Ms h;exact⟨j+1,by omega,h2⟩
theorem Pq{i:Nf}:∀{l:List Nf} {k:Nat},Ll i k l=none→i∉l
 | [],_,_=>by simp
 |y::l,k,h=>by
  unfold Ll at h;split at h
  ·cases h
  ·rename_i e
   have:=Pq h
   simp only[Au,not_or];exact⟨fun e'=>e e'.symm,this⟩
theorem Qp{α:Type}{d d' : List α}{i:Int}{a:α}(h:Jc d i=some a)(hp:d <+: d'):Jc d' i=some a:=by
 unfold Jc at *
 split at h
 ·cases h
 ·rename_i hi;rw[Ai hi];obtain⟨t,rfl⟩:=hp;rw[AY (Ap.1 h).1];exact h
theorem Xb{x:List Rl}{roots:List Rq}{d d' : List (List Tm)}{i:Nf}{o:List Tm}(h:DK x roots d i=some o)(hp:d <+: d'):DK x roots d' i=some o:=by
 unfold DK at *
 split
 ·rename_i e;rw[Ao e]at h;exact h
 rename_i e0;rw[Ai e0]at h;split
 ·rename_i e;rw[Ao e]at h;exact h
 rename_i e1;rw[Ai e1]at h;split
 ·rename_i e;rw[Ao e]at h;exact h
 rename_i e2;rw[Ai e2]at h;split
 ·rename_i e;rw[Ao e]at h;split
  ·rename_i e4;rw[Ao e4]at h;cases ha:Jc d i.left with
   |none=>rw[ha]at h;cases h
   |some a =>
    cases hb:Jc d i.right with
    |none=>rw[ha,hb]at h;cases h
    |some b =>
     rw[ha,hb]at h;rw[Qp ha hp,Qp hb hp];exact h
  ·rename_i e4;rw[Ai e4]at h;cases h
 ·rename_i e;rw[Ai e]at h;cases h
structure Fe(x:List Rl)(roots:List Rq)(s:SS):Prop where
 der:CX x roots s.infs []=some s.drv
 len:s.infs.length≤65536
theorem Fe.dlen{x:List Rl}{roots:List Rq}{s:SS}(h:Fe x roots s):s.drv.length=s.infs.length:=by simpa using IK h.der
theorem Fe.nil(x:List Rl)(roots:List Rq):Fe x roots r8:=⟨rfl,by simp⟩
theorem Fe.at{x:List Rl}{roots:List Rq}{s:SS}(h:Fe x roots s){k:Nat}{i:Nf}(hk:s.infs[k]?=some i):DK x roots s.drv i=some (s.drv.getD k []):=by
 have h1:=MH h.der (k+1);have h0:=MH h.der k;have Ds:=(Ap.1 hk).1;rw[Bn,hk,GI,h0]at h1;have h1:CX x roots [i] (s.drv.take k)=some (s.drv.take (k+1)):=h1;unfold CX at h1;cases hi:DK x roots (s.drv.take k) i with
 |none=>rw[hi]at h1;cases h1
 |some t =>
  rw[hi]at h1;have h1:some (s.drv.take k++[t])=some (s.drv.take (k+1)):=h1;have hd:k<s.drv.length:=by rw[h.dlen];exact Ds
  have:t=s.drv[k]:=by
   have h2:=B2 h1;rw[J5 hd]at h2;exact List.singleton_inj.1 (List.append_cancel_left h2)
  rw[Xb hi (List.take_prefix ..),this];simp[List.getD_eq_getElem?_getD,hd]
structure Grow(s s' : SS):Prop where
 pre:s.drv <+: s'.drv
 preI:s.infs <+: s'.infs
 full:s.full=true→s'.full=true
theorem Grow.refl(s:SS):Grow s s:=⟨Mw,Mw,id⟩
theorem Grow.trans{a b c:SS}(h:Grow a b)(k:Grow b c):Grow a c:=⟨h.pre.trans k.pre,h.preI.trans k.preI,fun e=>k.full (h.full e)⟩
theorem Grow.at{s s' : SS}(h:Grow s s'){k:Nat}(hk:k<s.drv.length):DE s' k=DE s k:=by
 obtain⟨t,e⟩:=h.pre;unfold DE;rw[←e,BP,BP,AY hk]
theorem Grow.len{s s' : SS}(h:Grow s s'):s.drv.length≤s'.drv.length:=h.pre.length_le
theorem Kb(s:SS)(i:Nf)(l:List Tm):Grow s (D5 s i l).2:=by
 unfold D5;split
 ·exact .refl s
 ·split
  ·exact⟨Mw,Mw,fun _=>rfl⟩
  ·exact⟨NJ ..,NJ ..,id⟩
theorem Ka{x:List Rl}{roots:List Rq}{s:SS}(h:Fe x roots s){i:Nf}{l:List Tm}(hi:DK x roots s.drv i=some l) :
  Fe x roots (D5 s i l).2∧(D5 s i l).1<(D5 s i l).2.drv.length∧((D5 s i l).2.full=false→DE (D5 s i l).2 (D5 s i l).1=l):=by
 have hdl:=h.dlen;unfold D5;split
 ·rename_i k hk;obtain⟨j,e,hj⟩:=Ms hk
  have:k=j:=by omega
  subst this;have Ds:=(Ap.1 hj).1;refine⟨h,by show k<s.drv.length;omega,fun _=>?_⟩
  have:=h.at hj
  rw[hi]at this;exact(B2 this).symm
 ·rename_i hk;split
  ·rename_i hf;exact⟨⟨h.der,h.len⟩,by show s.infs.length-1<s.drv.length;omega,fun e=>by cases e⟩
  ·rename_i hf;refine⟨⟨?_,by show(s.infs++[i]).length≤65536;rw[Ac];simp;omega⟩,by show s.infs.length<(s.drv++[l]).length;rw[Ac];simp;omega,fun _=>?_⟩
   ·show CX x roots (s.infs++[i]) []=some (s.drv++[l]);rw[GI,h.der];show CX x roots [i] s.drv=_;unfold CX;rw[hi];rfl
   ·show(s.drv++[l]).getD s.infs.length []=l;rw[←hdl];simp[List.getD_eq_getElem?_getD]
theorem RI(S:List Sl):∀{l:List (List Tm)} {i k:Nat},NY S i l=some k→∃j,k=i+j∧∃t,l[j]?=some t∧Ct t S=true
 | [],_,_,h=>by cases h
 |t::l,i,k,h=>by
  unfold NY at h;split at h
  ·rename_i e;cases h;exact⟨0,rfl,t,rfl,e⟩
  ·obtain⟨j,h1,t',h2,h3⟩:=RI S h;exact⟨j+1,by omega,t',h2,h3⟩
theorem Kg{d:List (List Tm)}{S:List Sl}{k:Nat}(h:NZ d S=some k):k<d.length∧Ct (d.getD k []) S=true:=by
 obtain⟨j,h1,t,h2,h3⟩:=RI S h
 have:k=j:=by omega
 subst this;refine⟨(Ap.1 h2).1,?_⟩;rw[BP,h2];exact h3
end Go.Eng
