/- Lemmas for the claims of this seat, without a condition: part 2 (P8, P9, P10, P11, P12, Q1, Q2). -/
import Derived.Test.YtkmnnpmneamgoaaGreatDoorA01
import Derived.Lib.SplitLaws
import Derived.Lib.IndexBytes
namespace Go.Eng
def CK(l:Bj):Bj:=(l.map Hi).filter fun x=>decide (x.1<x.2)
theorem Oc(a b:Bj):CK (a++b)=CK a++CK b:=by unfold CK;rw[AB,EZ]
theorem Ux{l:Bj}{x:Int×Int}(h:x∈CK l):0≤x.1∧x.1<x.2∧x.2≤1000000:=by
 unfold CK at h;rw[BA,Ao]at h;obtain⟨⟨y,_,rfl⟩,h2⟩:=h;have h2:=CB h2;refine⟨?_,h2,?_⟩<;>simp only[Hi]<;>omega
theorem bn(l:Bj)(p:Int):(CK l).any (BN p)=has l p:=by
 rw[←Km]
 induction l with
 |nil=>rfl
 |cons x r ih =>
  have e:CK (x::r)=(if(Hi x).1<(Hi x).2 then [Hi x]else [])++CK r:=by
   unfold CK;rw[AM,Dp]
   by_cases h:(Hi x).1<(Hi x).2<;>simp[h]
  have ec:canon (x::r)=if(Hi x).1<(Hi x).2 then Vr (Hi x) (canon r)else canon r:=rfl
  rw[e,Gj,ih,ec]
  by_cases h:(Hi x).1<(Hi x).2
  ·rw[Aw h,Aw h,N4 _ p (Ci r) h];simp
  ·rw[Am h,Am h];simp
theorem No:∀{l:Bj} {lo:Int},EF lo l↔(∀y∈l,lo≤y.1∧y.1<y.2∧y.2≤1000000)∧l.Pairwise fun a b=>a.2<b.1
 | [],lo=>by simp[EF]
 |y::r,lo=>by
  rw[Dh];constructor
  ·intro h;have hl:=h.low;refine⟨hl,fun z hz=>?_,((No (l:=r)).1 h.2.2.2).2⟩
   have:=h.2.2.2.low z hz;omega
  ·intro⟨h1,h2,h3⟩;have hy:=h1 y (Ab ..);refine⟨hy.1,hy.2.1,hy.2.2,No.2 ⟨fun z hz=>?_,h3⟩⟩
   have:=h1 z (Ag _ hz)
   have:=h2 z hz
   omega
def KK(r:Bj)(x:Int×Int):Bj:=match r with
 | []=>[x]
 |y::t=>if x.1≤y.2 then(y.1,max y.2 x.2)::t else x::y::t
def BH(s:Bj):Bj:=s.foldl KK []
theorem Gs(s:Bj)(i:Nat)(h:i<s.length):BH (s.take (i+1))=KK (BH (s.take i)) s[i]:=by
 unfold BH;rw[Bk,Ay h,Kd];rfl
theorem db(r:Bj)(x:Int×Int):(KK r x).length≤r.length+1∧r.length≤(KK r x).length∧0<(KK r x).length:=by
 unfold KK;split
 ·simp
 ·split<;>simp
theorem SW(s:Bj):∀i,i≤s.length→(BH (s.take i)).length≤i∧(0<i→0<(BH (s.take i)).length):=by
 intro i
 induction i with
 |zero=>intro _;simp[BH]
 |succ i ih =>
  intro h;rw[Gs s i (by omega)]
  have:=db (BH (s.take i)) s[i]
  have:=ih (by omega)
  omega
structure lW(r done:Bj):Prop where
 ok:∀y∈r,0≤y.1∧y.1<y.2∧y.2≤1000000
 pw:r.Pairwise fun a b=>b.2<a.1
 has:∀p,r.any (BN p)=done.any (BN p)
 first:∀y t,r=y::t→∃x∈done,y.1=x.1
theorem da{r done:Bj}{x:Int×Int}(h:lW r done)(hx:0≤x.1∧x.1<x.2∧x.2≤1000000)(hs:∀y∈done,y.1≤x.1):lW (KK r x) (done++[x]):=by
 unfold KK;split
 ·refine⟨fun y hy=>?_,by simp,fun p=>?_,fun y t e=>?_⟩
  ·rw[Ai.1 hy];exact hx
  ·rw[Gj,←h.has];rfl
  ·cases e;exact⟨x,by simp,rfl⟩
 ·rename_i y t;have hy:=h.ok y (Ab ..);obtain⟨ye,pw2⟩:=Dh.1 h.pw;obtain⟨z,hz,e⟩:=h.first y t rfl
  have oK:=hs z hz;split
  ·rename_i HI;refine⟨fun u hu=>?_,Dh.2 ⟨ye,pw2⟩,fun p=>?_,fun u t' e'=>?_⟩
   ·rcases AF.1 hu with rfl | hu
    ·exact⟨hy.1,by dsimp only;omega,by dsimp only;omega⟩
    ·exact h.ok u (Ag _ hu)
   ·rw[Gj,←h.has,Cf,Cf,Cf,List.any_nil,QP]
    have:BN p (y.1,max y.2 x.2)=(BN p y||BN p x):=by
     simp only[BN];rw[BX];simp only[Af,CO,Az];omega
    rw[this];cases BN p y<;>cases BN p x<;>cases t.any (BN p)<;>rfl
   ·cases e';exact⟨z,Bs _ hz,e⟩
  ·rename_i HI;refine⟨fun u hu=>?_,Dh.2 ⟨fun u hu=>?_,h.pw⟩,fun p=>?_,fun u t' e'=>?_⟩
   ·rcases AF.1 hu with rfl | hu
    ·exact hx
    ·exact h.ok u hu
   ·rcases AF.1 hu with rfl | hu
    ·omega
    ·have:=ye u hu;omega
   ·rw[Gj,←h.has,Cf,Cf,Cf,List.any_nil,QP];cases BN p y<;>cases BN p x<;>cases t.any (BN p)<;>rfl
   ·cases e';exact⟨x,by simp,rfl⟩
theorem Y5{s:Bj}(F3:∀y∈s,0≤y.1∧y.1<y.2∧y.2≤1000000)(hs:s.Pairwise fun a b=>a.1≤b.1):∀i,i≤s.length→lW (BH (s.take i)) (s.take i):=by
 intro i
 induction i with
 |zero=>intro _;exact⟨fun _ h=>by simp[BH]at h,by simp[BH],fun p=>by simp[BH],fun y t e=>by simp[BH]at e⟩
 |succ i ih =>
  intro h;have hi:i<s.length:=by omega
  rw[Gs s i hi];have e:s.take (i+1)=s.take i++[s[i]]:=by rw[Bk,Ay hi];rfl
  rw[e];refine da (ih (by omega)) (F3 _ (AC hi)) fun y hy=>?_;obtain⟨j,hj,rfl⟩:=DP.1 hy;rw[List.getElem_take];rw[AN]at hj;exact(Bb.1 hs) j i (by omega) hi (by omega)
theorem QR{l s:Bj}(hp:s.Perm (CK l))(hs:s.Pairwise fun a b=>a.1≤b.1):(BH s).reverse=canon l:=by
 have hi:=Y5 (s:=s) (fun y hy=>Ux (hp.mem_iff.1 hy)) hs s.length (Ak _);rw[DU]at hi;have hc:Ey (BH s).reverse:=by
  unfold Ey;rw[No];refine⟨fun y hy=>hi.ok y (List.mem_reverse.1 hy),?_⟩;rw[List.pairwise_reverse];exact hi.pw
 refine RV hc fun p=>?_;rw[Hu hc,List.any_reverse,hi.has,←bn];rw[BX,Bf,Bf];constructor
 ·rintro⟨y,h1,h2⟩;exact⟨y,hp.mem_iff.1 h1,h2⟩
 ·rintro⟨y,h1,h2⟩;exact⟨y,hp.mem_iff.2 h1,h2⟩
end Go.Eng

namespace Go.Eng
-- maps from numbers to numbers,as lists in the order in which they are met
def Fp(m:List (Int×Int))(k:Int):Int:=match m.find? (fun p=>decide (p.1=k))with | some p=>p.2 | none=>0
def Lc(m:List (Int×Int))(k v:Int):List (Int×Int):=if m.any (fun p=>decide (p.1=k))then m.map (fun p=>if p.1=k then(k,v)else p)else m++[(k,v)]
theorem Hd(p:Int×Int)(m:List (Int×Int))(k:Int):Fp (p::m) k=if p.1=k then p.2 else Fp m k:=by
 unfold Fp;rw[FG];by_cases h:p.1=k<;>simp[h]
theorem O0(m:List (Int×Int))(k v j:Int):Fp (Lc m k v) j=if j=k then v else Fp m j:=by
 unfold Lc;split
 ·rename_i h
  induction m with
  |nil=>simp at h
  |cons p m ih =>
   rw[AM,Hd,Hd]
   by_cases e:p.1=k
   ·rw[Aw e];dsimp only
    by_cases ej:j=k
    ·subst ej;simp
    ·rw[Am (fun c=>ej c.symm),Am ej,Am (fun c=>ej (c.symm.trans e))]
     by_cases hm:(m.any fun p=>decide (p.1=k))=true
     ·rw[ih hm,Am ej]
     ·have:∀q∈m,q.1≠k:=fun q hq e=>hm (Bf.2 ⟨q,hq,by simp[e]⟩)
      have:m.map (fun p=>if p.1=k then(k,v)else p)=m:=by
       conv=>rhs;rw[←LL m]
       exact Be fun q hq=>by simp[this q hq]
      rw[this]
   ·rw[Am e];have hm:(m.any fun p=>decide (p.1=k))=true:=by simpa[e]using h
    rw[ih hm]
    by_cases ej:j=k
    ·subst ej;simp[e]
    ·simp[ej]
 ·rename_i h;have hn:∀q∈m,q.1≠k:=fun q hq e=>h (Bf.2 ⟨q,hq,by simp[e]⟩)
  induction m with
  |nil =>
   rw[D8,Hd]
   by_cases ej:j=k
   ·simp[ej]
   ·have:¬k=j:=fun c=>ej c.symm
    simp[ej,this]
  |cons p m ih =>
   rw[Iq,Hd,Hd];have e:=hn p (Ab ..);have ih:=ih (by simpa[e]using h) fun q hq=>hn q (Ag _ hq)
   by_cases ep:p.1=j
   ·have:¬j=k:=fun c=>e (ep.trans c)
    simp[ep,this]
   ·simp only[ep,FL];exact ih
def E4(m:List (Int×Int)):List Int:=m.map (·.1)
theorem UR(m:List (Int×Int))(k v:Int):E4 (Lc m k v)=if k∈E4 m then E4 m else E4 m++[k]:=by
 unfold Lc E4;have e:(m.any fun p=>decide (p.1=k))=decide (k∈m.map (·.1)):=by
  rw[BX];simp only[Bf,Az,Ao]
 rw[e]
 by_cases h:k∈m.map (·.1)
 ·simp only[h,decide_true,LI,BW];apply Be;intro p _;simp only[Function.comp];split
  ·rename_i e;exact e.symm
  ·rfl
 ·simp[h]
theorem Ma{m:List (Int×Int)}(h:(E4 m).Nodup)(k v:Int):(E4 (Lc m k v)).Nodup:=by
 rw[UR];split
 ·exact h
 ·rename_i hn;rw[Fz];exact⟨h,by simp,fun a ha b hb e=>by subst e;rw[Ai.1 hb]at ha;exact hn ha⟩
theorem HX(m:List (Int×Int))(k v j:Int):j∈E4 (Lc m k v)↔j=k∨j∈E4 m:=by
 rw[UR];split
 ·rename_i h;constructor
  ·exact .inr
  ·rintro(rfl | h')
   ·exact h
   ·exact h'
 ·simp[or_comm]
theorem iI{m:List (Int×Int)}(h:(E4 m).Nodup){p:Int×Int}(hp:p∈m):Fp m p.1=p.2:=by
 induction m with
 |nil=>cases hp
 |cons q m ih =>
  rw[Hd];unfold E4 at h ih;rw[AM,CQ]at h;rcases AF.1 hp with rfl | hp
  ·simp
  ·have:¬q.1=p.1:=fun e=>h.1 (e▸Ao.2 ⟨p,hp,rfl⟩)
   rw[Am this];exact ih h.2 hp
theorem iJ{m:List (Int×Int)}{k:Int}(h:k∉E4 m):Fp m k=0:=by
 unfold Fp
 have:m.find? (fun p=>decide (p.1=k))=none:=by
  rw[DO];intro p hp;simp only[Az];exact fun e=>h (Ao.2 ⟨p,hp,e⟩)
 rw[this]
-- counting
def cF(S:Bj)(k:Int):Nat:=S.countP fun x=>decide (x.1=k)
def cT(S:Bj)(k:Int):Nat:=S.countP fun x=>decide (x.2=k)
def lF(S:Bj)(k:Int):Nat:=S.countP fun x=>decide (x.1≤k)
def lT(S:Bj)(k:Int):Nat:=S.countP fun x=>decide (x.2≤k)
theorem IP{α:Type}{p q r:α→Bool}:∀{l:List α},(∀x∈l,(p x=true↔q x=true∨r x=true)∧¬(q x=true∧r x=true))→l.countP p=l.countP q+l.countP r
 | [],_=>rfl
 |x::l,h=>by
  have ih:=IP fun y hy=>h y (Ag _ hy);obtain⟨h1,h2⟩:=h x (Ab ..);rw[Ir,Ir,Ir,ih];cases hp:p x<;>cases hq:q x<;>cases hr:r x<;>simp_all<;>omega
structure H8(m:List (Int×Int))(S:Bj):Prop where
 nd:(E4 m).Nodup
 val:∀k,Fp m k=(cF S k:Int)-cT S k
 keys:0∈E4 m∧1000000∈E4 m∧∀x∈S,x.1∈E4 m∧x.2∈E4 m
 rng:∀k∈E4 m,0≤k∧k≤1000000
def pG:List (Int×Int):=[(0,0),(1000000,0)]
theorem jr:H8 pG []:=⟨by decide,fun k=>by
  unfold pG;rw[Hd,Hd];simp[Fp,cF,cT],⟨by decide,by decide,fun _ h=>by cases h⟩,fun k hk=>by
  unfold pG E4 at hk;simp at hk;omega⟩
def X6(m:List (Int×Int))(x:Int×Int):List (Int×Int):=Lc (Lc m x.1 (Fp m x.1+1)) x.2 (Fp (Lc m x.1 (Fp m x.1+1)) x.2-1)
theorem c9{m:List (Int×Int)}{S:Bj}{x:Int×Int}(h:H8 m S)(hx:0≤x.1∧x.1<x.2∧x.2≤1000000):H8 (X6 m x) (S++[x]):=by
 unfold X6;refine⟨Ma (Ma h.nd _ _) _ _,fun k=>?_,⟨?_,?_,fun y hy=>?_⟩,fun k hk=>?_⟩
 ·rw[O0,O0,O0,h.val,h.val,h.val];unfold cF cT;simp only[List.countP_append,List.countP_singleton,Az]
  by_cases e1:k=x.2
  ·subst e1
   have:¬x.2=x.1:=by omega
   have:¬x.1=x.2:=by omega
   simp[*];omega
  ·by_cases e2:k=x.1
   ·subst e2
    have:¬x.2=x.1:=by omega
    have:¬x.1=x.2:=by omega
    simp[*];omega
   ·have a1:¬x.1=k:=fun c=>e2 c.symm;have a2:¬x.2=k:=fun c=>e1 c.symm;simp[e1,e2,a1,a2]
 ·rw[HX,HX];exact .inr (.inr h.keys.1)
 ·rw[HX,HX];exact .inr (.inr h.keys.2.1)
 ·simp only[HX];rcases A2.1 hy with hy | hy
  ·have:=h.keys.2.2 y hy
   exact⟨.inr (.inr this.1),.inr (.inr this.2)⟩
  ·rw[Ai.1 hy];exact⟨.inr (.inl rfl),.inl rfl⟩
 ·rw[HX,HX]at hk;rcases hk with rfl | rfl | hk
  ·omega
  ·omega
  ·exact h.rng k hk
def In(m:List (Int×Int))(B:List Int):Int:=(B.map (Fp m)).foldl (·+·) 0
theorem PW(m:List (Int×Int))(B:List Int)(i:Nat)(h:i<B.length):In m (B.take (i+1))=In m (B.take i)+Fp m B[i]:=by
 unfold In;rw[Bk,Ay h,AB,Kd];simp only[Option.toList_some,AM,E6,EI,List.foldl_nil]
structure jb(B:List Int)(m:List (Int×Int)):Prop where
 perm:B.Perm (E4 m)
 srt:B.Pairwise fun a b=>a<b
theorem aE{m:List (Int×Int)}{S:Bj}{B:List Int}(h:H8 m S)(hB:jb B m):∀i (hi:i<B.length),In m (B.take (i+1))=(lF S B[i]:Int)-lT S B[i]:=by
 have mem:∀k,k∈E4 m→∃j,∃hj:j<B.length,B[j]=k:=fun k hk=>by
  have:=hB.perm.mem_iff.2 hk
  obtain⟨j,hj,e⟩:=DP.1 this;exact⟨j,hj,e⟩
 have lt:∀i j (hi:i<B.length) (hj:j<B.length),i<j→B[i]<B[j]:=fun i j hi hj Qs=>(Bb.1 hB.srt) i j hi hj Qs;intro i
 induction i with
 |zero =>
  intro hi;rw[PW m B 0 hi,h.val]
  have:In m (B.take 0)=0:=by simp[In]
  rw[this];have low:∀k∈E4 m,B[0]≤k:=fun k hk=>by
   obtain⟨j,hj,rfl⟩:=mem k hk;cases j with
   |zero=>exact BP _
   |succ j=>have:=lt 0 (j+1) hi hj (by omega);omega
  have e1:lF S B[0]=cF S B[0]:=by
   unfold lF cF;apply Qf;intro x hx
   have:=low _ (h.keys.2.2 x hx).1
   simp only[Az];omega
  have e2:lT S B[0]=cT S B[0]:=by
   unfold lT cT;apply Qf;intro x hx
   have:=low _ (h.keys.2.2 x hx).2
   simp only[Az];omega
  rw[e1,e2];omega
 |succ i ih =>
  intro hi;rw[PW m B (i+1) hi,ih (by omega),h.val];have nb:∀k∈E4 m,k≤B[i+1]↔k≤B[i]∨k=B[i+1]:=fun k hk=>by
   obtain⟨j,hj,rfl⟩:=mem k hk;have l0:=lt i (i+1) (by omega) hi (by omega);rcases Nat.lt_trichotomy j (i+1)with c | c | c
   ·have:B[j]≤B[i]:=by
     rcases DV j i with d | d
     ·have:=lt j i hj (by omega) d;omega
     ·have:j=i:=by omega
      subst this;exact BP _
    omega
   ·subst c;omega
   ·have:=lt (i+1) j hi hj c;omega
  have l0:=lt i (i+1) (by omega) hi (by omega);have e1:lF S B[i+1]=lF S B[i]+cF S B[i+1]:=by
   unfold lF cF;apply IP;intro x hx
   have:=nb _ (h.keys.2.2 x hx).1
   simp only[Az];omega
  have e2:lT S B[i+1]=lT S B[i]+cT S B[i+1]:=by
   unfold lT cT;apply IP;intro x hx
   have:=nb _ (h.keys.2.2 x hx).2
   simp only[Az];omega
  rw[e1,e2];omega
theorem WL{S:Bj}(hS:∀x∈S,x.1<x.2)(p:Int):(lF S p:Int)-lT S p=(S.countP (BN p):Nat):=by
 have:lF S p=S.countP (BN p)+lT S p:=by
  unfold lF lT;apply IP;intro x hx
  have:=hS x hx
  simp only[BN,Af,Az];omega
 omega
theorem Oe:∀{l:Bj} {lo:Int} (p:Int),EF lo l→l.countP (BN p)=if l.any (BN p)then 1 else 0
 | [],_,_,_=>rfl
 |y::r,lo,p,⟨h1,h2,h3,h4⟩=>by
  rw[Ir,Oe p h4,Cf];cases hy:BN p y with
  |false=>rw[LG];simp
  |true =>
   have:=DC.1 hy
   have:r.any (BN p)=false:=by
    rw[AL];intro hr;have:=Mp h4 hr;omega
   simp[this]
theorem LP:∀(l:List Bj) (p:Int),((l.map canon).flatten).countP (BN p)=dq l p
 | [],_=>rfl
 |s::l,p=>by
  rw[AM,BL,List.countP_append,LP l p,Oe p (Ci s),Km];unfold dq;rw[Ir];omega
def Em(keep:Nat→Bool)(m:List (Int×Int))(B:List Int):Nat→Bj
 |0=>[]
 |i+1=>Em keep m B i++(match B[i]?,B[i+1]? with
  |some a,some b=>if keep (In m (B.take (i+1))).toNat then [(a,b)]else []
  |_,_=>[])
theorem Px{keep:Nat→Bool}{m:List (Int×Int)}{B:List Int}{x:Int×Int}:∀{n:Nat},x∈Em keep m B n↔∃i,i<n∧∃(h1:i<B.length) (h2:i+1<B.length),keep (In m (B.take (i+1))).toNat=true∧x=(B[i],B[i+1])
 |0=>by simp[Em]
 |n+1=>by
  unfold Em;rw[A2,Px (n:=n)];constructor
  ·rintro(⟨i,h1,h2⟩ | h)
   ·exact⟨i,by omega,h2⟩
   ·split at h
    ·rename_i a b ha hb;obtain⟨h1,e1⟩:=At.1 ha;obtain⟨h2,e2⟩:=At.1 hb;split at h
     ·rename_i hk;refine⟨n,by omega,h1,h2,hk,?_⟩;rw[Ai.1 h,e1,e2]
     ·cases h
    ·cases h
  ·rintro⟨i,h1,h2,h3,h4,rfl⟩
   by_cases e:i=n
   ·subst e;refine .inr ?_;rw[Ay h2,Ay h3];simp[h4]
   ·exact .inl ⟨i,by omega,h2,h3,h4,rfl⟩
theorem N9{B:List Int}(hs:B.Pairwise fun a b=>a<b){p:Int}:∀(n:Nat) (h0:0<B.length) (hn:n<B.length),B[0]≤p→p<B[n]→∃i,∃(h1:i<B.length) (h2:i+1<B.length),B[i]≤p∧p<B[i+1]
 |0,h0,hn,h1,h2=>by omega
 |n+1,h0,hn,h1,h2=>by
  by_cases e:B[n]≤p
  ·exact⟨n,by omega,hn,e,h2⟩
  ·exact N9 hs n h0 (by omega) h1 (by omega)
theorem fY{keep:Nat→Bool}{l:List Bj}{m:List (Int×Int)}{B:List Int}(h:H8 m (l.map canon).flatten)(hB:jb B m)(p:Int):has (Em keep m B (B.length-1)) p=(LB p&&keep (dq l p)):=by
 have hS:∀x∈(l.map canon).flatten,x.1<x.2:=fun x hx=>by
  obtain⟨s,hs,hx⟩:=E0.1 hx;obtain⟨t,_,rfl⟩:=Ao.1 hs;exact((Ci t).low x hx).2.1
 have mem:∀k,k∈E4 m→∃j,∃hj:j<B.length,B[j]=k:=fun k hk=>by
  obtain⟨j,hj,e⟩:=DP.1 (hB.perm.mem_iff.2 hk);exact⟨j,hj,e⟩
 have lt:∀i j (hi:i<B.length) (hj:j<B.length),i<j→B[i]<B[j]:=fun i j hi hj Qs=>(Bb.1 hB.srt) i j hi hj Qs;have rng:∀i (hi:i<B.length),0≤B[i]∧B[i]≤1000000:=fun i hi=>h.rng _ (hB.perm.mem_iff.1 (AC hi))
 -- Vv two bounds
 have Vv:∀i (h1:i<B.length) (h2:i+1<B.length),B[i]≤p→p<B[i+1]→(In m (B.take (i+1))).toNat=dq l p:=fun i h1 h2 a b=>by
  have same:∀k∈E4 m,k≤B[i]↔k≤p:=fun k hk=>by
   obtain⟨j,hj,rfl⟩:=mem k hk;constructor
   ·intro c;omega
   ·intro c;rcases DV i j with d | d
    ·rcases DV (i+1) j with f | f
     ·have:=lt (i+1) j h2 hj f;omega
     ·have:j=i+1:=by omega
      subst this;omega
    ·rcases DV j i with f | f
     ·have:=lt j i hj h1 f;omega
     ·have:j=i:=by omega
      subst this;exact BP _
  have e1:lF (l.map canon).flatten B[i]=lF (l.map canon).flatten p:=by
   unfold lF;apply Qf;intro x hx
   have:=same _ (h.keys.2.2 x hx).1
   simp only[Az];exact this
  have e2:lT (l.map canon).flatten B[i]=lT (l.map canon).flatten p:=by
   unfold lT;apply Qf;intro x hx
   have:=same _ (h.keys.2.2 x hx).2
   simp only[Az];exact this
  rw[aE h hB i h1,e1,e2,WL hS,LP];simp
 rw[BX];constructor
 ·intro hh;have dx:=L3 hh;unfold has at hh;simp only[dx,decide_true,Ev]at hh;obtain⟨x,hx,hp⟩:=Bf.1 hh;obtain⟨i,_,h1,h2,hk,rfl⟩:=Px.1 hx
  have:=DC.1 hp
  dsimp only at this;rw[←Vv i h1 h2 this.1 this.2];simp[LB,dx,hk]
 ·intro hh;simp only[Af,LB,Az]at hh;obtain⟨⟨p0,p1⟩,hk⟩:=hh;obtain⟨j0,zP,e0⟩:=mem 0 h.keys.1;obtain⟨j1,zQ,e1⟩:=mem 1000000 h.keys.2.1;have uo:B[0]'(by omega)≤p:=by
   have:B[0]'(by omega)≤0:=by
    cases j0 with
    |zero=>omega
    |succ j=>have:=lt 0 (j+1) (by omega) zP (by omega);omega
   omega
  obtain⟨i,h1,h2,a,b⟩:=N9 hB.srt j1 (by omega) zQ uo (by omega);unfold has;simp only[p0,p1,decide_true,Ev];exact Bf.2 ⟨(B[i],B[i+1]),Px.2 ⟨i,by omega,h1,h2,by rw[Vv i h1 h2 a b];exact hk,rfl⟩,DC.2 ⟨a,b⟩⟩
theorem iv{l:List Bj}{m:List (Int×Int)}{B:List Int}(h:H8 m (l.map canon).flatten)(hB:jb B m)(i:Nat)(hi:i<B.length):0≤In m (B.take (i+1))∧In m (B.take (i+1))≤l.length:=by
 have hS:∀x∈(l.map canon).flatten,x.1<x.2:=fun x hx=>by
  obtain⟨s,hs,hx⟩:=E0.1 hx;obtain⟨t,_,rfl⟩:=Ao.1 hs;exact((Ci t).low x hx).2.1
 rw[aE h hB i hi,WL hS,LP]
 have:dq l B[i]≤l.length:=List.countP_le_length
 omega
end Go.Eng

namespace Go.Eng
def Wa(m:List Tm)(t:Tm):List Tm:=if m.any (fun u=>decide (u.path=t.path))then m.map (fun u=>if u.path=t.path then t else u)else m++[t]
def QN(m:List Tm)(t:Tm):List Tm:=Wa m (NL (Dg m t.path) t)
def CW(l:List Tm):List Tm:=l.foldl QN []
theorem bB(t:Tm)(p:ByteArray):∀m:List Tm,Dg (Wa m t) p=if t.path=p then some t else Dg m p:=by
 intro m;unfold Wa
 by_cases h:(m.any fun u=>decide (u.path=t.path))=true
 ·rw[Aw h]
  induction m with
  |nil=>simp at h
  |cons u m ih =>
   rw[AM,CF,CF]
   by_cases e:u.path=t.path
   ·rw[Aw e]
    by_cases ep:t.path=p
    ·simp[ep]
    ·rw[Am ep,Am ep,Am (fun c=>ep (e.symm.trans c))]
     by_cases hm:(m.any fun u=>decide (u.path=t.path))=true
     ·rw[ih hm,Am ep]
     ·have:∀q∈m,q.path≠t.path:=fun q hq c=>hm (Bf.2 ⟨q,hq,by simp[c]⟩)
      have:m.map (fun u=>if u.path=t.path then t else u)=m:=by
       conv=>rhs;rw[←LL m]
       exact Be fun q hq=>by simp[this q hq]
      rw[this]
   ·rw[Am e];have hm:(m.any fun u=>decide (u.path=t.path))=true:=by simpa[e]using h
    rw[ih hm]
    by_cases ep:t.path=p
    ·subst ep;simp[e]
    ·simp[ep]
 ·rw[Am h];have hn:∀q∈m,q.path≠t.path:=fun q hq e=>h (Bf.2 ⟨q,hq,by simp[e]⟩)
  clear h
  induction m with
  |nil=>rw[D8,CF]
  |cons u m ih =>
   rw[Iq,CF,CF,ih fun q hq=>hn q (Ag _ hq)]
   have:=hn u (Ab ..)
   by_cases e:u.path=p
   ·have:¬t.path=p:=fun c=>this (e.trans c.symm)
    simp[e,this]
   ·simp[e]
def En(m:List Tm):List ByteArray:=m.map (·.path)
open Classical in
theorem Zd(m:List Tm)(t:Tm):En (Wa m t)=if t.path∈En m then En m else En m++[t.path]:=by
 unfold Wa En;have e:(m.any fun u=>decide (u.path=t.path))=true↔t.path∈m.map (·.path):=by
  simp only[Bf,Az,Ao]
 by_cases h:t.path∈m.map (·.path)
 ·rw[Aw (e.2 h),Aw h,BW];apply Be;intro p _;simp only[Function.comp];split
  ·rename_i e;exact e.symm
  ·rfl
 ·rw[Am (fun c=>h (e.1 c)),Am h,AB];rfl
theorem cu{m:List Tm}(h:(En m).Nodup)(t:Tm):(En (Wa m t)).Nodup:=by
 rw[Zd];split
 ·exact h
 ·rename_i hn;rw[Fz];exact⟨h,by simp,fun a ha b hb e=>by subst e;rw[Ai.1 hb]at ha;exact hn ha⟩
theorem QD(l:List Tm)(i:Nat)(h:i<l.length):CW (l.take (i+1))=QN (CW (l.take i)) l[i]:=by
 unfold CW;rw[Bk,Ay h,Kd];rfl
theorem On:∀(l m:List Tm),(En m).Nodup→(En (l.foldl QN m)).Nodup
 | [],_,h=>h
 |_::l,_,h=>On l _ (cu h _)
theorem Hz(l:List Tm):(En (CW l)).Nodup:=On l [] .nil
theorem WW(m:List Tm)(t:Tm)(p:ByteArray):Dg (QN m t) p=JV p (Dg m p) t:=by
 unfold QN JV;have hp:(NL (Dg m t.path) t).path=t.path:=PI _ _ fun u h=>G3 h;rw[bB,hp]
 by_cases e:t.path=p
 ·rw[Aw e,Aw e,e]
 ·rw[Am e,Am e]
theorem Ok(p:ByteArray):∀(l m:List Tm),Dg (l.foldl QN m) p=l.foldl (JV p) (Dg m p)
 | [],_=>rfl
 |t::l,m=>by rw[EI,EI,Ok p l,WW]
theorem YG(l:List Tm)(p:ByteArray):Dg (CW l) p=Dg (EV l) p:=by
 unfold CW;rw[Ok,IT];rfl
theorem LX{m:List Tm}(h:(En m).Nodup){t:Tm}:t∈m↔Dg m t.path=some t:=by
 constructor
 ·induction m with
  |nil=>intro h;cases h
  |cons u m ih =>
   intro ht;unfold En at h ih;rw[AM,CQ]at h;rw[CF];rcases AF.1 ht with rfl | ht
   ·rw[Aw rfl]
   ·have:¬u.path=t.path:=fun e=>h.1 (e▸Ao.2 ⟨t,ht,rfl⟩)
    rw[Am this];exact ih h.2 ht
 ·exact Fb
theorem HB{m:List Tm}(h:(En m).Nodup):m.Nodup:=by
 unfold En at h
 induction m with
 |nil=>exact .nil
 |cons u m ih =>
  rw[AM,CQ]at h;exact CQ.2 ⟨fun hu=>h.1 (Ao.2 ⟨u,hu,rfl⟩),ih h.2⟩
theorem HF{l:List Tm}{lo:Option ByteArray}(h:Ce lo l):(En l).Nodup:=by
 unfold En
 induction l generalizing lo with
 |nil=>exact .nil
 |cons t l ih =>
  rw[AM,CQ];refine⟨fun hm=>?_,ih h.2.2⟩;obtain⟨u,hu,e⟩:=Ao.1 hm
  have:=h.2.2.low u hu
  rw[e,DM]at this;cases this
theorem I2(l:List Tm)(t:Tm):t∈CW l↔t∈EV l:=by
 rw[LX (Hz l),YG,←LX (HF (Ed l))]
theorem OG(l:List Tm):∀t∈CW l,Ey t.set:=fun t ht=>(Ed l).canon t ((I2 l t).1 ht)
theorem de(m:List Tm)(t:Tm):(QN m t).length≤m.length+1:=by
 unfold QN Wa;split<;>simp
theorem NE(l:List Tm):∀i,i≤l.length→(CW (l.take i)).length≤i:=by
 intro i
 induction i with
 |zero=>intro _;simp[CW]
 |succ i ih =>
  intro h;rw[QD l i (by omega)]
  have:=de (CW (l.take i)) l[i]
  have:=ih (by omega)
  omega
theorem Zu{s:List Tm}(hs:s.Pairwise fun x y=>FV x.path y.path=true)(hc:∀t∈s,Ey t.set):Ce none s:=by
 have:∀(s:List Tm) (lo:Option ByteArray),s.Pairwise (fun x y=>FV x.path y.path=true)→(∀t∈s,Ey t.set)→(∀p,lo=some p→∀t∈s,FV p t.path=true)→Ce lo s:=by
  intro s
  induction s with
  |nil=>intro _ _ _ _;trivial
  |cons t s ih =>
   intro lo hs hc hl;obtain⟨h1,h2⟩:=Dh.1 hs;exact⟨fun p e=>hl p e t (Ab ..),hc t (Ab ..),ih _ h2 (fun u hu=>hc u (Ag _ hu)) fun p e u hu=>by cases e;exact h1 u hu⟩
 exact this s none hs hc fun _ e=>by cases e
theorem Pg{l s:List Tm}(q:Tm→Bool)(hp:s.Perm ((CW l).filter q))(hs:s.Pairwise fun x y=>FV y.path x.path=false):s=(EV l).filter q:=by
 have hm:∀t,t∈s↔t∈(EV l).filter q:=fun t=>by
  rw[hp.mem_iff,BA,BA,I2]
 have Pq:(En s).Nodup:=by
  have h1:(En ((CW l).filter q)).Nodup:=by
   unfold En;exact List.Nodup.sublist (List.Sublist.map _ List.filter_sublist) (Hz l)
  unfold En at h1⊢;exact(hp.map (·.path)).nodup_iff.2 h1
 have FK:s.Pairwise fun x y=>FV x.path y.path=true:=by
  rw[Bb]at hs⊢;intro i j hi hj Qs;cases hb:FV s[i].path s[j].path with
  |true=>rfl
  |false =>
   have e:=JC hb (hs i j hi hj Qs);unfold En at Pq
   have:=(Bb.1 Pq) i j (by simpa using hi) (by simpa using hj) Qs
   simp at this;exact absurd e this
 have xZ:Ce none s:=Zu FK fun t ht=>(Ed l).canon t (BA.1 ((hm t).1 ht)).1;have dB:Ce none ((EV l).filter q):=Ce.filter q (Ed l);refine Mm xZ dB fun p=>?_;cases h1:Dg s p with
 |some t =>
  have:=(hm t).1 (Fb h1)
  rw[FI dB,G3 h1]at this;exact this.symm
 |none =>
  cases h2:Dg ((EV l).filter q) p with
  |none=>rfl
  |some t =>
   have:=(hm t).2 (Fb h2)
   rw[FI xZ,G3 h2,h1]at this;cases this
theorem Yt(t:Tm):GT t t=Lp t:=by unfold GT Lp;rw[YY,Bool.and_self]
theorem ay(o:Option Tm)(t:Tm):NL o t=GT (o.getD t) t:=by cases o with | none=>exact(Yt t).symm | some u=>rfl
theorem aV{t:Tm}(h:Ey t.set):(t.absent&&(Ec t.set).isEmpty)=GB t:=by
 unfold GB
 congr 1
 rw[BX,GR,Az];have ha:Ey [(0,1000000)]:=⟨BP _,by dsimp only;omega,BP _,trivial⟩;constructor
 ·intro e;refine Hm h ha fun p=>?_
  have:=FJ t.set p
  rw[e]at this;have h0:has [] p=false:=by simp[has]
  rw[h0]at this;have h1:has [(0,1000000)] p=LB p:=by simp[has,LB,BN]
  rw[h1];cases hp:LB p with
  |true=>rw[hp]at this;simpa using this.symm
  |false =>
   rw[AL];intro hh
   have:=L3 hh
   simp[LB,this]at hp
 ·intro e;rw[PE (G8 _)];intro p;rw[FJ,e];have h1:has [(0,1000000)] p=LB p:=by simp[has,LB,BN]
  rw[h1];simp
theorem gq{t:Tm}(h:Ey t.set):(!t.absent&&(canon t.set).isEmpty)=HA t:=by unfold HA;rw[I9 h]
end Go.Eng

namespace Go.Eng
open Go.Lib
theorem PS(c:UInt8):∀(s:List UInt8) (k:Nat),s.count c≤k→splitK [c] 0 k s=Fv c s
 | [],k,_=>by
  cases k with
  |zero=>rfl
  |succ k=>rfl
 |b::r,k,h=>by
  rw[Fv]
  by_cases e:b=c
  ·subst e;rw[List.count_cons_self]at h;obtain⟨k',rfl⟩:∃k',k=k'+1:=⟨k-1,by omega⟩;rw[Aw rfl,splitK,index_one,indexByte];simp only[beq_self_eq_true,LI];rw[Am (by decide)];show []::splitK [b] 0 k' r=_;rw[PS b r k' (by omega)]
  ·have Dn:(b == c)=false:=by simpa using e
   rw[List.count_cons_of_ne (by simpa using e)]at h;have ih:=PS c r k h;rw[Am e];cases k with
   |zero =>
    rw[←ih];rfl
   |succ k =>
    rw[←ih,splitK,splitK,index_one,index_one,indexByte,Dn]
    by_cases h0:indexByte r c=-1
    ·rw[h0];rfl
    ·have h1:(indexByte r c == -1)=false:=by simpa using h0
     have h2:=indexByte_ge r c;have h3:(indexByte r c+1 == -1)=false:=by rw[beq_eq_false_iff_ne];omega
     simp only[CT,FL,h1,h3];obtain⟨i,hi⟩:∃i:Nat,indexByte r c=i:=⟨(indexByte r c).toNat,by omega⟩;rw[hi];show(b::r).take (((i:Int)+1).toNat+0)::_=(b::r.take ((i:Int).toNat+0))::_;rw[show((i:Int)+1).toNat=i+1 by omega,show((i:Nat):Int).toNat=i by omega]
     rfl
theorem WK(c:UInt8):∀(n:Nat) (s:List UInt8),s.length≤n→count s [c]=s.count c
 |n,s,hn=>by
  rcases Int.lt_or_le (indexByte s c) 0 with h | h
  ·have h2:=indexByte_ge s c;have h3:indexByte s c=-1:=by omega
   rw[count_miss (by rw[index_one];exact h3)]
   symm
   rw[List.count_eq_zero];intro hm;obtain⟨k,hk,e⟩:=ED hm;exact indexByte_none h3 k (by rw[Ay hk,e])
  ·obtain⟨i,hi⟩:∃i:Nat,indexByte s c=i:=⟨(indexByte s c).toNat,by omega⟩;obtain⟨h1,h2⟩:=indexByte_some hi;obtain⟨hl,hg⟩:=At.1 h1;cases n with
   |zero=>omega
   |succ n =>
    have hc:=count_hit (s:=s) (sub:=[c]) (i:=i) (by simp) (by rw[index_one];exact hi);rw[hc];have ih:=WK c n (s.drop (i+1)) (by rw[Da];omega);have ni:s=s.take i++c::s.drop (i+1):=by
     rw[←hg,←Br hl,EQ]
    have h0:(s.take i).count c=0:=by
     rw[List.count_eq_zero];intro hm;obtain⟨k,hk,e⟩:=ED hm;rw[AN]at hk;rw[List.getElem_take]at e;exact h2 k (by omega) (by rw[Ay (by omega),e])
    conv=>rhs;rw[ni]
    rw[List.count_append,h0,List.count_cons_self];show 1+count (s.drop (i+1)) [c]=_;rw[ih];omega
theorem c8(s:ByteArray)(c:UInt8):((splitB ⟨#[c]⟩ 0 (countB s ⟨#[c]⟩) s).map (·.data.toList))=Fv c s.data.toList:=by
 rw[splitB_data];refine PS c _ _ ?_;show _≤count s.data.toList [c];rw[WK c _ _ (Ak _)];exact Ak _
end Go.Eng

namespace Go.Eng
theorem UX{α:Type}:∀{l m:List α},l.Nodup→(∀x∈l,x∈m)→l.length≤m.length
 | [],_,_,_=>AS _
 |a::l,m,hn,hs=>by
  obtain⟨h1,h2⟩:=CQ.1 hn;obtain⟨s,t,rfl⟩:=List.append_of_mem (hs a (Ab ..))
  have:l.length≤(s++t).length:=UX h2 fun x hx=>by
   rcases A2.1 (hs x (Ag _ hx))with h | h
   ·exact Bs _ h
   ·rcases AF.1 h with rfl | h
    ·exact absurd hx h1
    ·exact Bo _ h
  simp only[Ac,Al]at this⊢;omega
theorem Lr(p:ByteArray):∀(l:List Tm) (o:Option Tm),(∀u∈l,u.path≠p)→l.foldl (JV p) o=o
 | [],_,_=>rfl
 |t::l,o,h=>by
  rw[EI,show JV p o t=o by unfold JV;rw[Am (h t (Ab ..))]];exact Lr p l o fun u hu=>h u (Ag _ hu)
theorem Y6{l:List Tm}{t:Tm}(h:t∈EV l):∃u∈l,u.path=t.path:=by
 apply Cm;intro hn
 have:∀u∈l,u.path≠t.path:=fun u hu e=>hn ⟨u,hu,e⟩
 have h1:=(FI (Ed l)).1 h;rw[IT,Lr _ _ _ this]at h1;cases h1
def TG(U:List ByteArray)(t:List Tm):Prop:=Ce none t∧∀u∈t,u.path∈U
theorem TG.len{U:List ByteArray}{t:List Tm}(h:TG U t):t.length≤U.length:=by
 have:=UX (HF h.1) (m:=U) fun p hp=>by
  obtain⟨u,hu,rfl⟩:=Ao.1 hp;exact h.2 u hu
 unfold En at this
 rwa [Bp]at this
theorem Yv{l c:List Tm}(h:CJ l=some c){t:Tm}(ht:t∈c):t∈EV l:=by
 unfold CJ at h;split at h
 ·cases h
 ·cases h;exact(BA.1 ht).1
theorem Pf{U:List ByteArray}{l c:List Tm}(h:CJ l=some c)(hu:∀u∈l,u.path∈U):TG U c :=
 ⟨EJ h,fun t ht=>by
  obtain⟨u,h1,h2⟩:=Y6 (Yv h ht);rw[←h2];exact hu u h1⟩
theorem TG.nil(U:List ByteArray):TG U []:=⟨trivial,fun u hu=>by cases hu⟩
theorem Ta{U:List ByteArray}{l:List Tm}(hu:∀u∈l,u.path∈U):TG U (PF l):=by
 unfold PF;cases h:CJ l with
 |none=>exact .nil U
 |some c=>exact Pf h hu
theorem QL{U:List ByteArray}{a b:List Tm}{p:ByteArray}(ha:TG U a)(hb:TG U b):TG U (A7 a b p).1:=by
 have sp:∀{l r:List Tm} {t:Tm},TG U l→Fw l p=some (t,r)→t.path∈U∧∀u∈r,u.path∈U:=by
  intro l r t hl h;unfold Fw at h;cases e:CJ l with
  |none=>rw[e]at h;cases h
  |some c =>
   rw[e]at h;have h:(match Dg c p with | none=>none | some t=>some (t,FO c p))=some (t,r):=h;have hc:=Pf e hl.2;cases e2:Dg c p with
   |none=>rw[e2]at h;cases h
   |some u =>
    rw[e2]at h;cases h;exact⟨hc.2 _ (Fb e2),fun u hu=>hc.2 u (BA.1 hu).1⟩
 unfold A7;split
 ·rename_i t r u m e1 e2;obtain⟨a1,a2⟩:=sp ha e1;obtain⟨b1,b2⟩:=sp hb e2;split
  ·rename_i o e3;refine Pf e3 fun v hv=>?_;rcases A2.1 hv with hv | hv
   ·rcases A2.1 hv with hv | hv
    ·exact a2 v hv
    ·exact b2 v hv
   ·rw[Ai.1 hv];exact a1
  ·exact .nil U
 ·exact .nil U
def IC(x:List Rl)(roots:List Rq)(l:List Nf):List ByteArray:=(x.map (·.path))++((x.map (·.reqs)).flatten.map (·.path)++(roots.map (·.path)++l.map (·.path)))
theorem UM{x:List Rl}{roots:List Rq}{l:List Nf}{d:List (List Tm)}{i:Nf}(hi:i∈l)(hd:∀t∈d,TG (IC x roots l) t){t:List Tm}(h:BO x roots d i=some t):TG (IC x roots l) t:=by
 have hp:i.path∈IC x roots l:=by
  unfold IC;exact Bo _ (Bo _ (Bo _ (Ao.2 ⟨i,hi,rfl⟩)))
 have nz:∀{α:Type} {l:List α} {k:Int} {a:α},Fr l k=some a→a∈l:=by
  intro α l k a h;unfold Fr at h;split at h
  ·cases h
  ·exact Av h
 have n0:∀{a b:List Tm},Ro a=some b→b=a:=by
  intro a b h;unfold Ro at h;split at h
  ·cases h
  ·cases h;rfl
 unfold BO at h;split at h
 ·split at h
  ·cases e:Fr roots i.number with
   |none=>rw[e]at h;cases h
   |some q =>
    rw[e]at h;cases h;refine Ta fun u hu=>?_;rw[Ai.1 hu];unfold IC;exact Bo _ (Bo _ (Bs _ (Ao.2 ⟨q,nz e,rfl⟩)))
  ·cases h
 split at h
 ·split at h
  ·cases e:FM x i.path i.place with
   |none=>rw[e]at h;cases h
   |some r =>
    rw[e]at h;have h:(match Fr r.reqs i.number with | none=>none | some q=>Ro (C0 i.path i.place q))=some t:=h;cases e2:Fr r.reqs i.number with
    |none=>rw[e2]at h;cases h
    |some q =>
     rw[e2]at h;have h:=n0 (show Ro (C0 i.path i.place q)=some t from h);subst h;refine Ta fun u hu=>?_;rcases AF.1 hu with rfl | hu
     ·exact hp
     ·rw[Ai.1 hu];unfold IC;refine Bo _ (Bs _ (Ao.2 ⟨q,?_,rfl⟩));exact E0.2 ⟨r.reqs,Ao.2 ⟨r,B6 e,rfl⟩,nz e2⟩
  ·cases h
 split at h
 ·split at h
  ·have h:=n0 h;subst h;refine Ta fun u hu=>?_;rw[Ai.1 hu];exact hp
  ·cases h
 split at h
 ·split at h
  ·cases e:Fr d i.left with
   |none=>rw[e]at h;cases h
   |some a =>
    cases e2:Fr d i.right with
    |none=>rw[e,e2]at h;cases h
    |some b =>
     rw[e,e2]at h;have h:(if(A7 a b i.path).2=0 then some (A7 a b i.path).1 else none)=some t:=h;split at h
     ·cases h;exact QL (hd a (nz e)) (hd b (nz e2))
     ·cases h
  ·cases h
 ·cases h
end Go.Eng

namespace Go.Eng
structure Cd where
 place:Int
 rel:Rl
structure Nd where
 rq:Rq
 path:ByteArray
 place:Int
 number:Int
structure SS where
 infs:List Nf
 drv:List (List Tm)
 full:Bool
abbrev Py(c:Cd):Sl:=⟨c.rel.path,c.rel.ver⟩
abbrev Ax(l:List Cd):List Sl:=l.map Py
def Bm(x:List Rl)(p:ByteArray):List Cd:=(x.filter fun r=>decide (r.path=p)&&!r.yanked).map fun r=>⟨plc r.ver,r⟩
def Me(f:Rq→Nat→Nd):Nat→List Rq→List Nd
 |_,[]=>[]
 |i,q::l=>f q i::Me f (i+1) l
def X4(roots:List Rq):List Nd:=Me (fun q i=>⟨q,mt,0,i⟩) 0 roots
def PJ(c:Cd):List Nd:=Me (fun q i=>⟨q,c.rel.path,c.place,i⟩) 0 c.rel.reqs
def Db(roots:List Rq)(dec:List Cd):List Nd:=X4 roots++(dec.map PJ).flatten
def CD(dec:List Cd)(p:ByteArray):Bool:=dec.any fun c=>decide (c.rel.path=p)
def Ea(dec:List Cd)(a:ByteArray×List Nd)(n:Nd):ByteArray×List Nd :=
 if CD dec n.rq.path=true∨(a.2≠[]∧FV a.1 n.rq.path=true)then a
 else if a.2≠[]∧FV n.rq.path a.1=true then(n.rq.path,[n])else(n.rq.path,a.2++[n])
def Dz(roots:List Rq)(dec:List Cd):ByteArray×List Nd:=(Db roots dec).foldl (Ea dec) (mt,[])
def ah(l:List Cd)(n:Nd):Bool:=l.any fun d=>decide (d.rel.path=n.rq.path)&&!has n.rq.set d.place
def Dw(dec:List Cd)(c:Cd):Option Nd:=(PJ c).find? (ah (dec++[c]))
def Og(s:List Sl):Nat→List (List Tm)→Option Nat
 |_,[]=>none
 |i,t::l=>if Cr t s then some i else Og s (i+1) l
def Nr(d:List (List Tm))(s:List Sl):Option Nat:=Og s 0 d
def Cq(l:List Tm)(p:ByteArray):Bool:=l.any fun t=>decide (t.path=p)
instance:DecidableEq Nf:=fun a b=>by
 obtain⟨a1,a2,a3,a4,a5,a6⟩:=a;obtain⟨b1,b2,b3,b4,b5,b6⟩:=b;exact decidable_of_iff (a1=b1∧a2=b2∧a3=b3∧a4=b4∧a5=b5∧a6=b6) ⟨fun⟨h1,h2,h3,h4,h5,h6⟩=>by subst h1 h2 h3 h4 h5 h6;rfl,fun h=>by cases h;exact⟨rfl,rfl,rfl,rfl,rfl,rfl⟩⟩
def LE(i:Nf):Nat→List Nf→Option Nat
 |_,[]=>none
 |k,j::l=>if j=i then some k else LE i (k+1) l
def DG(s:SS)(i:Nf)(l:List Tm):Nat×SS :=
 match LE i 0 s.infs with
 |some k=>(k,s)
 |none=>if 65536≤s.infs.length then(s.infs.length-1,⟨s.infs,s.drv,true⟩)else(s.infs.length,⟨s.infs++[i],s.drv++[l],s.full⟩)
def MP(n:Nd):Nf:=if n.path=mt then⟨0,mt,0,n.number,0,0⟩else⟨1,n.path,n.place,n.number,0,0⟩
def Hx(n:Nd):List Tm:=if n.path=mt then GJ n.rq else C0 n.path n.place n.rq
def A8(s:SS)(n:Nd):Nat×SS:=DG s (MP n) (Hx n)
abbrev Do(s:SS)(k:Nat):List Tm:=s.drv.getD k []
def B7(p:ByteArray):List Nat→Nat→SS→Nat×SS
 | [],k,s=>(k,s)
 |r::l,k,s =>
  if s.full=true∨Cq (Do s k) p=false then(k,s)
  else if r=k then B7 p l k s
  else if(A7 (Do s k) (Do s r) p).2≠0 then B7 p l k s
  else B7 p l (DG s ⟨3,p,0,0,k,r⟩ (A7 (Do s k) (Do s r) p).1).1 (DG s ⟨3,p,0,0,k,r⟩ (A7 (Do s k) (Do s r) p).1).2
def DY(x:List Rl)(p:ByteArray)(s:SS):Nat×SS:=DG s ⟨2,p,0,0,0,0⟩ (E5 p (BM x p))
def DD(x:List Rl)(p:ByteArray)(n:Nd)(reasons:List Nat)(s:SS):Nat×SS :=
 B7 p ((DY x p (A8 s n).2).1::reasons) (A8 s n).1 (DY x p (A8 s n).2).2
structure Ju where
 res:Nat
 found:Bool
 ss:SS
 dec:List Cd
 stack:List (List Sk)
def DB(rec:List Cd→SS→List (List Sk)→Ju)(x:List Rl)(p:ByteArray)(needs:List Nd)(n0:Nd)(dec:List Cd)(stack:List (List Sk)):List Cd→SS→List Nat→List Sk→Ju
 | [],s,reasons,_=>⟨(DD x p n0 reasons s).1,false,(DD x p n0 reasons s).2,dec,stack⟩
 |c::cs,s,reasons,skips =>
  let after (k:Nat) (s:SS):Ju:=if Cq (Do s k) p=false then⟨k,false,s,dec,stack⟩else DB rec x p needs n0 dec stack cs s (reasons++[k]) (skips++[⟨p,c.place,k⟩])
  if s.full=true then⟨0,false,s,dec,stack⟩
  else match needs.find? fun n=>!has n.rq.set c.place with
   |some n=>DB rec x p needs n0 dec stack cs (A8 s n).2 (reasons++[(A8 s n).1]) skips
   |none=>match Nr s.drv (Ax (dec++[c]))with
    |some k=>after k s
    |none=>match Dw dec c with
     |some n=>after (A8 s n).1 (A8 s n).2
     |none =>
      let o:=rec (dec++[c]) s (stack++[skips])
      if o.found=true then⟨0,true,o.ss,o.dec,o.stack⟩
      else if o.ss.full=true then⟨0,false,o.ss,dec,stack⟩
      else after o.res o.ss
def CH(x:List Rl)(roots:List Rq):Nat→List Cd→SS→List (List Sk)→Ju
 |0,dec,s,stack=>⟨0,false,s,dec,stack⟩
 |n+1,dec,s,stack=>match(Dz roots dec).2 with
  | []=>⟨0,true,s,dec,stack⟩
  |n0::l=>DB (CH x roots n) x (Dz roots dec).1 (n0::l) n0 dec stack (Bm x (Dz roots dec).1) s [] []
abbrev JA:SS:=⟨[],[],false⟩
def FB(x:List Rl)(dec:List Cd):Nat:=(x.filter fun r=>!r.yanked&&!CD dec r.path).length
def Eu(x:List Rl)(roots:List Rq):Ju:=CH x roots (x.length+1) [] JA []
end Go.Eng

namespace Go.Eng
theorem ON(f:Rq→Nat→Nd):∀(l:List Rq) (i k:Nat),(Me f i l)[k]?=(l[k]?).map fun q=>f q (i+k)
 | [],i,k=>by simp[Me]
 |q::l,i,0=>by simp[Me]
 |q::l,i,k+1=>by
  have h:=ON f l (i+1) k;simp only[Me,GQ,h];rw[show i+1+k=i+(k+1) by omega]
theorem KF(f:Rq→Nat→Nd):∀(l:List Rq) (i:Nat),(Me f i l).length=l.length
 | [],_=>rfl
 |_::l,i=>by simp[Me,KF f l (i+1)]
theorem XP{f:Rq→Nat→Nd}{l:List Rq}{n:Nd}(h:n∈Me f 0 l):∃k q,l[k]?=some q∧n=f q k:=by
 obtain⟨k,hk⟩:=Cb.1 h;rw[ON,AW]at hk;obtain⟨q,h1,h2⟩:=hk;exact⟨k,q,h1,by rw[←h2,Bd]⟩
theorem Rr{f:Rq→Nat→Nd}(hf:∀q i,(f q i).rq=q):∀(l:List Rq) (i:Nat),(Me f i l).map (·.rq)=l
 | [],_=>rfl
 |q::l,i=>by simp[Me,hf,Rr hf l (i+1)]
abbrev FD(roots:List Rq)(dec:List Cd):List Rq:=roots++(dec.map fun c=>c.rel.reqs).flatten
theorem KC(roots:List Rq)(dec:List Cd):(Db roots dec).map (·.rq)=FD roots dec:=by
 unfold Db X4;rw[AB,Rr (fun _ _=>rfl),List.map_flatten,BW]
 congr 2
 exact Be fun c _=>Rr (fun _ _=>rfl) _ _
theorem FY(dec:List Cd)(p:ByteArray):Co (Ax dec) p=CD dec p:=by
 unfold Co CD Ax;rw[List.any_map];rfl
theorem Jk(before:List Sl):∀{l:List Rq} {a p:ByteArray},CG before l (some a)=some p→p=a∨FV p a=true
 | [],a,p,h=>by cases h;exact .inl rfl
 |q::l,a,p,h=>by
  unfold CG at h;split at h
  ·exact Jk before h
  ·dsimp only at h;split at h
   ·rename_i hb;rcases Jk before h with e | e
    ·exact .inr (by rw[e];exact hb)
    ·exact .inr (EN e hb)
   ·exact Jk before h
theorem Il(before:List Sl):∀{l:List Rq} {a:ByteArray},CG before l (some a)≠none
 | [],a=>by simp[CG]
 |q::l,a=>by
  unfold CG;split
  ·exact Il before
  ·dsimp only;split<;>exact Il before
theorem Oj{n:Nd}{p:ByteArray}(e:n.rq.path≠p)(L:List Nd):((n::L).filter fun n=>decide (n.rq.path=p))=L.filter fun n=>decide (n.rq.path=p):=by rw[Dp,Am (by simpa using e)]
theorem VF{n:Nd}{p:ByteArray}(e:n.rq.path=p)(L:List Nd):((n::L).filter fun n=>decide (n.rq.path=p))=n::L.filter fun n=>decide (n.rq.path=p):=by rw[Dp,Aw (by simpa using e)]
theorem MB(dec:List Cd):∀(L:List Nd) (a:ByteArray×List Nd),(a.2≠[]→CD dec a.1=false) →
  L.foldl (Ea dec) a=match CG (Ax dec) (L.map (·.rq)) (if a.2=[]then none else some a.1)with
   |none=>a
   |some p=>(p,(if a.2≠[]∧a.1=p then a.2 else [])++L.filter fun n=>decide (n.rq.path=p))
 | [],a,h=>by
  obtain⟨p,o⟩:=a;cases o with
  |nil=>simp[CG]
  |cons n o=>simp[CG]
 |n::L,a,h=>by
  obtain⟨p0,o⟩:=a;rw[EI,AM];have qN:∀(acc:Option ByteArray) (l:List Rq),(∀p,acc=some p→CD dec p=false)→∀p,CG (Ax dec) l acc=some p→CD dec p=false:=fun acc l ha p hp=>by
   have:=((JQ (Ax dec) (l:=l) (acc:=acc) (fun p e=>by rw[FY];exact ha p e)).1 p hp).1
   rw[FY]at this;exact this
  cases hd:CD dec n.rq.path with
  |true =>
   have e1:Ea dec (p0,o) n=(p0,o):=by unfold Ea;rw[Aw (.inl hd)]
   have e2:CG (Ax dec) (n.rq::L.map (·.rq)) (if o=[]then none else some p0)=CG (Ax dec) (L.map (·.rq)) (if o=[]then none else some p0):=by
    conv=>lhs;unfold CG
    rw[Aw (by rw[FY];exact hd)]
   rw[e1,e2,MB dec L (p0,o) h];dsimp only;cases hg:CG (Ax dec) (L.map (·.rq)) (if o=[]then none else some p0)with
   |none=>rfl
   |some p =>
    dsimp only;have hp:=qN _ _ (fun q e=>by
     split at e
     ·cases e
     ·rename_i ho;cases e;exact h ho) p hg
    have Dn:n.rq.path≠p:=fun e=>by rw[e,hp]at hd;cases hd
    rw[Oj Dn]
  |false =>
   have Pq:Co (Ax dec) n.rq.path=false:=by rw[FY];exact hd
   by_cases ho:o=[]
   ·subst ho;have e1:Ea dec (p0,[]) n=(n.rq.path,[n]):=by
     unfold Ea;rw[Am (by simp[hd]),Am (by simp)];rfl
    have e2:CG (Ax dec) (n.rq::L.map (·.rq)) none=CG (Ax dec) (L.map (·.rq)) (some n.rq.path):=by
     conv=>lhs;unfold CG
     rw[Am (by rw[Pq];decide)]
    rw[e1,MB dec L (n.rq.path,[n]) (fun _=>hd),Aw rfl,e2];rw[Am (by simp)];cases hg:CG (Ax dec) (L.map (·.rq)) (some n.rq.path)with
    |none=>exact absurd hg (Il _)
    |some p =>
     dsimp only;rw[Am (show ¬(([]:List Nd)≠[]∧p0=p)from fun h=>h.1 rfl)]
     by_cases e:n.rq.path=p
     ·rw[VF e,Aw ⟨by simp,e⟩];rfl
     ·rw[Oj e,Am (fun h=>e h.2)]
   ·have xM:(if o=[]then none else some p0)=some p0:=Am ho;rw[xM];cases hb:FV p0 n.rq.path with
    |true =>
     have e1:Ea dec (p0,o) n=(p0,o):=by unfold Ea;rw[Aw (.inr ⟨ho,hb⟩)]
     have TX:FV n.rq.path p0=false:=Pc hb;have e2:CG (Ax dec) (n.rq::L.map (·.rq)) (some p0)=CG (Ax dec) (L.map (·.rq)) (some p0):=by
      conv=>lhs;unfold CG
      rw[Am (by rw[Pq];decide)];dsimp only;rw[Am (by rw[TX];decide)]
     rw[e1,e2,MB dec L (p0,o) h];dsimp only;rw[xM];cases hg:CG (Ax dec) (L.map (·.rq)) (some p0)with
     |none=>rfl
     |some p =>
      dsimp only;have Dn:n.rq.path≠p:=fun e=>by
       rcases Jk _ hg with e3 | e3
       ·rw[e,e3,DM]at hb;cases hb
       ·rw[e,Pc e3]at hb;cases hb
      rw[Oj Dn]
    |false =>
     cases TX:FV n.rq.path p0 with
     |true =>
      have e1:Ea dec (p0,o) n=(n.rq.path,[n]):=by
       unfold Ea;rw[Am (by simp[hd,hb]),Aw ⟨ho,TX⟩]
      have e2:CG (Ax dec) (n.rq::L.map (·.rq)) (some p0)=CG (Ax dec) (L.map (·.rq)) (some n.rq.path):=by
       conv=>lhs;unfold CG
       rw[Am (by rw[Pq];decide)];dsimp only;rw[Aw TX]
      rw[e1,e2,MB dec L (n.rq.path,[n]) (fun _=>hd),Am (by simp)];cases hg:CG (Ax dec) (L.map (·.rq)) (some n.rq.path)with
      |none=>exact absurd hg (Il _)
      |some p =>
       dsimp only;have Dn:p0≠p:=fun e=>by
        rcases Jk _ hg with e3 | e3
        ·rw[e,e3,DM]at TX;cases TX
        ·rw[e]at TX;rw[Pc e3]at TX;cases TX
       rw[Am (show ¬(o≠[]∧p0=p)from fun h=>Dn h.2)]
       by_cases e:n.rq.path=p
       ·rw[VF e,Aw ⟨by simp,e⟩];rfl
       ·rw[Oj e,Am (fun h=>e h.2)]
     |false =>
      have e0:n.rq.path=p0:=JC TX hb;have e1:Ea dec (p0,o) n=(p0,o++[n]):=by
       unfold Ea;rw[Am (by simp[hd,hb]),Am (by simp[TX]),e0]
      have e2:CG (Ax dec) (n.rq::L.map (·.rq)) (some p0)=CG (Ax dec) (L.map (·.rq)) (some p0):=by
       conv=>lhs;unfold CG
       rw[Am (by rw[Pq];decide)];dsimp only;rw[Am (by rw[TX];decide)]
      rw[e1,e2,MB dec L (p0,o++[n]) (fun _=>by rw[←e0];exact hd),Am (by simp)];cases hg:CG (Ax dec) (L.map (·.rq)) (some p0)with
      |none=>exact absurd hg (Il _)
      |some p =>
       dsimp only
       by_cases e:p0=p
       ·rw[VF (e0.trans e),Aw ⟨by simp,e⟩,Aw ⟨ho,e⟩,BU];rfl
       ·rw[Oj (fun h=>e (e0.symm.trans h)),Am (fun h=>e h.2),Am (fun h=>e h.2)]
theorem SY(roots:List Rq)(dec:List Cd):Dz roots dec=match Gt (FD roots dec) (Ax dec)with
  |none=>(mt,[])
  |some p=>(p,(Db roots dec).filter fun n=>decide (n.rq.path=p)):=by
 unfold Dz Gt;rw[MB dec _ (mt,[]) (fun h=>absurd rfl h),Aw rfl,KC];cases CG (Ax dec) (FD roots dec) none with
 |none=>rfl
 |some p=>dsimp only;rw[Am (by simp)];rfl
theorem NI{roots:List Rq}{dec:List Cd}:(Dz roots dec).2=[]↔Gt (FD roots dec) (Ax dec)=none:=by
 rw[SY];cases h:Gt (FD roots dec) (Ax dec)with
 |none=>simp
 |some p =>
  simp only[reduceCtorEq,iff_false];obtain⟨_,q,hq,e⟩:=NJ h;rw[←KC]at hq;obtain⟨n,hn,rfl⟩:=Ao.1 hq;exact List.ne_nil_of_mem (BA.2 ⟨hn,by simpa using e⟩)
structure oe(roots:List Rq)(dec:List Cd)(p:ByteArray)(l:List Nd):Prop where
 next:Gt (FD roots dec) (Ax dec)=some p
 undone:CD dec p=false
 mem:∀n,n∈l↔n∈Db roots dec∧n.rq.path=p
theorem HY{roots:List Rq}{dec:List Cd}{n0:Nd}{l:List Nd}(h:(Dz roots dec).2=n0::l):oe roots dec (Dz roots dec).1 (n0::l):=by
 rw[←h];rw[SY]at *
 cases hp:Gt (FD roots dec) (Ax dec)with
 |none=>rw[hp]at h;cases h
 |some p =>
  dsimp only;refine⟨hp,by rw[←FY];exact(NJ hp).1,fun n=>?_⟩;rw[BA];simp
theorem KT{x:List Rl}{p:ByteArray}{c:Cd}:c∈Bm x p↔∃r∈x,r.path=p∧r.yanked=false∧c=⟨plc r.ver,r⟩:=by
 unfold Bm;simp only[Ao,BA,Af,Az,CN];constructor
 ·rintro⟨r,⟨h1,h2,h3⟩,rfl⟩;exact⟨r,h1,h2,h3,rfl⟩
 ·rintro⟨r,h1,h2,h3,rfl⟩;exact⟨r,⟨h1,h2,h3⟩,rfl⟩
theorem ME{i:Nf}:∀{l:List Nf} {k m:Nat},LE i k l=some m→∃j,m=k+j∧l[j]?=some i
 | [],_,_,h=>by cases h
 |y::l,k,m,h=>by
  unfold LE at h;split at h
  ·rename_i e;cases h;exact⟨0,rfl,by rw[←e];rfl⟩
  ·obtain⟨j,h1,h2⟩:=ME h;exact⟨j+1,by omega,h2⟩
theorem PH{i:Nf}:∀{l:List Nf} {k:Nat},LE i k l=none→i∉l
 | [],_,_=>by simp
 |y::l,k,h=>by
  unfold LE at h;split at h
  ·cases h
  ·rename_i e
   have:=PH h
   simp only[AF,not_or];exact⟨fun e'=>e e'.symm,this⟩
theorem QF{α:Type}{d d' : List α}{i:Int}{a:α}(h:Fr d i=some a)(hp:d <+: d'):Fr d' i=some a:=by
 unfold Fr at *
 split at h
 ·cases h
 ·rename_i hi;rw[Am hi];obtain⟨t,rfl⟩:=hp;rw[AX (At.1 h).1];exact h
theorem Xs{x:List Rl}{roots:List Rq}{d d' : List (List Tm)}{i:Nf}{o:List Tm}(h:BO x roots d i=some o)(hp:d <+: d'):BO x roots d' i=some o:=by
 unfold BO at *
 split
 ·rename_i e;rw[Aw e]at h;exact h
 rename_i e0;rw[Am e0]at h;split
 ·rename_i e;rw[Aw e]at h;exact h
 rename_i e1;rw[Am e1]at h;split
 ·rename_i e;rw[Aw e]at h;exact h
 rename_i e2;rw[Am e2]at h;split
 ·rename_i e;rw[Aw e]at h;split
  ·rename_i e4;rw[Aw e4]at h;cases ha:Fr d i.left with
   |none=>rw[ha]at h;cases h
   |some a =>
    cases hb:Fr d i.right with
    |none=>rw[ha,hb]at h;cases h
    |some b =>
     rw[ha,hb]at h;rw[QF ha hp,QF hb hp];exact h
  ·rename_i e4;rw[Am e4]at h;cases h
 ·rename_i e;rw[Am e]at h;cases h
structure Fx(x:List Rl)(roots:List Rq)(s:SS):Prop where
 der:B8 x roots s.infs []=some s.drv
 len:s.infs.length≤65536
theorem Fx.dlen{x:List Rl}{roots:List Rq}{s:SS}(h:Fx x roots s):s.drv.length=s.infs.length:=by simpa using IQ h.der
theorem Fx.nil(x:List Rl)(roots:List Rq):Fx x roots JA:=⟨rfl,by simp⟩
theorem Fx.at{x:List Rl}{roots:List Rq}{s:SS}(h:Fx x roots s){k:Nat}{i:Nf}(hk:s.infs[k]?=some i):BO x roots s.drv i=some (s.drv.getD k []):=by
 have h1:=M1 h.der (k+1);have h0:=M1 h.der k;have Dt:=(At.1 hk).1;rw[Bk,hk,E9,h0]at h1;have h1:B8 x roots [i] (s.drv.take k)=some (s.drv.take (k+1)):=h1;unfold B8 at h1;cases hi:BO x roots (s.drv.take k) i with
 |none=>rw[hi]at h1;cases h1
 |some t =>
  rw[hi]at h1;have h1:some (s.drv.take k++[t])=some (s.drv.take (k+1)):=h1;have hd:k<s.drv.length:=by rw[h.dlen];exact Dt
  have:t=s.drv[k]:=by
   have h2:=CC h1;rw[Kf hd]at h2;exact List.singleton_inj.1 (List.append_cancel_left h2)
  rw[Xs hi (List.take_prefix ..),this];simp[List.getD_eq_getElem?_getD,hd]
structure Grow(s s' : SS):Prop where
 pre:s.drv <+: s'.drv
 preI:s.infs <+: s'.infs
 full:s.full=true→s'.full=true
theorem Grow.refl(s:SS):Grow s s:=⟨MI,MI,id⟩
theorem Grow.trans{a b c:SS}(h:Grow a b)(k:Grow b c):Grow a c:=⟨h.pre.trans k.pre,h.preI.trans k.preI,fun e=>k.full (h.full e)⟩
theorem Grow.at{s s' : SS}(h:Grow s s'){k:Nat}(hk:k<s.drv.length):Do s' k=Do s k:=by
 obtain⟨t,e⟩:=h.pre;unfold Do;rw[←e,B1,B1,AX hk]
theorem Grow.len{s s' : SS}(h:Grow s s'):s.drv.length≤s'.drv.length:=h.pre.length_le
theorem Kj(s:SS)(i:Nf)(l:List Tm):Grow s (DG s i l).2:=by
 unfold DG;split
 ·exact .refl s
 ·split
  ·exact⟨MI,MI,fun _=>rfl⟩
  ·exact⟨N0 ..,N0 ..,id⟩
theorem Ki{x:List Rl}{roots:List Rq}{s:SS}(h:Fx x roots s){i:Nf}{l:List Tm}(hi:BO x roots s.drv i=some l) :
  Fx x roots (DG s i l).2∧(DG s i l).1<(DG s i l).2.drv.length∧((DG s i l).2.full=false→Do (DG s i l).2 (DG s i l).1=l):=by
 have hdl:=h.dlen;unfold DG;split
 ·rename_i k hk;obtain⟨j,e,hj⟩:=ME hk
  have:k=j:=by omega
  subst this;have Dt:=(At.1 hj).1;refine⟨h,by show k<s.drv.length;omega,fun _=>?_⟩
  have:=h.at hj
  rw[hi]at this;exact(CC this).symm
 ·rename_i hk;split
  ·rename_i hf;exact⟨⟨h.der,h.len⟩,by show s.infs.length-1<s.drv.length;omega,fun e=>by cases e⟩
  ·rename_i hf;refine⟨⟨?_,by show(s.infs++[i]).length≤65536;rw[Ac];simp;omega⟩,by show s.infs.length<(s.drv++[l]).length;rw[Ac];simp;omega,fun _=>?_⟩
   ·show B8 x roots (s.infs++[i]) []=some (s.drv++[l]);rw[E9,h.der];show B8 x roots [i] s.drv=_;unfold B8;rw[hi];rfl
   ·show(s.drv++[l]).getD s.infs.length []=l;rw[←hdl];simp[List.getD_eq_getElem?_getD]
theorem Yk(s:SS)(i:Nf)(l:List Tm):(DG s i l).2.infs.length≤s.infs.length+1:=by
 unfold DG;split
 ·simp
 ·split<;>simp
theorem Ww{s:SS}(i:Nf)(l:List Tm)(hf:s.full=false)(hc:s.infs.length<65536):(DG s i l).2.full=false:=by
 unfold DG;split
 ·exact hf
 ·split
  ·omega
  ·exact hf
theorem Sd(S:List Sl):∀{l:List (List Tm)} {i k:Nat},Og S i l=some k→∃j,k=i+j∧∃t,l[j]?=some t∧Cr t S=true
 | [],_,_,h=>by cases h
 |t::l,i,k,h=>by
  unfold Og at h;split at h
  ·rename_i e;cases h;exact⟨0,rfl,t,rfl,e⟩
  ·obtain⟨j,h1,t',h2,h3⟩:=Sd S h;exact⟨j+1,by omega,t',h2,h3⟩
theorem Kr{d:List (List Tm)}{S:List Sl}{k:Nat}(h:Nr d S=some k):k<d.length∧Cr (d.getD k []) S=true:=by
 obtain⟨j,h1,t,h2,h3⟩:=Sd S h
 have:k=j:=by omega
 subst this;refine⟨(At.1 h2).1,?_⟩;rw[B1,h2];exact h3
end Go.Eng
