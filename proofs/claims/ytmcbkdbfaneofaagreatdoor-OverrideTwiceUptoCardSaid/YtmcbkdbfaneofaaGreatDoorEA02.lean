/- Lemmas for the claims of this seat, without a condition: part 2 (P8, P9, P10, P11, P12, P13, P14, Q1, Q2). -/
import Derived.Test.YtmcbkdbfaneofaaGreatDoorEA01
import Derived.Lib.SplitLaws
import Derived.Lib.IndexBytes
namespace Go.Eng
def CR(l:Bj):Bj:=(l.map Hh).filter fun x=>decide (x.1<x.2)
theorem Ol(a b:Bj):CR (a++b)=CR a++CR b:=by unfold CR;rw[AH,El]
theorem UP{l:Bj}{x:Int×Int}(h:x∈CR l):0≤x.1∧x.1<x.2∧x.2≤1000000:=by
 unfold CR at h;rw[Bo,Ak]at h;obtain⟨⟨y,_,rfl⟩,h2⟩:=h;have h2:=BF h2;refine⟨?_,h2,?_⟩<;>simp only[Hh]<;>omega
theorem bP(l:Bj)(p:Int):(CR l).any (BL p)=has l p:=by
 rw[←Kq]
 induction l with
 |nil=>rfl
 |cons x r ih =>
  have e:CR (x::r)=(if(Hh x).1<(Hh x).2 then [Hh x]else [])++CR r:=by
   unfold CR;rw[AN,DK]
   by_cases h:(Hh x).1<(Hh x).2<;>simp[h]
  have ec:canon (x::r)=if(Hh x).1<(Hh x).2 then VM (Hh x) (canon r)else canon r:=rfl
  rw[e,Hk,ih,ec]
  by_cases h:(Hh x).1<(Hh x).2
  ·rw[Aw h,Aw h,Ob _ p (Cp r) h];simp
  ·rw[Ah h,Ah h];simp
theorem NA:∀{l:Bj} {lo:Int},EG lo l↔(∀y∈l,lo≤y.1∧y.1<y.2∧y.2≤1000000)∧l.Pairwise fun a b=>a.2<b.1
 | [],lo=>by simp[EG]
 |y::r,lo=>by
  rw[BI];constructor
  ·intro h;have hl:=h.low;refine⟨hl,fun z hz=>?_,((NA (l:=r)).1 h.2.2.2).2⟩
   have:=h.2.2.2.low z hz;omega
  ·intro⟨h1,h2,h3⟩;have hy:=h1 y (Aa ..);refine⟨hy.1,hy.2.1,hy.2.2,NA.2 ⟨fun z hz=>?_,h3⟩⟩
   have:=h1 z (Ae _ hz)
   have:=h2 z hz
   omega
def KJ(r:Bj)(x:Int×Int):Bj:=match r with
 | []=>[x]
 |y::t=>if x.1≤y.2 then(y.1,max y.2 x.2)::t else x::y::t
def BB(s:Bj):Bj:=s.foldl KJ []
theorem Gd(s:Bj)(i:Nat)(h:i<s.length):BB (s.take (i+1))=KJ (BB (s.take i)) s[i]:=by
 unfold BB;rw[Bu,Az h,Ke];rfl
theorem dC(r:Bj)(x:Int×Int):(KJ r x).length≤r.length+1∧r.length≤(KJ r x).length∧0<(KJ r x).length:=by
 unfold KJ;split
 ·simp
 ·split<;>simp
theorem Tt(s:Bj):∀i,i≤s.length→(BB (s.take i)).length≤i∧(0<i→0<(BB (s.take i)).length):=by
 intro i
 induction i with
 |zero=>intro _;simp[BB]
 |succ i ih =>
  intro h;rw[Gd s i (by omega)]
  have:=dC (BB (s.take i)) s[i]
  have:=ih (by omega)
  omega
structure mv(r done:Bj):Prop where
 ok:∀y∈r,0≤y.1∧y.1<y.2∧y.2≤1000000
 pw:r.Pairwise fun a b=>b.2<a.1
 has:∀p,r.any (BL p)=done.any (BL p)
 first:∀y t,r=y::t→∃x∈done,y.1=x.1
theorem dB{r done:Bj}{x:Int×Int}(h:mv r done)(hx:0≤x.1∧x.1<x.2∧x.2≤1000000)(hs:∀y∈done,y.1≤x.1):mv (KJ r x) (done++[x]):=by
 unfold KJ;split
 ·refine⟨fun y hy=>?_,by simp,fun p=>?_,fun y t e=>?_⟩
  ·rw[Am.1 hy];exact hx
  ·rw[Hk,←h.has];rfl
  ·cases e;exact⟨x,by simp,rfl⟩
 ·rename_i y t;have hy:=h.ok y (Aa ..);obtain⟨yq,pw2⟩:=BI.1 h.pw;obtain⟨z,hz,e⟩:=h.first y t rfl
  have o8:=hs z hz;split
  ·rename_i Hi;refine⟨fun u hu=>?_,BI.2 ⟨yq,pw2⟩,fun p=>?_,fun u t' e'=>?_⟩
   ·rcases Aq.1 hu with rfl | hu
    ·exact⟨hy.1,by dsimp only;omega,by dsimp only;omega⟩
    ·exact h.ok u (Ae _ hu)
   ·rw[Hk,←h.has,Ce,Ce,Ce,List.any_nil,Bool.or_false]
    have:BL p (y.1,max y.2 x.2)=(BL p y||BL p x):=by
     simp only[BL];rw[BW];simp only[Ag,CE,AA];omega
    rw[this];cases BL p y<;>cases BL p x<;>cases t.any (BL p)<;>rfl
   ·cases e';exact⟨z,Bp _ hz,e⟩
  ·rename_i Hi;refine⟨fun u hu=>?_,BI.2 ⟨fun u hu=>?_,h.pw⟩,fun p=>?_,fun u t' e'=>?_⟩
   ·rcases Aq.1 hu with rfl | hu
    ·exact hx
    ·exact h.ok u hu
   ·rcases Aq.1 hu with rfl | hu
    ·omega
    ·have:=yq u hu;omega
   ·rw[Hk,←h.has,Ce,Ce,Ce,List.any_nil,Bool.or_false];cases BL p y<;>cases BL p x<;>cases t.any (BL p)<;>rfl
   ·cases e';exact⟨x,by simp,rfl⟩
theorem Zv{s:Bj}(Gu:∀y∈s,0≤y.1∧y.1<y.2∧y.2≤1000000)(hs:s.Pairwise fun a b=>a.1≤b.1):∀i,i≤s.length→mv (BB (s.take i)) (s.take i):=by
 intro i
 induction i with
 |zero=>intro _;exact⟨fun _ h=>by simp[BB]at h,by simp[BB],fun p=>by simp[BB],fun y t e=>by simp[BB]at e⟩
 |succ i ih =>
  intro h;have hi:i<s.length:=by omega
  rw[Gd s i hi];have e:s.take (i+1)=s.take i++[s[i]]:=by rw[Bu,Az hi];rfl
  rw[e];refine dB (ih (by omega)) (Gu _ (Ap hi)) fun y hy=>?_;obtain⟨j,hj,rfl⟩:=Dy.1 hy;rw[Kf];rw[AJ]at hj;exact(Bc.1 hs) j i (by omega) hi (by omega)
theorem Rg{l s:Bj}(hp:s.Perm (CR l))(hs:s.Pairwise fun a b=>a.1≤b.1):(BB s).reverse=canon l:=by
 have hi:=Zv (s:=s) (fun y hy=>UP (hp.mem_iff.1 hy)) hs s.length (Aj _);rw[Du]at hi;have hc:EB (BB s).reverse:=by
  unfold EB;rw[NA];refine⟨fun y hy=>hi.ok y (List.mem_reverse.1 hy),?_⟩;rw[List.pairwise_reverse];exact hi.pw
 refine Sh hc fun p=>?_;rw[Hw hc,List.any_reverse,hi.has,←bP];rw[BW,Bb,Bb];constructor
 ·rintro⟨y,h1,h2⟩;exact⟨y,hp.mem_iff.1 h1,h2⟩
 ·rintro⟨y,h1,h2⟩;exact⟨y,hp.mem_iff.2 h1,h2⟩
-- maps from numbers to numbers,as lists in the order in which they are met
def Ff(m:List (Int×Int))(k:Int):Int:=match m.find? (fun p=>decide (p.1=k))with | some p=>p.2 | none=>0
def Ll(m:List (Int×Int))(k v:Int):List (Int×Int):=if m.any (fun p=>decide (p.1=k))then m.map (fun p=>if p.1=k then(k,v)else p)else m++[(k,v)]
theorem Hd(p:Int×Int)(m:List (Int×Int))(k:Int):Ff (p::m) k=if p.1=k then p.2 else Ff m k:=by
 unfold Ff;rw[Fs];by_cases h:p.1=k<;>simp[h]
theorem Pm(m:List (Int×Int))(k v j:Int):Ff (Ll m k v) j=if j=k then v else Ff m j:=by
 unfold Ll;split
 ·rename_i h
  induction m with
  |nil=>simp at h
  |cons p m ih =>
   rw[AN,Hd,Hd]
   by_cases e:p.1=k
   ·rw[Aw e];dsimp only
    by_cases ej:j=k
    ·subst ej;simp
    ·rw[Ah (fun c=>ej c.symm),Ah ej,Ah (fun c=>ej (c.symm.trans e))]
     by_cases hm:(m.any fun p=>decide (p.1=k))=true
     ·rw[ih hm,Ah ej]
     ·have:∀q∈m,q.1≠k:=fun q hq e=>hm (Bb.2 ⟨q,hq,by simp[e]⟩)
      have:m.map (fun p=>if p.1=k then(k,v)else p)=m:=by
       conv=>rhs;rw[←JD m]
       exact Bf fun q hq=>by simp[this q hq]
      rw[this]
   ·rw[Ah e];have hm:(m.any fun p=>decide (p.1=k))=true:=by simpa[e]using h
    rw[ih hm]
    by_cases ej:j=k
    ·subst ej;simp[e]
    ·simp[ej]
 ·rename_i h;have hn:∀q∈m,q.1≠k:=fun q hq e=>h (Bb.2 ⟨q,hq,by simp[e]⟩)
  induction m with
  |nil =>
   rw[Ef,Hd]
   by_cases ej:j=k
   ·simp[ej]
   ·have:¬k=j:=fun c=>ej c.symm
    simp[ej,this]
  |cons p m ih =>
   rw[IA,Hd,Hd];have e:=hn p (Aa ..);have ih:=ih (by simpa[e]using h) fun q hq=>hn q (Ae _ hq)
   by_cases ep:p.1=j
   ·have:¬j=k:=fun c=>e (ep.trans c)
    simp[ep,this]
   ·simp only[ep,Fc];exact ih
def EZ(m:List (Int×Int)):List Int:=m.map (·.1)
theorem Vc(m:List (Int×Int))(k v:Int):EZ (Ll m k v)=if k∈EZ m then EZ m else EZ m++[k]:=by
 unfold Ll EZ;have e:(m.any fun p=>decide (p.1=k))=decide (k∈m.map (·.1)):=by
  rw[BW];simp only[Bb,AA,Ak]
 rw[e]
 by_cases h:k∈m.map (·.1)
 ·simp only[h,decide_true,Kw,BO];apply Bf;intro p _;simp only[Function.comp];split
  ·rename_i e;exact e.symm
  ·rfl
 ·simp[h]
theorem Md{m:List (Int×Int)}(h:(EZ m).Nodup)(k v:Int):(EZ (Ll m k v)).Nodup:=by
 rw[Vc];split
 ·exact h
 ·rename_i hn;rw[F6];exact⟨h,by simp,fun a ha b hb e=>by subst e;rw[Am.1 hb]at ha;exact hn ha⟩
theorem H2(m:List (Int×Int))(k v j:Int):j∈EZ (Ll m k v)↔j=k∨j∈EZ m:=by
 rw[Vc];split
 ·rename_i h;constructor
  ·exact .inr
  ·rintro(rfl | h')
   ·exact h
   ·exact h'
 ·simp[or_comm]
theorem iY{m:List (Int×Int)}(h:(EZ m).Nodup){p:Int×Int}(hp:p∈m):Ff m p.1=p.2:=by
 induction m with
 |nil=>cases hp
 |cons q m ih =>
  rw[Hd];unfold EZ at h ih;rw[AN,CF]at h;rcases Aq.1 hp with rfl | hp
  ·simp
  ·have:¬q.1=p.1:=fun e=>h.1 (e▸Ak.2 ⟨p,hp,rfl⟩)
   rw[Ah this];exact ih h.2 hp
theorem iZ{m:List (Int×Int)}{k:Int}(h:k∉EZ m):Ff m k=0:=by
 unfold Ff
 have:m.find? (fun p=>decide (p.1=k))=none:=by
  rw[Em];intro p hp;simp only[AA];exact fun e=>h (Ak.2 ⟨p,hp,e⟩)
 rw[this]
-- counting
def cF(S:Bj)(k:Int):Nat:=S.countP fun x=>decide (x.1=k)
def cT(S:Bj)(k:Int):Nat:=S.countP fun x=>decide (x.2=k)
def lF(S:Bj)(k:Int):Nat:=S.countP fun x=>decide (x.1≤k)
def lT(S:Bj)(k:Int):Nat:=S.countP fun x=>decide (x.2≤k)
theorem IU{α:Type}{p q r:α→Bool}:∀{l:List α},(∀x∈l,(p x=true↔q x=true∨r x=true)∧¬(q x=true∧r x=true))→l.countP p=l.countP q+l.countP r
 | [],_=>rfl
 |x::l,h=>by
  have ih:=IU fun y hy=>h y (Ae _ hy);obtain⟨h1,h2⟩:=h x (Aa ..);rw[IB,IB,IB,ih];cases hp:p x<;>cases hq:q x<;>cases hr:r x<;>simp_all<;>omega
structure Ik(m:List (Int×Int))(S:Bj):Prop where
 nd:(EZ m).Nodup
 val:∀k,Ff m k=(cF S k:Int)-cT S k
 keys:0∈EZ m∧1000000∈EZ m∧∀x∈S,x.1∈EZ m∧x.2∈EZ m
 rng:∀k∈EZ m,0≤k∧k≤1000000
def pQ:List (Int×Int):=[(0,0),(1000000,0)]
theorem jJ:Ik pQ []:=⟨by decide,fun k=>by
  unfold pQ;rw[Hd,Hd];simp[Ff,cF,cT],⟨by decide,by decide,fun _ h=>by cases h⟩,fun k hk=>by
  unfold pQ EZ at hk;simp at hk;omega⟩
def Ys(m:List (Int×Int))(x:Int×Int):List (Int×Int):=Ll (Ll m x.1 (Ff m x.1+1)) x.2 (Ff (Ll m x.1 (Ff m x.1+1)) x.2-1)
theorem dA{m:List (Int×Int)}{S:Bj}{x:Int×Int}(h:Ik m S)(hx:0≤x.1∧x.1<x.2∧x.2≤1000000):Ik (Ys m x) (S++[x]):=by
 unfold Ys;refine⟨Md (Md h.nd _ _) _ _,fun k=>?_,⟨?_,?_,fun y hy=>?_⟩,fun k hk=>?_⟩
 ·rw[Pm,Pm,Pm,h.val,h.val,h.val];unfold cF cT;simp only[List.countP_append,List.countP_singleton,AA]
  by_cases e1:k=x.2
  ·subst e1
   have:¬x.2=x.1:=by omega
   have:¬x.1=x.2:=by omega
   simp[*];omega
  ·by_cases e2:k=x.1
   ·subst e2
    have:¬x.2=x.1:=by omega
    have:¬x.1=x.2:=by omega
    simp[*];omega
   ·have a1:¬x.1=k:=fun c=>e2 c.symm;have a2:¬x.2=k:=fun c=>e1 c.symm;simp[e1,e2,a1,a2]
 ·rw[H2,H2];exact .inr (.inr h.keys.1)
 ·rw[H2,H2];exact .inr (.inr h.keys.2.1)
 ·simp only[H2];rcases A7.1 hy with hy | hy
  ·have:=h.keys.2.2 y hy
   exact⟨.inr (.inr this.1),.inr (.inr this.2)⟩
  ·rw[Am.1 hy];exact⟨.inr (.inl rfl),.inl rfl⟩
 ·rw[H2,H2]at hk;rcases hk with rfl | rfl | hk
  ·omega
  ·omega
  ·exact h.rng k hk
def Ix(m:List (Int×Int))(B:List Int):Int:=(B.map (Ff m)).foldl (·+·) 0
theorem Qo(m:List (Int×Int))(B:List Int)(i:Nat)(h:i<B.length):Ix m (B.take (i+1))=Ix m (B.take i)+Ff m B[i]:=by
 unfold Ix;rw[Bu,Az h,AH,Ke];simp only[Option.toList_some,AN,E1,Fu,List.foldl_nil]
structure jq(B:List Int)(m:List (Int×Int)):Prop where
 perm:B.Perm (EZ m)
 srt:B.Pairwise fun a b=>a<b
theorem bi{m:List (Int×Int)}{S:Bj}{B:List Int}(h:Ik m S)(hB:jq B m):∀i (hi:i<B.length),Ix m (B.take (i+1))=(lF S B[i]:Int)-lT S B[i]:=by
 have mem:∀k,k∈EZ m→∃j,∃hj:j<B.length,B[j]=k:=fun k hk=>by
  have:=hB.perm.mem_iff.2 hk
  obtain⟨j,hj,e⟩:=Dy.1 this;exact⟨j,hj,e⟩
 have lt:∀i j (hi:i<B.length) (hj:j<B.length),i<j→B[i]<B[j]:=fun i j hi hj U4=>(Bc.1 hB.srt) i j hi hj U4;intro i
 induction i with
 |zero =>
  intro hi;rw[Qo m B 0 hi,h.val]
  have:Ix m (B.take 0)=0:=by simp[Ix]
  rw[this];have low:∀k∈EZ m,B[0]≤k:=fun k hk=>by
   obtain⟨j,hj,rfl⟩:=mem k hk;cases j with
   |zero=>exact AZ _
   |succ j=>have:=lt 0 (j+1) hi hj (by omega);omega
  have e1:lF S B[0]=cF S B[0]:=by
   unfold lF cF;apply Qx;intro x hx
   have:=low _ (h.keys.2.2 x hx).1
   simp only[AA];omega
  have e2:lT S B[0]=cT S B[0]:=by
   unfold lT cT;apply Qx;intro x hx
   have:=low _ (h.keys.2.2 x hx).2
   simp only[AA];omega
  rw[e1,e2];omega
 |succ i ih =>
  intro hi;rw[Qo m B (i+1) hi,ih (by omega),h.val];have nb:∀k∈EZ m,k≤B[i+1]↔k≤B[i]∨k=B[i+1]:=fun k hk=>by
   obtain⟨j,hj,rfl⟩:=mem k hk;have l0:=lt i (i+1) (by omega) hi (by omega);rcases Nat.lt_trichotomy j (i+1)with c | c | c
   ·have:B[j]≤B[i]:=by
     rcases ED j i with d | d
     ·have:=lt j i hj (by omega) d;omega
     ·have:j=i:=by omega
      subst this;exact AZ _
    omega
   ·subst c;omega
   ·have:=lt (i+1) j hi hj c;omega
  have l0:=lt i (i+1) (by omega) hi (by omega);have e1:lF S B[i+1]=lF S B[i]+cF S B[i+1]:=by
   unfold lF cF;apply IU;intro x hx
   have:=nb _ (h.keys.2.2 x hx).1
   simp only[AA];omega
  have e2:lT S B[i+1]=lT S B[i]+cT S B[i+1]:=by
   unfold lT cT;apply IU;intro x hx
   have:=nb _ (h.keys.2.2 x hx).2
   simp only[AA];omega
  rw[e1,e2];omega
theorem Xg{S:Bj}(hS:∀x∈S,x.1<x.2)(p:Int):(lF S p:Int)-lT S p=(S.countP (BL p):Nat):=by
 have:lF S p=S.countP (BL p)+lT S p:=by
  unfold lF lT;apply IU;intro x hx
  have:=hS x hx
  simp only[BL,Ag,AA];omega
 omega
theorem Om:∀{l:Bj} {lo:Int} (p:Int),EG lo l→l.countP (BL p)=if l.any (BL p)then 1 else 0
 | [],_,_,_=>rfl
 |y::r,lo,p,⟨h1,h2,h3,h4⟩=>by
  rw[IB,Om p h4,Ce];cases hy:BL p y with
  |false=>rw[LL];simp
  |true =>
   have:=DN.1 hy
   have:r.any (BL p)=false:=by
    rw[AI];intro hr;have:=MA h4 hr;omega
   simp[this]
theorem LX:∀(l:List Bj) (p:Int),((l.map canon).flatten).countP (BL p)=dJ l p
 | [],_=>rfl
 |s::l,p=>by
  rw[AN,By,List.countP_append,LX l p,Om p (Cp s),Kq];unfold dJ;rw[IB];omega
def Et(keep:Nat→Bool)(m:List (Int×Int))(B:List Int):Nat→Bj
 |0=>[]
 |i+1=>Et keep m B i++(match B[i]?,B[i+1]? with
  |some a,some b=>if keep (Ix m (B.take (i+1))).toNat then [(a,b)]else []
  |_,_=>[])
theorem PS{keep:Nat→Bool}{m:List (Int×Int)}{B:List Int}{x:Int×Int}:∀{n:Nat},x∈Et keep m B n↔∃i,i<n∧∃(h1:i<B.length) (h2:i+1<B.length),keep (Ix m (B.take (i+1))).toNat=true∧x=(B[i],B[i+1])
 |0=>by simp[Et]
 |n+1=>by
  unfold Et;rw[A7,PS (n:=n)];constructor
  ·rintro(⟨i,h1,h2⟩ | h)
   ·exact⟨i,by omega,h2⟩
   ·split at h
    ·rename_i a b ha hb;obtain⟨h1,e1⟩:=At.1 ha;obtain⟨h2,e2⟩:=At.1 hb;split at h
     ·rename_i hk;refine⟨n,by omega,h1,h2,hk,?_⟩;rw[Am.1 h,e1,e2]
     ·cases h
    ·cases h
  ·rintro⟨i,h1,h2,h3,h4,rfl⟩
   by_cases e:i=n
   ·subst e;refine .inr ?_;rw[Az h2,Az h3];simp[h4]
   ·exact .inl ⟨i,by omega,h2,h3,h4,rfl⟩
theorem Og{B:List Int}(hs:B.Pairwise fun a b=>a<b){p:Int}:∀(n:Nat) (h0:0<B.length) (hn:n<B.length),B[0]≤p→p<B[n]→∃i,∃(h1:i<B.length) (h2:i+1<B.length),B[i]≤p∧p<B[i+1]
 |0,h0,hn,h1,h2=>by omega
 |n+1,h0,hn,h1,h2=>by
  by_cases e:B[n]≤p
  ·exact⟨n,by omega,hn,e,h2⟩
  ·exact Og hs n h0 (by omega) h1 (by omega)
theorem gm{keep:Nat→Bool}{l:List Bj}{m:List (Int×Int)}{B:List Int}(h:Ik m (l.map canon).flatten)(hB:jq B m)(p:Int):has (Et keep m B (B.length-1)) p=(LH p&&keep (dJ l p)):=by
 have hS:∀x∈(l.map canon).flatten,x.1<x.2:=fun x hx=>by
  obtain⟨s,hs,hx⟩:=Ep.1 hx;obtain⟨t,_,rfl⟩:=Ak.1 hs;exact((Cp t).low x hx).2.1
 have mem:∀k,k∈EZ m→∃j,∃hj:j<B.length,B[j]=k:=fun k hk=>by
  obtain⟨j,hj,e⟩:=Dy.1 (hB.perm.mem_iff.2 hk);exact⟨j,hj,e⟩
 have lt:∀i j (hi:i<B.length) (hj:j<B.length),i<j→B[i]<B[j]:=fun i j hi hj U4=>(Bc.1 hB.srt) i j hi hj U4;have rng:∀i (hi:i<B.length),0≤B[i]∧B[i]≤1000000:=fun i hi=>h.rng _ (hB.perm.mem_iff.1 (Ap hi))
 -- VS two bounds
 have VS:∀i (h1:i<B.length) (h2:i+1<B.length),B[i]≤p→p<B[i+1]→(Ix m (B.take (i+1))).toNat=dJ l p:=fun i h1 h2 a b=>by
  have same:∀k∈EZ m,k≤B[i]↔k≤p:=fun k hk=>by
   obtain⟨j,hj,rfl⟩:=mem k hk;constructor
   ·intro c;omega
   ·intro c;rcases ED i j with d | d
    ·rcases ED (i+1) j with f | f
     ·have:=lt (i+1) j h2 hj f;omega
     ·have:j=i+1:=by omega
      subst this;omega
    ·rcases ED j i with f | f
     ·have:=lt j i hj h1 f;omega
     ·have:j=i:=by omega
      subst this;exact AZ _
  have e1:lF (l.map canon).flatten B[i]=lF (l.map canon).flatten p:=by
   unfold lF;apply Qx;intro x hx
   have:=same _ (h.keys.2.2 x hx).1
   simp only[AA];exact this
  have e2:lT (l.map canon).flatten B[i]=lT (l.map canon).flatten p:=by
   unfold lT;apply Qx;intro x hx
   have:=same _ (h.keys.2.2 x hx).2
   simp only[AA];exact this
  rw[bi h hB i h1,e1,e2,Xg hS,LX];simp
 rw[BW];constructor
 ·intro hh;have jg:=L9 hh;unfold has at hh;simp only[jg,decide_true,EA]at hh;obtain⟨x,hx,hp⟩:=Bb.1 hh;obtain⟨i,_,h1,h2,hk,rfl⟩:=PS.1 hx
  have:=DN.1 hp
  dsimp only at this;rw[←VS i h1 h2 this.1 this.2];simp[LH,jg,hk]
 ·intro hh;simp only[Ag,LH,AA]at hh;obtain⟨⟨p0,p1⟩,hk⟩:=hh;obtain⟨j0,zQ,e0⟩:=mem 0 h.keys.1;obtain⟨j1,zR,e1⟩:=mem 1000000 h.keys.2.1;have ut:B[0]'(by omega)≤p:=by
   have:B[0]'(by omega)≤0:=by
    cases j0 with
    |zero=>omega
    |succ j=>have:=lt 0 (j+1) (by omega) zQ (by omega);omega
   omega
  obtain⟨i,h1,h2,a,b⟩:=Og hB.srt j1 (by omega) zR ut (by omega);unfold has;simp only[p0,p1,decide_true,EA];exact Bb.2 ⟨(B[i],B[i+1]),PS.2 ⟨i,by omega,h1,h2,by rw[VS i h1 h2 a b];exact hk,rfl⟩,DN.2 ⟨a,b⟩⟩
theorem iI{l:List Bj}{m:List (Int×Int)}{B:List Int}(h:Ik m (l.map canon).flatten)(hB:jq B m)(i:Nat)(hi:i<B.length):0≤Ix m (B.take (i+1))∧Ix m (B.take (i+1))≤l.length:=by
 have hS:∀x∈(l.map canon).flatten,x.1<x.2:=fun x hx=>by
  obtain⟨s,hs,hx⟩:=Ep.1 hx;obtain⟨t,_,rfl⟩:=Ak.1 hs;exact((Cp t).low x hx).2.1
 rw[bi h hB i hi,Xg hS,LX]
 have:dJ l B[i]≤l.length:=List.countP_le_length
 omega
def Wx(m:List Tm)(t:Tm):List Tm:=if m.any (fun u=>decide (u.path=t.path))then m.map (fun u=>if u.path=t.path then t else u)else m++[t]
def Rc(m:List Tm)(t:Tm):List Tm:=Wx m (NW (Dj m t.path) t)
def CX(l:List Tm):List Tm:=l.foldl Rc []
theorem bZ(t:Tm)(p:ByteArray):∀m:List Tm,Dj (Wx m t) p=if t.path=p then some t else Dj m p:=by
 intro m;unfold Wx
 by_cases h:(m.any fun u=>decide (u.path=t.path))=true
 ·rw[Aw h]
  induction m with
  |nil=>simp at h
  |cons u m ih =>
   rw[AN,CM,CM]
   by_cases e:u.path=t.path
   ·rw[Aw e]
    by_cases ep:t.path=p
    ·simp[ep]
    ·rw[Ah ep,Ah ep,Ah (fun c=>ep (e.symm.trans c))]
     by_cases hm:(m.any fun u=>decide (u.path=t.path))=true
     ·rw[ih hm,Ah ep]
     ·have:∀q∈m,q.path≠t.path:=fun q hq c=>hm (Bb.2 ⟨q,hq,by simp[c]⟩)
      have:m.map (fun u=>if u.path=t.path then t else u)=m:=by
       conv=>rhs;rw[←JD m]
       exact Bf fun q hq=>by simp[this q hq]
      rw[this]
   ·rw[Ah e];have hm:(m.any fun u=>decide (u.path=t.path))=true:=by simpa[e]using h
    rw[ih hm]
    by_cases ep:t.path=p
    ·subst ep;simp[e]
    ·simp[ep]
 ·rw[Ah h];have hn:∀q∈m,q.path≠t.path:=fun q hq e=>h (Bb.2 ⟨q,hq,by simp[e]⟩)
  clear h
  induction m with
  |nil=>rw[Ef,CM]
  |cons u m ih =>
   rw[IA,CM,CM,ih fun q hq=>hn q (Ae _ hq)]
   have:=hn u (Aa ..)
   by_cases e:u.path=p
   ·have:¬t.path=p:=fun c=>this (e.trans c.symm)
    simp[e,this]
   ·simp[e]
def Eu(m:List Tm):List ByteArray:=m.map (·.path)
open Classical in
theorem ZF(m:List Tm)(t:Tm):Eu (Wx m t)=if t.path∈Eu m then Eu m else Eu m++[t.path]:=by
 unfold Wx Eu;have e:(m.any fun u=>decide (u.path=t.path))=true↔t.path∈m.map (·.path):=by
  simp only[Bb,AA,Ak]
 by_cases h:t.path∈m.map (·.path)
 ·rw[Aw (e.2 h),Aw h,BO];apply Bf;intro p _;simp only[Function.comp];split
  ·rename_i e;exact e.symm
  ·rfl
 ·rw[Ah (fun c=>h (e.1 c)),Ah h,AH];rfl
theorem cR{m:List Tm}(h:(Eu m).Nodup)(t:Tm):(Eu (Wx m t)).Nodup:=by
 rw[ZF];split
 ·exact h
 ·rename_i hn;rw[F6];exact⟨h,by simp,fun a ha b hb e=>by subst e;rw[Am.1 hb]at ha;exact hn ha⟩
theorem QV(l:List Tm)(i:Nat)(h:i<l.length):CX (l.take (i+1))=Rc (CX (l.take i)) l[i]:=by
 unfold CX;rw[Bu,Az h,Ke];rfl
theorem OD:∀(l m:List Tm),(Eu m).Nodup→(Eu (l.foldl Rc m)).Nodup
 | [],_,h=>h
 |_::l,_,h=>OD l _ (cR h _)
theorem HB(l:List Tm):(Eu (CX l)).Nodup:=OD l [] .nil
theorem Xu(m:List Tm)(t:Tm)(p:ByteArray):Dj (Rc m t) p=JS p (Dj m p) t:=by
 unfold Rc JS;have hp:(NW (Dj m t.path) t).path=t.path:=Qb _ _ fun u h=>GY h;rw[bZ,hp]
 by_cases e:t.path=p
 ·rw[Aw e,Aw e,e]
 ·rw[Ah e,Ah e]
theorem Oz(p:ByteArray):∀(l m:List Tm),Dj (l.foldl Rc m) p=l.foldl (JS p) (Dj m p)
 | [],_=>rfl
 |t::l,m=>by rw[Fu,Fu,Oz p l,Xu]
theorem Y5(l:List Tm)(p:ByteArray):Dj (CX l) p=Dj (ET l) p:=by
 unfold CX;rw[Oz,IX];rfl
theorem L4{m:List Tm}(h:(Eu m).Nodup){t:Tm}:t∈m↔Dj m t.path=some t:=by
 constructor
 ·induction m with
  |nil=>intro h;cases h
  |cons u m ih =>
   intro ht;unfold Eu at h ih;rw[AN,CF]at h;rw[CM];rcases Aq.1 ht with rfl | ht
   ·rw[Aw rfl]
   ·have:¬u.path=t.path:=fun e=>h.1 (e▸Ak.2 ⟨t,ht,rfl⟩)
    rw[Ah this];exact ih h.2 ht
 ·exact E5
theorem HD{m:List Tm}(h:(Eu m).Nodup):m.Nodup:=by
 unfold Eu at h
 induction m with
 |nil=>exact .nil
 |cons u m ih =>
  rw[AN,CF]at h;exact CF.2 ⟨fun hu=>h.1 (Ak.2 ⟨u,hu,rfl⟩),ih h.2⟩
theorem HL{l:List Tm}{lo:Option ByteArray}(h:Cc lo l):(Eu l).Nodup:=by
 unfold Eu
 induction l generalizing lo with
 |nil=>exact .nil
 |cons t l ih =>
  rw[AN,CF];refine⟨fun hm=>?_,ih h.2.2⟩;obtain⟨u,hu,e⟩:=Ak.1 hm
  have:=h.2.2.low u hu
  rw[e,Dg]at this;cases this
theorem I5(l:List Tm)(t:Tm):t∈CX l↔t∈ET l:=by
 rw[L4 (HB l),Y5,←L4 (HL (Eo l))]
theorem OT(l:List Tm):∀t∈CX l,EB t.set:=fun t ht=>(Eo l).canon t ((I5 l t).1 ht)
theorem dD(m:List Tm)(t:Tm):(Rc m t).length≤m.length+1:=by
 unfold Rc Wx;split<;>simp
theorem NQ(l:List Tm):∀i,i≤l.length→(CX (l.take i)).length≤i:=by
 intro i
 induction i with
 |zero=>intro _;simp[CX]
 |succ i ih =>
  intro h;rw[QV l i (by omega)]
  have:=dD (CX (l.take i)) l[i]
  have:=ih (by omega)
  omega
theorem ZS{s:List Tm}(hs:s.Pairwise fun x y=>Fg x.path y.path=true)(hc:∀t∈s,EB t.set):Cc none s:=by
 have:∀(s:List Tm) (lo:Option ByteArray),s.Pairwise (fun x y=>Fg x.path y.path=true)→(∀t∈s,EB t.set)→(∀p,lo=some p→∀t∈s,Fg p t.path=true)→Cc lo s:=by
  intro s
  induction s with
  |nil=>intro _ _ _ _;trivial
  |cons t s ih =>
   intro lo hs hc hl;obtain⟨h1,h2⟩:=BI.1 hs;exact⟨fun p e=>hl p e t (Aa ..),hc t (Aa ..),ih _ h2 (fun u hu=>hc u (Ae _ hu)) fun p e u hu=>by cases e;exact h1 u hu⟩
 exact this s none hs hc fun _ e=>by cases e
theorem PG{l s:List Tm}(q:Tm→Bool)(hp:s.Perm ((CX l).filter q))(hs:s.Pairwise fun x y=>Fg y.path x.path=false):s=(ET l).filter q:=by
 have hm:∀t,t∈s↔t∈(ET l).filter q:=fun t=>by
  rw[hp.mem_iff,Bo,Bo,I5]
 have Rk:(Eu s).Nodup:=by
  have h1:(Eu ((CX l).filter q)).Nodup:=by
   unfold Eu;exact List.Nodup.sublist (List.Sublist.map _ List.filter_sublist) (HB l)
  unfold Eu at h1⊢;exact(hp.map (·.path)).nodup_iff.2 h1
 have Jg:s.Pairwise fun x y=>Fg x.path y.path=true:=by
  rw[Bc]at hs⊢;intro i j hi hj U4;cases hb:Fg s[i].path s[j].path with
  |true=>rfl
  |false =>
   have e:=Hp hb (hs i j hi hj U4);unfold Eu at Rk
   have:=(Bc.1 Rk) i j (by simpa using hi) (by simpa using hj) U4
   simp at this;exact absurd e this
 have xY:Cc none s:=ZS Jg fun t ht=>(Eo l).canon t (Bo.1 ((hm t).1 ht)).1;have jj:Cc none ((ET l).filter q):=Cc.filter q (Eo l);refine Mx xY jj fun p=>?_;cases h1:Dj s p with
 |some t =>
  have:=(hm t).1 (E5 h1)
  rw[FC jj,GY h1]at this;exact this.symm
 |none =>
  cases h2:Dj ((ET l).filter q) p with
  |none=>rfl
  |some t =>
   have:=(hm t).2 (E5 h2)
   rw[FC xY,GY h2,h1]at this;cases this
theorem YQ(t:Tm):GM t t=Lt t:=by unfold GM Lt;rw[Zn,Bool.and_self]
theorem aW(o:Option Tm)(t:Tm):NW o t=GM (o.getD t) t:=by cases o with | none=>exact(YQ t).symm | some u=>rfl
theorem bB{t:Tm}(h:EB t.set):(t.absent&&(Ed t.set).isEmpty)=Gn t:=by
 unfold Gn
 congr 1
 rw[BW,GJ,AA];have ha:EB [(0,1000000)]:=⟨AZ _,by dsimp only;omega,AZ _,trivial⟩;constructor
 ·intro e;refine Hq h ha fun p=>?_
  have:=FD t.set p
  rw[e]at this;have h0:has [] p=false:=by simp[has]
  rw[h0]at this;have h1:has [(0,1000000)] p=LH p:=by simp[has,LH,BL]
  rw[h1];cases hp:LH p with
  |true=>rw[hp]at this;simpa using this.symm
  |false =>
   rw[AI];intro hh
   have:=L9 hh
   simp[LH,this]at hp
 ·intro e;rw[PW (G5 _)];intro p;rw[FD,e];have h1:has [(0,1000000)] p=LH p:=by simp[has,LH,BL]
  rw[h1];simp
theorem gI{t:Tm}(h:EB t.set):(!t.absent&&(canon t.set).isEmpty)=HC t:=by unfold HC;rw[Jb h]
end Go.Eng
namespace Go.Eng
open Go.Lib
theorem Ql(c:UInt8):∀(s:List UInt8) (k:Nat),s.count c≤k→splitK [c] 0 k s=Fj c s
 | [],k,_=>by
  cases k with
  |zero=>rfl
  |succ k=>rfl
 |b::r,k,h=>by
  rw[Fj]
  by_cases e:b=c
  ·subst e;rw[List.count_cons_self]at h;obtain⟨k',rfl⟩:∃k',k=k'+1:=⟨k-1,by omega⟩;rw[Aw rfl,splitK,index_one,indexByte];simp only[beq_self_eq_true,Kw];rw[Ah (by decide)];show []::splitK [b] 0 k' r=_;rw[Ql b r k' (by omega)]
  ·have DC:(b == c)=false:=by simpa using e
   rw[List.count_cons_of_ne (by simpa using e)]at h;have ih:=Ql c r k h;rw[Ah e];cases k with
   |zero =>
    rw[←ih];rfl
   |succ k =>
    rw[←ih,splitK,splitK,index_one,index_one,indexByte,DC]
    by_cases h0:indexByte r c=-1
    ·rw[h0];rfl
    ·have h1:(indexByte r c == -1)=false:=by simpa using h0
     have h2:=indexByte_ge r c;have h3:(indexByte r c+1 == -1)=false:=by rw[beq_eq_false_iff_ne];omega
     simp only[Cw,Fc,h1,h3];obtain⟨i,hi⟩:∃i:Nat,indexByte r c=i:=⟨(indexByte r c).toNat,by omega⟩;rw[hi];show(b::r).take (((i:Int)+1).toNat+0)::_=(b::r.take ((i:Int).toNat+0))::_;rw[show((i:Int)+1).toNat=i+1 by omega,show((i:Nat):Int).toNat=i by omega]
     rfl
theorem Xf(c:UInt8):∀(n:Nat) (s:List UInt8),s.length≤n→count s [c]=s.count c
 |n,s,hn=>by
  rcases Int.lt_or_le (indexByte s c) 0 with h | h
  ·have h2:=indexByte_ge s c;have h3:indexByte s c=-1:=by omega
   rw[count_miss (by rw[index_one];exact h3)]
   symm
   rw[List.count_eq_zero];intro hm;obtain⟨k,hk,e⟩:=FA hm;exact indexByte_none h3 k (by rw[Az hk,e])
  ·obtain⟨i,hi⟩:∃i:Nat,indexByte s c=i:=⟨(indexByte s c).toNat,by omega⟩;obtain⟨h1,h2⟩:=indexByte_some hi;obtain⟨hl,hg⟩:=At.1 h1;cases n with
   |zero=>omega
   |succ n =>
    have hc:=count_hit (s:=s) (sub:=[c]) (i:=i) (by simp) (by rw[index_one];exact hi);rw[hc];have ih:=Xf c n (s.drop (i+1)) (by rw[As];omega);have qT:s=s.take i++c::s.drop (i+1):=by
     rw[←hg,←Bs hl,Lq]
    have h0:(s.take i).count c=0:=by
     rw[List.count_eq_zero];intro hm;obtain⟨k,hk,e⟩:=FA hm;rw[AJ]at hk;rw[Kf]at e;exact h2 k (by omega) (by rw[Az (by omega),e])
    conv=>rhs;rw[qT]
    rw[List.count_append,h0,List.count_cons_self];show 1+count (s.drop (i+1)) [c]=_;rw[ih];omega
theorem dz(s:ByteArray)(c:UInt8):((splitB ⟨#[c]⟩ 0 (countB s ⟨#[c]⟩) s).map (·.data.toList))=Fj c s.data.toList:=by
 rw[splitB_data];refine Ql c _ _ ?_;show _≤count s.data.toList [c];rw[Xf c _ _ (Aj _)];exact Aj _
end Go.Eng
namespace Go.Eng
theorem PX{α:Type}:∀{l m:List α},l.Nodup→(∀x∈l,x∈m)→l.length≤m.length
 | [],_,_,_=>AO _
 |a::l,m,hn,hs=>by
  obtain⟨h1,h2⟩:=CF.1 hn;obtain⟨s,t,rfl⟩:=List.append_of_mem (hs a (Aa ..))
  have:l.length≤(s++t).length:=PX h2 fun x hx=>by
   rcases A7.1 (hs x (Ae _ hx))with h | h
   ·exact Bp _ h
   ·rcases Aq.1 h with rfl | h
    ·exact absurd hx h1
    ·exact Bk _ h
  simp only[Ad,Au]at this⊢;omega
theorem Lv(p:ByteArray):∀(l:List Tm) (o:Option Tm),(∀u∈l,u.path≠p)→l.foldl (JS p) o=o
 | [],_,_=>rfl
 |t::l,o,h=>by
  rw[Fu,show JS p o t=o by unfold JS;rw[Ah (h t (Aa ..))]];exact Lv p l o fun u hu=>h u (Ae _ hu)
theorem Zx{l:List Tm}{t:Tm}(h:t∈ET l):∃u∈l,u.path=t.path:=by
 apply Bn;intro hn
 have:∀u∈l,u.path≠t.path:=fun u hu e=>hn ⟨u,hu,e⟩
 have h1:=(FC (Eo l)).1 h;rw[IX,Lv _ _ _ this]at h1;cases h1
def Uw(U:List ByteArray)(t:List Tm):Prop:=Cc none t∧∀u∈t,u.path∈U
theorem Uw.len{U:List ByteArray}{t:List Tm}(h:Uw U t):t.length≤U.length:=by
 have:=PX (HL h.1) (m:=U) fun p hp=>by
  obtain⟨u,hu,rfl⟩:=Ak.1 hp;exact h.2 u hu
 unfold Eu at this
 rwa [Ba]at this
theorem YR{l c:List Tm}(h:CP l=some c){t:Tm}(ht:t∈c):t∈ET l:=by
 unfold CP at h;split at h
 ·cases h
 ·cases h;exact(Bo.1 ht).1
theorem PF{U:List ByteArray}{l c:List Tm}(h:CP l=some c)(hu:∀u∈l,u.path∈U):Uw U c :=
 ⟨EJ h,fun t ht=>by
  obtain⟨u,h1,h2⟩:=Zx (YR h ht);rw[←h2];exact hu u h1⟩
theorem Uw.nil(U:List ByteArray):Uw U []:=⟨trivial,fun u hu=>by cases hu⟩
theorem TC{U:List ByteArray}{l:List Tm}(hu:∀u∈l,u.path∈U):Uw U (PY l):=by
 unfold PY;cases h:CP l with
 |none=>exact .nil U
 |some c=>exact PF h hu
theorem Ra{U:List ByteArray}{a b:List Tm}{p:ByteArray}(ha:Uw U a)(hb:Uw U b):Uw U (Bw a b p).1:=by
 have sp:∀{l r:List Tm} {t:Tm},Uw U l→Fk l p=some (t,r)→t.path∈U∧∀u∈r,u.path∈U:=by
  intro l r t hl h;unfold Fk at h;cases e:CP l with
  |none=>rw[e]at h;cases h
  |some c =>
   rw[e]at h;have h:(match Dj c p with | none=>none | some t=>some (t,FI c p))=some (t,r):=h;have hc:=PF e hl.2;cases e2:Dj c p with
   |none=>rw[e2]at h;cases h
   |some u =>
    rw[e2]at h;cases h;exact⟨hc.2 _ (E5 e2),fun u hu=>hc.2 u (Bo.1 hu).1⟩
 unfold Bw;split
 ·rename_i t r u m e1 e2;obtain⟨a1,a2⟩:=sp ha e1;obtain⟨b1,b2⟩:=sp hb e2;split
  ·rename_i o e3;refine PF e3 fun v hv=>?_;rcases A7.1 hv with hv | hv
   ·rcases A7.1 hv with hv | hv
    ·exact a2 v hv
    ·exact b2 v hv
   ·rw[Am.1 hv];exact a1
  ·exact .nil U
 ·exact .nil U
def Ka(x:List Rl)(roots:List Rq)(l:List Nf):List ByteArray:=(x.map (·.path))++((x.map (·.reqs)).flatten.map (·.path)++(roots.map (·.path)++l.map (·.path)))
theorem cB{x:List Rl}{roots:List Rq}{l:List Nf}{d:List (List Tm)}{i:Nf}(hi:i∈l)(hd:∀t∈d,Uw (Ka x roots l) t){t:List Tm}(h:DU x roots d i=some t):Uw (Ka x roots l) t:=by
 have hp:i.path∈Ka x roots l:=by
  unfold Ka;exact Bk _ (Bk _ (Bk _ (Ak.2 ⟨i,hi,rfl⟩)))
 have nz:∀{α:Type} {l:List α} {k:Int} {a:α},Jp l k=some a→a∈l:=by
  intro α l k a h;unfold Jp at h;split at h
  ·cases h
  ·exact Av h
 have n0:∀{a b:List Tm},cL a=some b→b=a:=by
  intro a b h;unfold cL at h;split at h
  ·cases h
  ·cases h;rfl
 unfold DU at h;split at h
 ·split at h
  ·cases e:Jp roots i.number with
   |none=>rw[e]at h;cases h
   |some q =>
    rw[e]at h;cases h;refine TC fun u hu=>?_;rw[Am.1 hu];unfold Ka;exact Bk _ (Bk _ (Bp _ (Ak.2 ⟨q,nz e,rfl⟩)))
  ·cases h
 split at h
 ·split at h
  ·cases e:Pb x i.path i.place with
   |none=>rw[e]at h;cases h
   |some r =>
    rw[e]at h;have h:(match Jp r.reqs i.number with | none=>none | some q=>cL (Ei i.path i.place q))=some t:=h;cases e2:Jp r.reqs i.number with
    |none=>rw[e2]at h;cases h
    |some q =>
     rw[e2]at h;have h:=n0 (show cL (Ei i.path i.place q)=some t from h);subst h;refine TC fun u hu=>?_;rcases Aq.1 hu with rfl | hu
     ·exact hp
     ·rw[Am.1 hu];unfold Ka;refine Bk _ (Bp _ (Ak.2 ⟨q,?_,rfl⟩));exact Ep.2 ⟨r.reqs,Ak.2 ⟨r,CJ e,rfl⟩,nz e2⟩
  ·cases h
 split at h
 ·split at h
  ·have h:=n0 h;subst h;refine TC fun u hu=>?_;rw[Am.1 hu];exact hp
  ·cases h
 split at h
 ·split at h
  ·cases e:Jp d i.left with
   |none=>rw[e]at h;cases h
   |some a =>
    cases e2:Jp d i.right with
    |none=>rw[e,e2]at h;cases h
    |some b =>
     rw[e,e2]at h;have h:(if(Bw a b i.path).2=0 then some (Bw a b i.path).1 else none)=some t:=h;split at h
     ·cases h;exact Ra (hd a (nz e)) (hd b (nz e2))
     ·cases h
  ·cases h
 ·cases h
structure Cd where
 place:Int
 rel:Rl
structure Nd where
 rq:Rq
 path:ByteArray
 place:Int
 number:Int
structure SS where
 infs:List Nf
 drv:List (List Tm)
 full:Bool
abbrev Tf(c:Cd):Sl:=⟨c.rel.path,c.rel.ver⟩
abbrev AK(l:List Cd):List Sl:=l.map Tf
def Cq(x:List Rl)(p:ByteArray):List Cd:=(x.filter fun r=>decide (r.path=p)&&!r.yanked).map fun r=>⟨plc r.ver,r⟩
def Ml(f:Rq→Nat→Nd):Nat→List Rq→List Nd
 |_,[]=>[]
 |i,q::l=>f q i::Ml f (i+1) l
def Yr(roots:List Rq):List Nd:=Ml (fun q i=>⟨q,mt,0,i⟩) 0 roots
def Qd(c:Cd):List Nd:=Ml (fun q i=>⟨q,c.rel.path,c.place,i⟩) 0 c.rel.reqs
def Dr(roots:List Rq)(dec:List Cd):List Nd:=Yr roots++(dec.map Qd).flatten
def De(dec:List Cd)(p:ByteArray):Bool:=dec.any fun c=>decide (c.rel.path=p)
def Eh(dec:List Cd)(a:ByteArray×List Nd)(n:Nd):ByteArray×List Nd :=
 if De dec n.rq.path=true∨(a.2≠[]∧Fg a.1 n.rq.path=true)then a
 else if a.2≠[]∧Fg n.rq.path a.1=true then(n.rq.path,[n])else(n.rq.path,a.2++[n])
def GA(roots:List Rq)(dec:List Cd):ByteArray×List Nd:=(Dr roots dec).foldl (Eh dec) (mt,[])
def aJ(l:List Cd)(n:Nd):Bool:=l.any fun d=>decide (d.rel.path=n.rq.path)&&!has n.rq.set d.place
def D8(dec:List Cd)(c:Cd):Option Nd:=(Qd c).find? (aJ (dec++[c]))
def Oo(s:List Sl):Nat→List (List Tm)→Option Nat
 |_,[]=>none
 |i,t::l=>if CD t s then some i else Oo s (i+1) l
def Oq(d:List (List Tm))(s:List Sl):Option Nat:=Oo s 0 d
def CZ(l:List Tm)(p:ByteArray):Bool:=l.any fun t=>decide (t.path=p)
instance:DecidableEq Nf:=fun a b=>by
 obtain⟨a1,a2,a3,a4,a5,a6⟩:=a;obtain⟨b1,b2,b3,b4,b5,b6⟩:=b;exact decidable_of_iff (a1=b1∧a2=b2∧a3=b3∧a4=b4∧a5=b5∧a6=b6) ⟨fun⟨h1,h2,h3,h4,h5,h6⟩=>by subst h1 h2 h3 h4 h5 h6;rfl,fun h=>by cases h;exact⟨rfl,rfl,rfl,rfl,rfl,rfl⟩⟩
def LJ(i:Nf):Nat→List Nf→Option Nat
 |_,[]=>none
 |k,j::l=>if j=i then some k else LJ i (k+1) l
def Ec(s:SS)(i:Nf)(l:List Tm):Nat×SS :=
 match LJ i 0 s.infs with
 |some k=>(k,s)
 |none=>if 65536≤s.infs.length then(s.infs.length-1,⟨s.infs,s.drv,true⟩)else(s.infs.length,⟨s.infs++[i],s.drv++[l],s.full⟩)
def Ta(n:Nd):Nf:=if n.path=mt then⟨0,mt,0,n.number,0,0⟩else⟨1,n.path,n.place,n.number,0,0⟩
def IZ(n:Nd):List Tm:=if n.path=mt then Jt n.rq else Ei n.path n.place n.rq
def Bl(s:SS)(n:Nd):Nat×SS:=Ec s (Ta n) (IZ n)
abbrev DO(s:SS)(k:Nat):List Tm:=s.drv.getD k []
def Cn(p:ByteArray):List Nat→Nat→SS→Nat×SS
 | [],k,s=>(k,s)
 |r::l,k,s =>
  if s.full=true∨CZ (DO s k) p=false then(k,s)
  else if r=k then Cn p l k s
  else if(Bw (DO s k) (DO s r) p).2≠0 then Cn p l k s
  else Cn p l (Ec s ⟨3,p,0,0,k,r⟩ (Bw (DO s k) (DO s r) p).1).1 (Ec s ⟨3,p,0,0,k,r⟩ (Bw (DO s k) (DO s r) p).1).2
def Ej(x:List Rl)(p:ByteArray)(s:SS):Nat×SS:=Ec s ⟨2,p,0,0,0,0⟩ (HR p (B8 x p))
def D2(x:List Rl)(p:ByteArray)(n:Nd)(FP:List Nat)(s:SS):Nat×SS :=
 Cn p ((Ej x p (Bl s n).2).1::FP) (Bl s n).1 (Ej x p (Bl s n).2).2
structure JV where
 res:Nat
 found:Bool
 ss:SS
 dec:List Cd
 stack:List (List Sk)
def D1(rec:List Cd→SS→List (List Sk)→JV)(x:List Rl)(p:ByteArray)(needs:List Nd)(n0:Nd)(dec:List Cd)(stack:List (List Sk)):List Cd→SS→List Nat→List Sk→JV
 | [],s,FP,_=>⟨(D2 x p n0 FP s).1,false,(D2 x p n0 FP s).2,dec,stack⟩
 |c::cs,s,FP,skips =>
  let after (k:Nat) (s:SS):JV:=if CZ (DO s k) p=false then⟨k,false,s,dec,stack⟩else D1 rec x p needs n0 dec stack cs s (FP++[k]) (skips++[⟨p,c.place,k⟩])
  if s.full=true then⟨0,false,s,dec,stack⟩
  else match needs.find? fun n=>!has n.rq.set c.place with
   |some n=>D1 rec x p needs n0 dec stack cs (Bl s n).2 (FP++[(Bl s n).1]) skips
   |none=>match Oq s.drv (AK (dec++[c]))with
    |some k=>after k s
    |none=>match D8 dec c with
     |some n=>after (Bl s n).1 (Bl s n).2
     |none =>
      let o:=rec (dec++[c]) s (stack++[skips])
      if o.found=true then⟨0,true,o.ss,o.dec,o.stack⟩
      else if o.ss.full=true then⟨0,false,o.ss,dec,stack⟩
      else after o.res o.ss
def Da(x:List Rl)(roots:List Rq):Nat→List Cd→SS→List (List Sk)→JV
 |0,dec,s,stack=>⟨0,false,s,dec,stack⟩
 |n+1,dec,s,stack=>match(GA roots dec).2 with
  | []=>⟨0,true,s,dec,stack⟩
  |n0::l=>D1 (Da x roots n) x (GA roots dec).1 (n0::l) n0 dec stack (Cq x (GA roots dec).1) s [] []
abbrev s8:SS:=⟨[],[],false⟩
def QM(x:List Rl)(dec:List Cd):Nat:=(x.filter fun r=>!r.yanked&&!De dec r.path).length
def FG(x:List Rl)(roots:List Rq):JV:=Da x roots (x.length+1) [] s8 []
theorem OZ(f:Rq→Nat→Nd):∀(l:List Rq) (i k:Nat),(Ml f i l)[k]?=(l[k]?).map fun q=>f q (i+k)
 | [],i,k=>by simp[Ml]
 |q::l,i,0=>by simp[Ml]
 |q::l,i,k+1=>by
  have h:=OZ f l (i+1) k;simp only[Ml,GH,h];rw[show i+1+k=i+(k+1) by omega]
theorem KE(f:Rq→Nat→Nd):∀(l:List Rq) (i:Nat),(Ml f i l).length=l.length
 | [],_=>rfl
 |_::l,i=>by simp[Ml,KE f l (i+1)]
theorem X9{f:Rq→Nat→Nd}{l:List Rq}{n:Nd}(h:n∈Ml f 0 l):∃k q,l[k]?=some q∧n=f q k:=by
 obtain⟨k,hk⟩:=B9.1 h;rw[OZ,A1]at hk;obtain⟨q,h1,h2⟩:=hk;exact⟨k,q,h1,by rw[←h2,Bi]⟩
theorem RE{f:Rq→Nat→Nd}(hf:∀q i,(f q i).rq=q):∀(l:List Rq) (i:Nat),(Ml f i l).map (·.rq)=l
 | [],_=>rfl
 |q::l,i=>by simp[Ml,hf,RE hf l (i+1)]
abbrev HH(roots:List Rq)(dec:List Cd):List Rq:=roots++(dec.map fun c=>c.rel.reqs).flatten
theorem MO(roots:List Rq)(dec:List Cd):(Dr roots dec).map (·.rq)=HH roots dec:=by
 unfold Dr Yr;rw[AH,RE (fun _ _=>rfl),RO,BO]
 congr 2
 exact Bf fun c _=>RE (fun _ _=>rfl) _ _
theorem FO(dec:List Cd)(p:ByteArray):CH (AK dec) p=De dec p:=by
 unfold CH De AK;rw[List.any_map];rfl
theorem Jo(before:List Sl):∀{l:List Rq} {a p:ByteArray},Ds before l (some a)=some p→p=a∨Fg p a=true
 | [],a,p,h=>by cases h;exact .inl rfl
 |q::l,a,p,h=>by
  unfold Ds at h;split at h
  ·exact Jo before h
  ·dsimp only at h;split at h
   ·rename_i hb;rcases Jo before h with e | e
    ·exact .inr (by rw[e];exact hb)
    ·exact .inr (Ev e hb)
   ·exact Jo before h
theorem Iu(before:List Sl):∀{l:List Rq} {a:ByteArray},Ds before l (some a)≠none
 | [],a=>by simp[Ds]
 |q::l,a=>by
  unfold Ds;split
  ·exact Iu before
  ·dsimp only;split<;>exact Iu before
theorem Oy{n:Nd}{p:ByteArray}(e:n.rq.path≠p)(L:List Nd):((n::L).filter fun n=>decide (n.rq.path=p))=L.filter fun n=>decide (n.rq.path=p):=by rw[DK,Ah (by simpa using e)]
theorem V4{n:Nd}{p:ByteArray}(e:n.rq.path=p)(L:List Nd):((n::L).filter fun n=>decide (n.rq.path=p))=n::L.filter fun n=>decide (n.rq.path=p):=by rw[DK,Aw (by simpa using e)]
theorem MQ(dec:List Cd):∀(L:List Nd) (a:ByteArray×List Nd),(a.2≠[]→De dec a.1=false) →
  L.foldl (Eh dec) a=match Ds (AK dec) (L.map (·.rq)) (if a.2=[]then none else some a.1)with
   |none=>a
   |some p=>(p,(if a.2≠[]∧a.1=p then a.2 else [])++L.filter fun n=>decide (n.rq.path=p))
 | [],a,h=>by
  obtain⟨p,o⟩:=a;cases o with
  |nil=>simp[Ds]
  |cons n o=>simp[Ds]
 |n::L,a,h=>by
  obtain⟨p0,o⟩:=a;rw[Fu,AN];have qU:∀(acc:Option ByteArray) (l:List Rq),(∀p,acc=some p→De dec p=false)→∀p,Ds (AK dec) l acc=some p→De dec p=false:=fun acc l ha p hp=>by
   have:=((JP (AK dec) (l:=l) (acc:=acc) (fun p e=>by rw[FO];exact ha p e)).1 p hp).1
   rw[FO]at this;exact this
  cases hd:De dec n.rq.path with
  |true =>
   have e1:Eh dec (p0,o) n=(p0,o):=by unfold Eh;rw[Aw (.inl hd)]
   have e2:Ds (AK dec) (n.rq::L.map (·.rq)) (if o=[]then none else some p0)=Ds (AK dec) (L.map (·.rq)) (if o=[]then none else some p0):=by
    conv=>lhs;unfold Ds
    rw[Aw (by rw[FO];exact hd)]
   rw[e1,e2,MQ dec L (p0,o) h];dsimp only;cases hg:Ds (AK dec) (L.map (·.rq)) (if o=[]then none else some p0)with
   |none=>rfl
   |some p =>
    dsimp only;have hp:=qU _ _ (fun q e=>by
     split at e
     ·cases e
     ·rename_i ho;cases e;exact h ho) p hg
    have DC:n.rq.path≠p:=fun e=>by rw[e,hp]at hd;cases hd
    rw[Oy DC]
  |false =>
   have Rk:CH (AK dec) n.rq.path=false:=by rw[FO];exact hd
   by_cases ho:o=[]
   ·subst ho;have e1:Eh dec (p0,[]) n=(n.rq.path,[n]):=by
     unfold Eh;rw[Ah (by simp[hd]),Ah (by simp)];rfl
    have e2:Ds (AK dec) (n.rq::L.map (·.rq)) none=Ds (AK dec) (L.map (·.rq)) (some n.rq.path):=by
     conv=>lhs;unfold Ds
     rw[Ah (by rw[Rk];decide)]
    rw[e1,MQ dec L (n.rq.path,[n]) (fun _=>hd),Aw rfl,e2];rw[Ah (by simp)];cases hg:Ds (AK dec) (L.map (·.rq)) (some n.rq.path)with
    |none=>exact absurd hg (Iu _)
    |some p =>
     dsimp only;rw[Ah (show ¬(([]:List Nd)≠[]∧p0=p)from fun h=>h.1 rfl)]
     by_cases e:n.rq.path=p
     ·rw[V4 e,Aw ⟨by simp,e⟩];rfl
     ·rw[Oy e,Ah (fun h=>e h.2)]
   ·have xJ:(if o=[]then none else some p0)=some p0:=Ah ho;rw[xJ];cases hb:Fg p0 n.rq.path with
    |true =>
     have e1:Eh dec (p0,o) n=(p0,o):=by unfold Eh;rw[Aw (.inr ⟨ho,hb⟩)]
     have Ui:Fg n.rq.path p0=false:=PD hb;have e2:Ds (AK dec) (n.rq::L.map (·.rq)) (some p0)=Ds (AK dec) (L.map (·.rq)) (some p0):=by
      conv=>lhs;unfold Ds
      rw[Ah (by rw[Rk];decide)];dsimp only;rw[Ah (by rw[Ui];decide)]
     rw[e1,e2,MQ dec L (p0,o) h];dsimp only;rw[xJ];cases hg:Ds (AK dec) (L.map (·.rq)) (some p0)with
     |none=>rfl
     |some p =>
      dsimp only;have DC:n.rq.path≠p:=fun e=>by
       rcases Jo _ hg with e3 | e3
       ·rw[e,e3,Dg]at hb;cases hb
       ·rw[e,PD e3]at hb;cases hb
      rw[Oy DC]
    |false =>
     cases Ui:Fg n.rq.path p0 with
     |true =>
      have e1:Eh dec (p0,o) n=(n.rq.path,[n]):=by
       unfold Eh;rw[Ah (by simp[hd,hb]),Aw ⟨ho,Ui⟩]
      have e2:Ds (AK dec) (n.rq::L.map (·.rq)) (some p0)=Ds (AK dec) (L.map (·.rq)) (some n.rq.path):=by
       conv=>lhs;unfold Ds
       rw[Ah (by rw[Rk];decide)];dsimp only;rw[Aw Ui]
      rw[e1,e2,MQ dec L (n.rq.path,[n]) (fun _=>hd),Ah (by simp)];cases hg:Ds (AK dec) (L.map (·.rq)) (some n.rq.path)with
      |none=>exact absurd hg (Iu _)
      |some p =>
       dsimp only;have DC:p0≠p:=fun e=>by
        rcases Jo _ hg with e3 | e3
        ·rw[e,e3,Dg]at Ui;cases Ui
        ·rw[e]at Ui;rw[PD e3]at Ui;cases Ui
       rw[Ah (show ¬(o≠[]∧p0=p)from fun h=>DC h.2)]
       by_cases e:n.rq.path=p
       ·rw[V4 e,Aw ⟨by simp,e⟩];rfl
       ·rw[Oy e,Ah (fun h=>e h.2)]
     |false =>
      have e0:n.rq.path=p0:=Hp Ui hb;have e1:Eh dec (p0,o) n=(p0,o++[n]):=by
       unfold Eh;rw[Ah (by simp[hd,hb]),Ah (by simp[Ui]),e0]
      have e2:Ds (AK dec) (n.rq::L.map (·.rq)) (some p0)=Ds (AK dec) (L.map (·.rq)) (some p0):=by
       conv=>lhs;unfold Ds
       rw[Ah (by rw[Rk];decide)];dsimp only;rw[Ah (by rw[Ui];decide)]
      rw[e1,e2,MQ dec L (p0,o++[n]) (fun _=>by rw[←e0];exact hd),Ah (by simp)];cases hg:Ds (AK dec) (L.map (·.rq)) (some p0)with
      |none=>exact absurd hg (Iu _)
      |some p =>
       dsimp only
       by_cases e:p0=p
       ·rw[V4 (e0.trans e),Aw ⟨by simp,e⟩,Aw ⟨ho,e⟩,AP];rfl
       ·rw[Oy (fun h=>e (e0.symm.trans h)),Ah (fun h=>e h.2),Ah (fun h=>e h.2)]
theorem Tw(roots:List Rq)(dec:List Cd):GA roots dec=match KC (HH roots dec) (AK dec)with
  |none=>(mt,[])
  |some p=>(p,(Dr roots dec).filter fun n=>decide (n.rq.path=p)):=by
 unfold GA KC;rw[MQ dec _ (mt,[]) (fun h=>absurd rfl h),Aw rfl,MO];cases Ds (AK dec) (HH roots dec) none with
 |none=>rfl
 |some p=>dsimp only;rw[Ah (by simp)];rfl
theorem Tx{roots:List Rq}{dec:List Cd}:(GA roots dec).2=[]↔KC (HH roots dec) (AK dec)=none:=by
 rw[Tw];cases h:KC (HH roots dec) (AK dec)with
 |none=>simp
 |some p =>
  simp only[reduceCtorEq,iff_false];obtain⟨_,q,hq,e⟩:=Ty h;rw[←MO]at hq;obtain⟨n,hn,rfl⟩:=Ak.1 hq;exact List.ne_nil_of_mem (Bo.2 ⟨hn,by simpa using e⟩)
structure oL(roots:List Rq)(dec:List Cd)(p:ByteArray)(l:List Nd):Prop where
 next:KC (HH roots dec) (AK dec)=some p
 undone:De dec p=false
 mem:∀n,n∈l↔n∈Dr roots dec∧n.rq.path=p
theorem NV{roots:List Rq}{dec:List Cd}{n0:Nd}{l:List Nd}(h:(GA roots dec).2=n0::l):oL roots dec (GA roots dec).1 (n0::l):=by
 rw[←h];rw[Tw]at *
 cases hp:KC (HH roots dec) (AK dec)with
 |none=>rw[hp]at h;cases h
 |some p =>
  dsimp only;refine⟨hp,by rw[←FO];exact(Ty hp).1,fun n=>?_⟩;rw[Bo];simp
theorem KQ{x:List Rl}{p:ByteArray}{c:Cd}:c∈Cq x p↔∃r∈x,r.path=p∧r.yanked=false∧c=⟨plc r.ver,r⟩:=by
 unfold Cq;simp only[Ak,Bo,Ag,AA,CT];constructor
 ·rintro⟨r,⟨h1,h2,h3⟩,rfl⟩;exact⟨r,h1,h2,h3,rfl⟩
 ·rintro⟨r,h1,h2,h3,rfl⟩;exact⟨r,⟨h1,h2,h3⟩,rfl⟩
theorem MV{i:Nf}:∀{l:List Nf} {k m:Nat},LJ i k l=some m→∃j,m=k+j∧l[j]?=some i
 | [],_,_,h=>by cases h
 |y::l,k,m,h=>by
  unfold LJ at h;split at h
  ·rename_i e;cases h;exact⟨0,rfl,by rw[←e];rfl⟩
  ·obtain⟨j,h1,h2⟩:=MV h;exact⟨j+1,by omega,h2⟩
theorem P0{i:Nf}:∀{l:List Nf} {k:Nat},LJ i k l=none→i∉l
 | [],_,_=>by simp
 |y::l,k,h=>by
  unfold LJ at h;split at h
  ·cases h
  ·rename_i e
   have:=P0 h
   simp only[Aq,not_or];exact⟨fun e'=>e e'.symm,this⟩
theorem QX{α:Type}{d d' : List α}{i:Int}{a:α}(h:Jp d i=some a)(hp:d <+: d'):Jp d' i=some a:=by
 unfold Jp at *
 split at h
 ·cases h
 ·rename_i hi;rw[Ah hi];obtain⟨t,rfl⟩:=hp;rw[AY (At.1 h).1];exact h
theorem XQ{x:List Rl}{roots:List Rq}{d d' : List (List Tm)}{i:Nf}{o:List Tm}(h:DU x roots d i=some o)(hp:d <+: d'):DU x roots d' i=some o:=by
 unfold DU at *
 split
 ·rename_i e;rw[Aw e]at h;exact h
 rename_i e0;rw[Ah e0]at h;split
 ·rename_i e;rw[Aw e]at h;exact h
 rename_i e1;rw[Ah e1]at h;split
 ·rename_i e;rw[Aw e]at h;exact h
 rename_i e2;rw[Ah e2]at h;split
 ·rename_i e;rw[Aw e]at h;split
  ·rename_i e4;rw[Aw e4]at h;cases ha:Jp d i.left with
   |none=>rw[ha]at h;cases h
   |some a =>
    cases hb:Jp d i.right with
    |none=>rw[ha,hb]at h;cases h
    |some b =>
     rw[ha,hb]at h;rw[QX ha hp,QX hb hp];exact h
  ·rename_i e4;rw[Ah e4]at h;cases h
 ·rename_i e;rw[Ah e]at h;cases h
structure Fl(x:List Rl)(roots:List Rq)(s:SS):Prop where
 der:Dd x roots s.infs []=some s.drv
 len:s.infs.length≤65536
theorem Fl.dlen{x:List Rl}{roots:List Rq}{s:SS}(h:Fl x roots s):s.drv.length=s.infs.length:=by simpa using IV h.der
theorem Fl.nil(x:List Rl)(roots:List Rq):Fl x roots s8:=⟨rfl,by simp⟩
theorem Fl.at{x:List Rl}{roots:List Rq}{s:SS}(h:Fl x roots s){k:Nat}{i:Nf}(hk:s.infs[k]?=some i):DU x roots s.drv i=some (s.drv.getD k []):=by
 have h1:=M8 h.der (k+1);have h0:=M8 h.der k;have DI:=(At.1 hk).1;rw[Bu,hk,GR,h0]at h1;have h1:Dd x roots [i] (s.drv.take k)=some (s.drv.take (k+1)):=h1;unfold Dd at h1;cases hi:DU x roots (s.drv.take k) i with
 |none=>rw[hi]at h1;cases h1
 |some t =>
  rw[hi]at h1;have h1:some (s.drv.take k++[t])=some (s.drv.take (k+1)):=h1;have hd:k<s.drv.length:=by rw[h.dlen];exact DI
  have:t=s.drv[k]:=by
   have h2:=BM h1;rw[Kh hd]at h2;exact List.singleton_inj.1 (List.append_cancel_left h2)
  rw[XQ hi (List.take_prefix ..),this];simp[List.getD_eq_getElem?_getD,hd]
structure Grow(s s' : SS):Prop where
 pre:s.drv <+: s'.drv
 preI:s.infs <+: s'.infs
 full:s.full=true→s'.full=true
theorem Grow.refl(s:SS):Grow s s:=⟨MZ,MZ,id⟩
theorem Grow.trans{a b c:SS}(h:Grow a b)(k:Grow b c):Grow a c:=⟨h.pre.trans k.pre,h.preI.trans k.preI,fun e=>k.full (h.full e)⟩
theorem Grow.at{s s' : SS}(h:Grow s s'){k:Nat}(hk:k<s.drv.length):DO s' k=DO s k:=by
 obtain⟨t,e⟩:=h.pre;unfold DO;rw[←e,Cj,Cj,AY hk]
theorem Grow.len{s s' : SS}(h:Grow s s'):s.drv.length≤s'.drv.length:=h.pre.length_le
theorem Ko(s:SS)(i:Nf)(l:List Tm):Grow s (Ec s i l).2:=by
 unfold Ec;split
 ·exact .refl s
 ·split
  ·exact⟨MZ,MZ,fun _=>rfl⟩
  ·exact⟨N8 ..,N8 ..,id⟩
theorem Kn{x:List Rl}{roots:List Rq}{s:SS}(h:Fl x roots s){i:Nf}{l:List Tm}(hi:DU x roots s.drv i=some l) :
  Fl x roots (Ec s i l).2∧(Ec s i l).1<(Ec s i l).2.drv.length∧((Ec s i l).2.full=false→DO (Ec s i l).2 (Ec s i l).1=l):=by
 have hdl:=h.dlen;unfold Ec;split
 ·rename_i k hk;obtain⟨j,e,hj⟩:=MV hk
  have:k=j:=by omega
  subst this;have DI:=(At.1 hj).1;refine⟨h,by show k<s.drv.length;omega,fun _=>?_⟩
  have:=h.at hj
  rw[hi]at this;exact(BM this).symm
 ·rename_i hk;split
  ·rename_i hf;exact⟨⟨h.der,h.len⟩,by show s.infs.length-1<s.drv.length;omega,fun e=>by cases e⟩
  ·rename_i hf;refine⟨⟨?_,by show(s.infs++[i]).length≤65536;rw[Ad];simp;omega⟩,by show s.infs.length<(s.drv++[l]).length;rw[Ad];simp;omega,fun _=>?_⟩
   ·show Dd x roots (s.infs++[i]) []=some (s.drv++[l]);rw[GR,h.der];show Dd x roots [i] s.drv=_;unfold Dd;rw[hi];rfl
   ·show(s.drv++[l]).getD s.infs.length []=l;rw[←hdl];simp[List.getD_eq_getElem?_getD]
theorem Ss(S:List Sl):∀{l:List (List Tm)} {i k:Nat},Oo S i l=some k→∃j,k=i+j∧∃t,l[j]?=some t∧CD t S=true
 | [],_,_,h=>by cases h
 |t::l,i,k,h=>by
  unfold Oo at h;split at h
  ·rename_i e;cases h;exact⟨0,rfl,t,rfl,e⟩
  ·obtain⟨j,h1,t',h2,h3⟩:=Ss S h;exact⟨j+1,by omega,t',h2,h3⟩
theorem Kt{d:List (List Tm)}{S:List Sl}{k:Nat}(h:Oq d S=some k):k<d.length∧CD (d.getD k []) S=true:=by
 obtain⟨j,h1,t,h2,h3⟩:=Ss S h
 have:k=j:=by omega
 subst this;refine⟨(At.1 h2).1,?_⟩;rw[Cj,h2];exact h3
end Go.Eng
