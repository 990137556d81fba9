/- Lemmas for the claims of this seat, without a condition: part 2 (P8, P9, P10, P11, P12, P13, P14, Q1, Q2). -/
import Derived.Test.YtmcbkdbfaneofaaGreatDoorFA01
import Derived.Lib.SplitLaws
import Derived.Lib.IndexBytes
namespace Go.Eng
def CT(l:Bj):Bj:=(l.map Hk).filter fun x=>decide (x.1<x.2)
theorem Ok(a b:Bj):CT (a++b)=CT a++CT b:=by unfold CT;rw[AH,Ep]
theorem UN{l:Bj}{x:Int×Int}(h:x∈CT l):0≤x.1∧x.1<x.2∧x.2≤1000000:=by
 unfold CT at h;rw[By,Al]at h;obtain⟨⟨y,_,rfl⟩,h2⟩:=h;have h2:=Bq h2;refine⟨?_,h2,?_⟩<;>simp only[Hk]<;>omega
theorem bV(l:Bj)(p:Int):(CT l).any (BL p)=has l p:=by
 rw[←Kt]
 induction l with
 |nil=>rfl
 |cons x r ih =>
  have e:CT (x::r)=(if(Hk x).1<(Hk x).2 then [Hk x]else [])++CT r:=by
   unfold CT;rw[AN,DN]
   by_cases h:(Hk x).1<(Hk x).2<;>simp[h]
  have ec:canon (x::r)=if(Hk x).1<(Hk x).2 then VI (Hk x) (canon r)else canon r:=rfl
  rw[e,Ho,ih,ec]
  by_cases h:(Hk x).1<(Hk x).2
  ·rw[Aw h,Aw h,Oa _ p (Cp r) h];simp
  ·rw[Ai h,Ai h];simp
theorem Nx:∀{l:Bj} {lo:Int},EL lo l↔(∀y∈l,lo≤y.1∧y.1<y.2∧y.2≤1000000)∧l.Pairwise fun a b=>a.2<b.1
 | [],lo=>by simp[EL]
 |y::r,lo=>by
  rw[BX];constructor
  ·intro h;have hl:=h.low;refine⟨hl,fun z hz=>?_,((Nx (l:=r)).1 h.2.2.2).2⟩
   have:=h.2.2.2.low z hz;omega
  ·intro⟨h1,h2,h3⟩;have hy:=h1 y (Ab ..);refine⟨hy.1,hy.2.1,hy.2.2,Nx.2 ⟨fun z hz=>?_,h3⟩⟩
   have:=h1 z (Af _ hz)
   have:=h2 z hz
   omega
def KM(r:Bj)(x:Int×Int):Bj:=match r with
 | []=>[x]
 |y::t=>if x.1≤y.2 then(y.1,max y.2 x.2)::t else x::y::t
def BD(s:Bj):Bj:=s.foldl KM []
theorem Gl(s:Bj)(i:Nat)(h:i<s.length):BD (s.take (i+1))=KM (BD (s.take i)) s[i]:=by
 unfold BD;rw[Bp,AA h,Ki];rfl
theorem dH(r:Bj)(x:Int×Int):(KM r x).length≤r.length+1∧r.length≤(KM r x).length∧0<(KM r x).length:=by
 unfold KM;split
 ·simp
 ·split<;>simp
theorem Tp(s:Bj):∀i,i≤s.length→(BD (s.take i)).length≤i∧(0<i→0<(BD (s.take i)).length):=by
 intro i
 induction i with
 |zero=>intro _;simp[BD]
 |succ i ih =>
  intro h;rw[Gl s i (by omega)]
  have:=dH (BD (s.take i)) s[i]
  have:=ih (by omega)
  omega
structure mN(r done:Bj):Prop where
 ok:∀y∈r,0≤y.1∧y.1<y.2∧y.2≤1000000
 pw:r.Pairwise fun a b=>b.2<a.1
 has:∀p,r.any (BL p)=done.any (BL p)
 first:∀y t,r=y::t→∃x∈done,y.1=x.1
theorem dG{r done:Bj}{x:Int×Int}(h:mN r done)(hx:0≤x.1∧x.1<x.2∧x.2≤1000000)(hs:∀y∈done,y.1≤x.1):mN (KM r x) (done++[x]):=by
 unfold KM;split
 ·refine⟨fun y hy=>?_,by simp,fun p=>?_,fun y t e=>?_⟩
  ·rw[Am.1 hy];exact hx
  ·rw[Ho,←h.has];rfl
  ·cases e;exact⟨x,by simp,rfl⟩
 ·rename_i y t;have hy:=h.ok y (Ab ..);obtain⟨yT,pw2⟩:=BX.1 h.pw;obtain⟨z,hz,e⟩:=h.first y t rfl
  have pv:=hs z hz;split
  ·rename_i Hl;refine⟨fun u hu=>?_,BX.2 ⟨yT,pw2⟩,fun p=>?_,fun u t' e'=>?_⟩
   ·rcases As.1 hu with rfl | hu
    ·exact⟨hy.1,by dsimp only;omega,by dsimp only;omega⟩
    ·exact h.ok u (Af _ hu)
   ·rw[Ho,←h.has,Cf,Cf,Cf,List.any_nil,Bool.or_false]
    have:BL p (y.1,max y.2 x.2)=(BL p y||BL p x):=by
     simp only[BL];rw[BW];simp only[Ag,CG,Ay];omega
    rw[this];cases BL p y<;>cases BL p x<;>cases t.any (BL p)<;>rfl
   ·cases e';exact⟨z,Bo _ hz,e⟩
  ·rename_i Hl;refine⟨fun u hu=>?_,BX.2 ⟨fun u hu=>?_,h.pw⟩,fun p=>?_,fun u t' e'=>?_⟩
   ·rcases As.1 hu with rfl | hu
    ·exact hx
    ·exact h.ok u hu
   ·rcases As.1 hu with rfl | hu
    ·omega
    ·have:=yT u hu;omega
   ·rw[Ho,←h.has,Cf,Cf,Cf,List.any_nil,Bool.or_false];cases BL p y<;>cases BL p x<;>cases t.any (BL p)<;>rfl
   ·cases e';exact⟨x,by simp,rfl⟩
theorem Zx{s:Bj}(Gz:∀y∈s,0≤y.1∧y.1<y.2∧y.2≤1000000)(hs:s.Pairwise fun a b=>a.1≤b.1):∀i,i≤s.length→mN (BD (s.take i)) (s.take i):=by
 intro i
 induction i with
 |zero=>intro _;exact⟨fun _ h=>by simp[BD]at h,by simp[BD],fun p=>by simp[BD],fun y t e=>by simp[BD]at e⟩
 |succ i ih =>
  intro h;have hi:i<s.length:=by omega
  rw[Gl s i hi];have e:s.take (i+1)=s.take i++[s[i]]:=by rw[Bp,AA hi];rfl
  rw[e];refine dG (ih (by omega)) (Gz _ (Ap hi)) fun y hy=>?_;obtain⟨j,hj,rfl⟩:=CQ.1 hy;rw[Kj];rw[AJ]at hj;exact(A7.1 hs) j i (by omega) hi (by omega)
theorem Rg{l s:Bj}(hp:s.Perm (CT l))(hs:s.Pairwise fun a b=>a.1≤b.1):(BD s).reverse=canon l:=by
 have hi:=Zx (s:=s) (fun y hy=>UN (hp.mem_iff.1 hy)) hs s.length (Ak _);rw[Dv]at hi;have hc:EH (BD s).reverse:=by
  unfold EH;rw[Nx];refine⟨fun y hy=>hi.ok y (List.mem_reverse.1 hy),?_⟩;rw[List.pairwise_reverse];exact hi.pw
 refine Sh hc fun p=>?_;rw[Hy hc,List.any_reverse,hi.has,←bV];rw[BW,Bc,Bc];constructor
 ·rintro⟨y,h1,h2⟩;exact⟨y,hp.mem_iff.1 h1,h2⟩
 ·rintro⟨y,h1,h2⟩;exact⟨y,hp.mem_iff.2 h1,h2⟩
-- maps from numbers to numbers,as lists in the order in which they are met
def Fk(m:List (Int×Int))(k:Int):Int:=match m.find? (fun p=>decide (p.1=k))with | some p=>p.2 | none=>0
def Ll(m:List (Int×Int))(k v:Int):List (Int×Int):=if m.any (fun p=>decide (p.1=k))then m.map (fun p=>if p.1=k then(k,v)else p)else m++[(k,v)]
theorem Hh(p:Int×Int)(m:List (Int×Int))(k:Int):Fk (p::m) k=if p.1=k then p.2 else Fk m k:=by
 unfold Fk;rw[Fx];by_cases h:p.1=k<;>simp[h]
theorem Pn(m:List (Int×Int))(k v j:Int):Fk (Ll m k v) j=if j=k then v else Fk m j:=by
 unfold Ll;split
 ·rename_i h
  induction m with
  |nil=>simp at h
  |cons p m ih =>
   rw[AN,Hh,Hh]
   by_cases e:p.1=k
   ·rw[Aw e];dsimp only
    by_cases ej:j=k
    ·subst ej;simp
    ·rw[Ai (fun c=>ej c.symm),Ai ej,Ai (fun c=>ej (c.symm.trans e))]
     by_cases hm:(m.any fun p=>decide (p.1=k))=true
     ·rw[ih hm,Ai ej]
     ·have:∀q∈m,q.1≠k:=fun q hq e=>hm (Bc.2 ⟨q,hq,by simp[e]⟩)
      have:m.map (fun p=>if p.1=k then(k,v)else p)=m:=by
       conv=>rhs;rw[←JF m]
       exact Bf fun q hq=>by simp[this q hq]
      rw[this]
   ·rw[Ai e];have hm:(m.any fun p=>decide (p.1=k))=true:=by simpa[e]using h
    rw[ih hm]
    by_cases ej:j=k
    ·subst ej;simp[e]
    ·simp[ej]
 ·rename_i h;have hn:∀q∈m,q.1≠k:=fun q hq e=>h (Bc.2 ⟨q,hq,by simp[e]⟩)
  induction m with
  |nil =>
   rw[Ei,Hh]
   by_cases ej:j=k
   ·simp[ej]
   ·have:¬k=j:=fun c=>ej c.symm
    simp[ej,this]
  |cons p m ih =>
   rw[ID,Hh,Hh];have e:=hn p (Ab ..);have ih:=ih (by simpa[e]using h) fun q hq=>hn q (Af _ hq)
   by_cases ep:p.1=j
   ·have:¬j=k:=fun c=>e (ep.trans c)
    simp[ep,this]
   ·simp only[ep,Fg];exact ih
def E3(m:List (Int×Int)):List Int:=m.map (·.1)
theorem U8(m:List (Int×Int))(k v:Int):E3 (Ll m k v)=if k∈E3 m then E3 m else E3 m++[k]:=by
 unfold Ll E3;have e:(m.any fun p=>decide (p.1=k))=decide (k∈m.map (·.1)):=by
  rw[BW];simp only[Bc,Ay,Al]
 rw[e]
 by_cases h:k∈m.map (·.1)
 ·simp only[h,decide_true,Kz,BN];apply Bf;intro p _;simp only[Function.comp];split
  ·rename_i e;exact e.symm
  ·rfl
 ·simp[h]
theorem Mb{m:List (Int×Int)}(h:(E3 m).Nodup)(k v:Int):(E3 (Ll m k v)).Nodup:=by
 rw[U8];split
 ·exact h
 ·rename_i hn;rw[Gc];exact⟨h,by simp,fun a ha b hb e=>by subst e;rw[Am.1 hb]at ha;exact hn ha⟩
theorem H4(m:List (Int×Int))(k v j:Int):j∈E3 (Ll m k v)↔j=k∨j∈E3 m:=by
 rw[U8];split
 ·rename_i h;constructor
  ·exact .inr
  ·rintro(rfl | h')
   ·exact h
   ·exact h'
 ·simp[or_comm]
theorem jn{m:List (Int×Int)}(h:(E3 m).Nodup){p:Int×Int}(hp:p∈m):Fk m p.1=p.2:=by
 induction m with
 |nil=>cases hp
 |cons q m ih =>
  rw[Hh];unfold E3 at h ih;rw[AN,CA]at h;rcases As.1 hp with rfl | hp
  ·simp
  ·have:¬q.1=p.1:=fun e=>h.1 (e▸Al.2 ⟨p,hp,rfl⟩)
   rw[Ai this];exact ih h.2 hp
theorem jo{m:List (Int×Int)}{k:Int}(h:k∉E3 m):Fk m k=0:=by
 unfold Fk
 have:m.find? (fun p=>decide (p.1=k))=none:=by
  rw[DB];intro p hp;simp only[Ay];exact fun e=>h (Al.2 ⟨p,hp,e⟩)
 rw[this]
-- counting
def cF(S:Bj)(k:Int):Nat:=S.countP fun x=>decide (x.1=k)
def cT(S:Bj)(k:Int):Nat:=S.countP fun x=>decide (x.2=k)
def lF(S:Bj)(k:Int):Nat:=S.countP fun x=>decide (x.1≤k)
def lT(S:Bj)(k:Int):Nat:=S.countP fun x=>decide (x.2≤k)
theorem IV{α:Type}{p q r:α→Bool}:∀{l:List α},(∀x∈l,(p x=true↔q x=true∨r x=true)∧¬(q x=true∧r x=true))→l.countP p=l.countP q+l.countP r
 | [],_=>rfl
 |x::l,h=>by
  have ih:=IV fun y hy=>h y (Af _ hy);obtain⟨h1,h2⟩:=h x (Ab ..);rw[IE,IE,IE,ih];cases hp:p x<;>cases hq:q x<;>cases hr:r x<;>simp_all<;>omega
structure Il(m:List (Int×Int))(S:Bj):Prop where
 nd:(E3 m).Nodup
 val:∀k,Fk m k=(cF S k:Int)-cT S k
 keys:0∈E3 m∧1000000∈E3 m∧∀x∈S,x.1∈E3 m∧x.2∈E3 m
 rng:∀k∈E3 m,0≤k∧k≤1000000
def qe:List (Int×Int):=[(0,0),(1000000,0)]
theorem jY:Il qe []:=⟨by decide,fun k=>by
  unfold qe;rw[Hh,Hh];simp[Fk,cF,cT],⟨by decide,by decide,fun _ h=>by cases h⟩,fun k hk=>by
  unfold qe E3 at hk;simp at hk;omega⟩
def Yq(m:List (Int×Int))(x:Int×Int):List (Int×Int):=Ll (Ll m x.1 (Fk m x.1+1)) x.2 (Fk (Ll m x.1 (Fk m x.1+1)) x.2-1)
theorem dF{m:List (Int×Int)}{S:Bj}{x:Int×Int}(h:Il m S)(hx:0≤x.1∧x.1<x.2∧x.2≤1000000):Il (Yq m x) (S++[x]):=by
 unfold Yq;refine⟨Mb (Mb h.nd _ _) _ _,fun k=>?_,⟨?_,?_,fun y hy=>?_⟩,fun k hk=>?_⟩
 ·rw[Pn,Pn,Pn,h.val,h.val,h.val];unfold cF cT;simp only[List.countP_append,List.countP_singleton,Ay]
  by_cases e1:k=x.2
  ·subst e1
   have:¬x.2=x.1:=by omega
   have:¬x.1=x.2:=by omega
   simp[*];omega
  ·by_cases e2:k=x.1
   ·subst e2
    have:¬x.2=x.1:=by omega
    have:¬x.1=x.2:=by omega
    simp[*];omega
   ·have a1:¬x.1=k:=fun c=>e2 c.symm;have a2:¬x.2=k:=fun c=>e1 c.symm;simp[e1,e2,a1,a2]
 ·rw[H4,H4];exact .inr (.inr h.keys.1)
 ·rw[H4,H4];exact .inr (.inr h.keys.2.1)
 ·simp only[H4];rcases A8.1 hy with hy | hy
  ·have:=h.keys.2.2 y hy
   exact⟨.inr (.inr this.1),.inr (.inr this.2)⟩
  ·rw[Am.1 hy];exact⟨.inr (.inl rfl),.inl rfl⟩
 ·rw[H4,H4]at hk;rcases hk with rfl | rfl | hk
  ·omega
  ·omega
  ·exact h.rng k hk
def Iz(m:List (Int×Int))(B:List Int):Int:=(B.map (Fk m)).foldl (·+·) 0
theorem Ql(m:List (Int×Int))(B:List Int)(i:Nat)(h:i<B.length):Iz m (B.take (i+1))=Iz m (B.take i)+Fk m B[i]:=by
 unfold Iz;rw[Bp,AA h,AH,Ki];simp only[Option.toList_some,AN,E5,Fy,List.foldl_nil]
structure jG(B:List Int)(m:List (Int×Int)):Prop where
 perm:B.Perm (E3 m)
 srt:B.Pairwise fun a b=>a<b
theorem bp{m:List (Int×Int)}{S:Bj}{B:List Int}(h:Il m S)(hB:jG B m):∀i (hi:i<B.length),Iz m (B.take (i+1))=(lF S B[i]:Int)-lT S B[i]:=by
 have mem:∀k,k∈E3 m→∃j,∃hj:j<B.length,B[j]=k:=fun k hk=>by
  have:=hB.perm.mem_iff.2 hk
  obtain⟨j,hj,e⟩:=CQ.1 this;exact⟨j,hj,e⟩
 have lt:∀i j (hi:i<B.length) (hj:j<B.length),i<j→B[i]<B[j]:=fun i j hi hj QL=>(A7.1 hB.srt) i j hi hj QL;intro i
 induction i with
 |zero =>
  intro hi;rw[Ql m B 0 hi,h.val]
  have:Iz m (B.take 0)=0:=by simp[Iz]
  rw[this];have low:∀k∈E3 m,B[0]≤k:=fun k hk=>by
   obtain⟨j,hj,rfl⟩:=mem k hk;cases j with
   |zero=>exact AY _
   |succ j=>have:=lt 0 (j+1) hi hj (by omega);omega
  have e1:lF S B[0]=cF S B[0]:=by
   unfold lF cF;apply Qt;intro x hx
   have:=low _ (h.keys.2.2 x hx).1
   simp only[Ay];omega
  have e2:lT S B[0]=cT S B[0]:=by
   unfold lT cT;apply Qt;intro x hx
   have:=low _ (h.keys.2.2 x hx).2
   simp only[Ay];omega
  rw[e1,e2];omega
 |succ i ih =>
  intro hi;rw[Ql m B (i+1) hi,ih (by omega),h.val];have nb:∀k∈E3 m,k≤B[i+1]↔k≤B[i]∨k=B[i+1]:=fun k hk=>by
   obtain⟨j,hj,rfl⟩:=mem k hk;have l0:=lt i (i+1) (by omega) hi (by omega);rcases Nat.lt_trichotomy j (i+1)with c | c | c
   ·have:B[j]≤B[i]:=by
     rcases EI j i with d | d
     ·have:=lt j i hj (by omega) d;omega
     ·have:j=i:=by omega
      subst this;exact AY _
    omega
   ·subst c;omega
   ·have:=lt (i+1) j hi hj c;omega
  have l0:=lt i (i+1) (by omega) hi (by omega);have e1:lF S B[i+1]=lF S B[i]+cF S B[i+1]:=by
   unfold lF cF;apply IV;intro x hx
   have:=nb _ (h.keys.2.2 x hx).1
   simp only[Ay];omega
  have e2:lT S B[i+1]=lT S B[i]+cT S B[i+1]:=by
   unfold lT cT;apply IV;intro x hx
   have:=nb _ (h.keys.2.2 x hx).2
   simp only[Ay];omega
  rw[e1,e2];omega
theorem Xb{S:Bj}(hS:∀x∈S,x.1<x.2)(p:Int):(lF S p:Int)-lT S p=(S.countP (BL p):Nat):=by
 have:lF S p=S.countP (BL p)+lT S p:=by
  unfold lF lT;apply IV;intro x hx
  have:=hS x hx
  simp only[BL,Ag,Ay];omega
 omega
theorem Ol:∀{l:Bj} {lo:Int} (p:Int),EL lo l→l.countP (BL p)=if l.any (BL p)then 1 else 0
 | [],_,_,_=>rfl
 |y::r,lo,p,⟨h1,h2,h3,h4⟩=>by
  rw[IE,Ol p h4,Cf];cases hy:BL p y with
  |false=>rw[LK];simp
  |true =>
   have:=DQ.1 hy
   have:r.any (BL p)=false:=by
    rw[AK];intro hr;have:=Mu h4 hr;omega
   simp[this]
theorem LW:∀(l:List Bj) (p:Int),((l.map canon).flatten).countP (BL p)=dO l p
 | [],_=>rfl
 |s::l,p=>by
  rw[AN,BA,List.countP_append,LW l p,Ol p (Cp s),Kt];unfold dO;rw[IE];omega
def Ey(keep:Nat→Bool)(m:List (Int×Int))(B:List Int):Nat→Bj
 |0=>[]
 |i+1=>Ey keep m B i++(match B[i]?,B[i+1]? with
  |some a,some b=>if keep (Iz m (B.take (i+1))).toNat then [(a,b)]else []
  |_,_=>[])
theorem PN{keep:Nat→Bool}{m:List (Int×Int)}{B:List Int}{x:Int×Int}:∀{n:Nat},x∈Ey keep m B n↔∃i,i<n∧∃(h1:i<B.length) (h2:i+1<B.length),keep (Iz m (B.take (i+1))).toNat=true∧x=(B[i],B[i+1])
 |0=>by simp[Ey]
 |n+1=>by
  unfold Ey;rw[A8,PN (n:=n)];constructor
  ·rintro(⟨i,h1,h2⟩ | h)
   ·exact⟨i,by omega,h2⟩
   ·split at h
    ·rename_i a b ha hb;obtain⟨h1,e1⟩:=At.1 ha;obtain⟨h2,e2⟩:=At.1 hb;split at h
     ·rename_i hk;refine⟨n,by omega,h1,h2,hk,?_⟩;rw[Am.1 h,e1,e2]
     ·cases h
    ·cases h
  ·rintro⟨i,h1,h2,h3,h4,rfl⟩
   by_cases e:i=n
   ·subst e;refine .inr ?_;rw[AA h2,AA h3];simp[h4]
   ·exact .inl ⟨i,by omega,h2,h3,h4,rfl⟩
theorem Of{B:List Int}(hs:B.Pairwise fun a b=>a<b){p:Int}:∀(n:Nat) (h0:0<B.length) (hn:n<B.length),B[0]≤p→p<B[n]→∃i,∃(h1:i<B.length) (h2:i+1<B.length),B[i]≤p∧p<B[i+1]
 |0,h0,hn,h1,h2=>by omega
 |n+1,h0,hn,h1,h2=>by
  by_cases e:B[n]≤p
  ·exact⟨n,by omega,hn,e,h2⟩
  ·exact Of hs n h0 (by omega) h1 (by omega)
theorem gD{keep:Nat→Bool}{l:List Bj}{m:List (Int×Int)}{B:List Int}(h:Il m (l.map canon).flatten)(hB:jG B m)(p:Int):has (Ey keep m B (B.length-1)) p=(LG p&&keep (dO l p)):=by
 have hS:∀x∈(l.map canon).flatten,x.1<x.2:=fun x hx=>by
  obtain⟨s,hs,hx⟩:=Eu.1 hx;obtain⟨t,_,rfl⟩:=Al.1 hs;exact((Cp t).low x hx).2.1
 have mem:∀k,k∈E3 m→∃j,∃hj:j<B.length,B[j]=k:=fun k hk=>by
  obtain⟨j,hj,e⟩:=CQ.1 (hB.perm.mem_iff.2 hk);exact⟨j,hj,e⟩
 have lt:∀i j (hi:i<B.length) (hj:j<B.length),i<j→B[i]<B[j]:=fun i j hi hj QL=>(A7.1 hB.srt) i j hi hj QL;have rng:∀i (hi:i<B.length),0≤B[i]∧B[i]≤1000000:=fun i hi=>h.rng _ (hB.perm.mem_iff.1 (Ap hi))
 -- VO two bounds
 have VO:∀i (h1:i<B.length) (h2:i+1<B.length),B[i]≤p→p<B[i+1]→(Iz m (B.take (i+1))).toNat=dO l p:=fun i h1 h2 a b=>by
  have same:∀k∈E3 m,k≤B[i]↔k≤p:=fun k hk=>by
   obtain⟨j,hj,rfl⟩:=mem k hk;constructor
   ·intro c;omega
   ·intro c;rcases EI i j with d | d
    ·rcases EI (i+1) j with f | f
     ·have:=lt (i+1) j h2 hj f;omega
     ·have:j=i+1:=by omega
      subst this;omega
    ·rcases EI j i with f | f
     ·have:=lt j i hj h1 f;omega
     ·have:j=i:=by omega
      subst this;exact AY _
  have e1:lF (l.map canon).flatten B[i]=lF (l.map canon).flatten p:=by
   unfold lF;apply Qt;intro x hx
   have:=same _ (h.keys.2.2 x hx).1
   simp only[Ay];exact this
  have e2:lT (l.map canon).flatten B[i]=lT (l.map canon).flatten p:=by
   unfold lT;apply Qt;intro x hx
   have:=same _ (h.keys.2.2 x hx).2
   simp only[Ay];exact this
  rw[bp h hB i h1,e1,e2,Xb hS,LW];simp
 rw[BW];constructor
 ·intro hh;have jt:=L7 hh;unfold has at hh;simp only[jt,decide_true,EF]at hh;obtain⟨x,hx,hp⟩:=Bc.1 hh;obtain⟨i,_,h1,h2,hk,rfl⟩:=PN.1 hx
  have:=DQ.1 hp
  dsimp only at this;rw[←VO i h1 h2 this.1 this.2];simp[LG,jt,hk]
 ·intro hh;simp only[Ag,LG,Ay]at hh;obtain⟨⟨p0,p1⟩,hk⟩:=hh;obtain⟨j0,hj0,e0⟩:=mem 0 h.keys.1;obtain⟨j1,hj1,e1⟩:=mem 1000000 h.keys.2.1;have uQ:B[0]'(by omega)≤p:=by
   have:B[0]'(by omega)≤0:=by
    cases j0 with
    |zero=>omega
    |succ j=>have:=lt 0 (j+1) (by omega) hj0 (by omega);omega
   omega
  obtain⟨i,h1,h2,a,b⟩:=Of hB.srt j1 (by omega) hj1 uQ (by omega);unfold has;simp only[p0,p1,decide_true,EF];exact Bc.2 ⟨(B[i],B[i+1]),PN.2 ⟨i,by omega,h1,h2,by rw[VO i h1 h2 a b];exact hk,rfl⟩,DQ.2 ⟨a,b⟩⟩
theorem iY{l:List Bj}{m:List (Int×Int)}{B:List Int}(h:Il m (l.map canon).flatten)(hB:jG B m)(i:Nat)(hi:i<B.length):0≤Iz m (B.take (i+1))∧Iz m (B.take (i+1))≤l.length:=by
 have hS:∀x∈(l.map canon).flatten,x.1<x.2:=fun x hx=>by
  obtain⟨s,hs,hx⟩:=Eu.1 hx;obtain⟨t,_,rfl⟩:=Al.1 hs;exact((Cp t).low x hx).2.1
 rw[bp h hB i hi,Xb hS,LW]
 have:dO l B[i]≤l.length:=List.countP_le_length
 omega
def Wt(m:List Tm)(t:Tm):List Tm:=if m.any (fun u=>decide (u.path=t.path))then m.map (fun u=>if u.path=t.path then t else u)else m++[t]
def Rc(m:List Tm)(t:Tm):List Tm:=Wt m (NU (Dm m t.path) t)
def CZ(l:List Tm):List Tm:=l.foldl Rc []
theorem cg(t:Tm)(p:ByteArray):∀m:List Tm,Dm (Wt m t) p=if t.path=p then some t else Dm m p:=by
 intro m;unfold Wt
 by_cases h:(m.any fun u=>decide (u.path=t.path))=true
 ·rw[Aw h]
  induction m with
  |nil=>simp at h
  |cons u m ih =>
   rw[AN,CN,CN]
   by_cases e:u.path=t.path
   ·rw[Aw e]
    by_cases ep:t.path=p
    ·simp[ep]
    ·rw[Ai ep,Ai ep,Ai (fun c=>ep (e.symm.trans c))]
     by_cases hm:(m.any fun u=>decide (u.path=t.path))=true
     ·rw[ih hm,Ai ep]
     ·have:∀q∈m,q.path≠t.path:=fun q hq c=>hm (Bc.2 ⟨q,hq,by simp[c]⟩)
      have:m.map (fun u=>if u.path=t.path then t else u)=m:=by
       conv=>rhs;rw[←JF m]
       exact Bf fun q hq=>by simp[this q hq]
      rw[this]
   ·rw[Ai e];have hm:(m.any fun u=>decide (u.path=t.path))=true:=by simpa[e]using h
    rw[ih hm]
    by_cases ep:t.path=p
    ·subst ep;simp[e]
    ·simp[ep]
 ·rw[Ai h];have hn:∀q∈m,q.path≠t.path:=fun q hq e=>h (Bc.2 ⟨q,hq,by simp[e]⟩)
  clear h
  induction m with
  |nil=>rw[Ei,CN]
  |cons u m ih =>
   rw[ID,CN,CN,ih fun q hq=>hn q (Af _ hq)]
   have:=hn u (Ab ..)
   by_cases e:u.path=p
   ·have:¬t.path=p:=fun c=>this (e.trans c.symm)
    simp[e,this]
   ·simp[e]
def Ez(m:List Tm):List ByteArray:=m.map (·.path)
open Classical in
theorem ZI(m:List Tm)(t:Tm):Ez (Wt m t)=if t.path∈Ez m then Ez m else Ez m++[t.path]:=by
 unfold Wt Ez;have e:(m.any fun u=>decide (u.path=t.path))=true↔t.path∈m.map (·.path):=by
  simp only[Bc,Ay,Al]
 by_cases h:t.path∈m.map (·.path)
 ·rw[Aw (e.2 h),Aw h,BN];apply Bf;intro p _;simp only[Function.comp];split
  ·rename_i e;exact e.symm
  ·rfl
 ·rw[Ai (fun c=>h (e.1 c)),Ai h,AH];rfl
theorem cZ{m:List Tm}(h:(Ez m).Nodup)(t:Tm):(Ez (Wt m t)).Nodup:=by
 rw[ZI];split
 ·exact h
 ·rename_i hn;rw[Gc];exact⟨h,by simp,fun a ha b hb e=>by subst e;rw[Am.1 hb]at ha;exact hn ha⟩
theorem QV(l:List Tm)(i:Nat)(h:i<l.length):CZ (l.take (i+1))=Rc (CZ (l.take i)) l[i]:=by
 unfold CZ;rw[Bp,AA h,Ki];rfl
theorem OB:∀(l m:List Tm),(Ez m).Nodup→(Ez (l.foldl Rc m)).Nodup
 | [],_,h=>h
 |_::l,_,h=>OB l _ (cZ h _)
theorem HD(l:List Tm):(Ez (CZ l)).Nodup:=OB l [] .nil
theorem Xp(m:List Tm)(t:Tm)(p:ByteArray):Dm (Rc m t) p=JW p (Dm m p) t:=by
 unfold Rc JW;have hp:(NU (Dm m t.path) t).path=t.path:=PX _ _ fun u h=>G0 h;rw[cg,hp]
 by_cases e:t.path=p
 ·rw[Aw e,Aw e,e]
 ·rw[Ai e,Ai e]
theorem Oy(p:ByteArray):∀(l m:List Tm),Dm (l.foldl Rc m) p=l.foldl (JW p) (Dm m p)
 | [],_=>rfl
 |t::l,m=>by rw[Fy,Fy,Oy p l,Xp]
theorem Y4(l:List Tm)(p:ByteArray):Dm (CZ l) p=Dm (EY l) p:=by
 unfold CZ;rw[Oy,IY];rfl
theorem L1{m:List Tm}(h:(Ez m).Nodup){t:Tm}:t∈m↔Dm m t.path=some t:=by
 constructor
 ·induction m with
  |nil=>intro h;cases h
  |cons u m ih =>
   intro ht;unfold Ez at h ih;rw[AN,CA]at h;rw[CN];rcases As.1 ht with rfl | ht
   ·rw[Aw rfl]
   ·have:¬u.path=t.path:=fun e=>h.1 (e▸Al.2 ⟨t,ht,rfl⟩)
    rw[Ai this];exact ih h.2 ht
 ·exact E9
theorem HF{m:List Tm}(h:(Ez m).Nodup):m.Nodup:=by
 unfold Ez at h
 induction m with
 |nil=>exact .nil
 |cons u m ih =>
  rw[AN,CA]at h;exact CA.2 ⟨fun hu=>h.1 (Al.2 ⟨u,hu,rfl⟩),ih h.2⟩
theorem HN{l:List Tm}{lo:Option ByteArray}(h:Ce lo l):(Ez l).Nodup:=by
 unfold Ez
 induction l generalizing lo with
 |nil=>exact .nil
 |cons t l ih =>
  rw[AN,CA];refine⟨fun hm=>?_,ih h.2.2⟩;obtain⟨u,hu,e⟩:=Al.1 hm
  have:=h.2.2.low u hu
  rw[e,Di]at this;cases this
theorem I5(l:List Tm)(t:Tm):t∈CZ l↔t∈EY l:=by
 rw[L1 (HD l),Y4,←L1 (HN (Es l))]
theorem OU(l:List Tm):∀t∈CZ l,EH t.set:=fun t ht=>(Es l).canon t ((I5 l t).1 ht)
theorem dI(m:List Tm)(t:Tm):(Rc m t).length≤m.length+1:=by
 unfold Rc Wt;split<;>simp
theorem NN(l:List Tm):∀i,i≤l.length→(CZ (l.take i)).length≤i:=by
 intro i
 induction i with
 |zero=>intro _;simp[CZ]
 |succ i ih =>
  intro h;rw[QV l i (by omega)]
  have:=dI (CZ (l.take i)) l[i]
  have:=ih (by omega)
  omega
theorem ZW{s:List Tm}(hs:s.Pairwise fun x y=>Fl x.path y.path=true)(hc:∀t∈s,EH t.set):Ce none s:=by
 have:∀(s:List Tm) (lo:Option ByteArray),s.Pairwise (fun x y=>Fl x.path y.path=true)→(∀t∈s,EH t.set)→(∀p,lo=some p→∀t∈s,Fl p t.path=true)→Ce lo s:=by
  intro s
  induction s with
  |nil=>intro _ _ _ _;trivial
  |cons t s ih =>
   intro lo hs hc hl;obtain⟨h1,h2⟩:=BX.1 hs;exact⟨fun p e=>hl p e t (Ab ..),hc t (Ab ..),ih _ h2 (fun u hu=>hc u (Af _ hu)) fun p e u hu=>by cases e;exact h1 u hu⟩
 exact this s none hs hc fun _ e=>by cases e
theorem PD{l s:List Tm}(q:Tm→Bool)(hp:s.Perm ((CZ l).filter q))(hs:s.Pairwise fun x y=>Fl y.path x.path=false):s=(EY l).filter q:=by
 have hm:∀t,t∈s↔t∈(EY l).filter q:=fun t=>by
  rw[hp.mem_iff,By,By,I5]
 have Rk:(Ez s).Nodup:=by
  have h1:(Ez ((CZ l).filter q)).Nodup:=by
   unfold Ez;exact List.Nodup.sublist (List.Sublist.map _ List.filter_sublist) (HD l)
  unfold Ez at h1⊢;exact(hp.map (·.path)).nodup_iff.2 h1
 have Jh:s.Pairwise fun x y=>Fl x.path y.path=true:=by
  rw[A7]at hs⊢;intro i j hi hj QL;cases hb:Fl s[i].path s[j].path with
  |true=>rfl
  |false =>
   have e:=Hs hb (hs i j hi hj QL);unfold Ez at Rk
   have:=(A7.1 Rk) i j (by simpa using hi) (by simpa using hj) QL
   simp at this;exact absurd e this
 have yy:Ce none s:=ZW Jh fun t ht=>(Es l).canon t (By.1 ((hm t).1 ht)).1;have jx:Ce none ((EY l).filter q):=Ce.filter q (Es l);refine Mr yy jx fun p=>?_;cases h1:Dm s p with
 |some t =>
  have:=(hm t).1 (E9 h1)
  rw[FG jx,G0 h1]at this;exact this.symm
 |none =>
  cases h2:Dm ((EY l).filter q) p with
  |none=>rfl
  |some t =>
   have:=(hm t).2 (E9 h2)
   rw[FG yy,G0 h2,h1]at this;cases this
theorem YO(t:Tm):GR t t=Lt t:=by unfold GR Lt;rw[Zm,Bool.and_self]
theorem bh(o:Option Tm)(t:Tm):NU o t=GR (o.getD t) t:=by cases o with | none=>exact(YO t).symm | some u=>rfl
theorem bJ{t:Tm}(h:EH t.set):(t.absent&&(Eg t.set).isEmpty)=Gu t:=by
 unfold Gu
 congr 1
 rw[BW,GO,Ay];have ha:EH [(0,1000000)]:=⟨AY _,by dsimp only;omega,AY _,trivial⟩;constructor
 ·intro e;refine Ht h ha fun p=>?_
  have:=FH t.set p
  rw[e]at this;have h0:has [] p=false:=by simp[has]
  rw[h0]at this;have h1:has [(0,1000000)] p=LG p:=by simp[has,LG,BL]
  rw[h1];cases hp:LG p with
  |true=>rw[hp]at this;simpa using this.symm
  |false =>
   rw[AK];intro hh
   have:=L7 hh
   simp[LG,this]at hp
 ·intro e;rw[PS (G8 _)];intro p;rw[FH,e];have h1:has [(0,1000000)] p=LG p:=by simp[has,LG,BL]
  rw[h1];simp
theorem gV{t:Tm}(h:EH t.set):(!t.absent&&(canon t.set).isEmpty)=HE t:=by unfold HE;rw[Jb h]
end Go.Eng
namespace Go.Eng
open Go.Lib
theorem Qi(c:UInt8):∀(s:List UInt8) (k:Nat),s.count c≤k→splitK [c] 0 k s=Fp c s
 | [],k,_=>by
  cases k with
  |zero=>rfl
  |succ k=>rfl
 |b::r,k,h=>by
  rw[Fp]
  by_cases e:b=c
  ·subst e;rw[List.count_cons_self]at h;obtain⟨k',rfl⟩:∃k',k=k'+1:=⟨k-1,by omega⟩;rw[Aw rfl,splitK,index_one,indexByte];simp only[beq_self_eq_true,Kz];rw[Ai (by decide)];show []::splitK [b] 0 k' r=_;rw[Qi b r k' (by omega)]
  ·have DE:(b == c)=false:=by simpa using e
   rw[List.count_cons_of_ne (by simpa using e)]at h;have ih:=Qi c r k h;rw[Ai e];cases k with
   |zero =>
    rw[←ih];rfl
   |succ k =>
    rw[←ih,splitK,splitK,index_one,index_one,indexByte,DE]
    by_cases h0:indexByte r c=-1
    ·rw[h0];rfl
    ·have h1:(indexByte r c == -1)=false:=by simpa using h0
     have h2:=indexByte_ge r c;have h3:(indexByte r c+1 == -1)=false:=by rw[beq_eq_false_iff_ne];omega
     simp only[Cy,Fg,h1,h3];obtain⟨i,hi⟩:∃i:Nat,indexByte r c=i:=⟨(indexByte r c).toNat,by omega⟩;rw[hi];show(b::r).take (((i:Int)+1).toNat+0)::_=(b::r.take ((i:Int).toNat+0))::_;rw[show((i:Int)+1).toNat=i+1 by omega,show((i:Nat):Int).toNat=i by omega]
     rfl
theorem Xa(c:UInt8):∀(n:Nat) (s:List UInt8),s.length≤n→count s [c]=s.count c
 |n,s,hn=>by
  rcases Int.lt_or_le (indexByte s c) 0 with h | h
  ·have h2:=indexByte_ge s c;have h3:indexByte s c=-1:=by omega
   rw[count_miss (by rw[index_one];exact h3)]
   symm
   rw[List.count_eq_zero];intro hm;obtain⟨k,hk,e⟩:=FE hm;exact indexByte_none h3 k (by rw[AA hk,e])
  ·obtain⟨i,hi⟩:∃i:Nat,indexByte s c=i:=⟨(indexByte s c).toNat,by omega⟩;obtain⟨h1,h2⟩:=indexByte_some hi;obtain⟨hl,hg⟩:=At.1 h1;cases n with
   |zero=>omega
   |succ n =>
    have hc:=count_hit (s:=s) (sub:=[c]) (i:=i) (by simp) (by rw[index_one];exact hi);rw[hc];have ih:=Xa c n (s.drop (i+1)) (by rw[Ar];omega);have rp:s=s.take i++c::s.drop (i+1):=by
     rw[←hg,←Bv hl,Lq]
    have h0:(s.take i).count c=0:=by
     rw[List.count_eq_zero];intro hm;obtain⟨k,hk,e⟩:=FE hm;rw[AJ]at hk;rw[Kj]at e;exact h2 k (by omega) (by rw[AA (by omega),e])
    conv=>rhs;rw[rp]
    rw[List.count_append,h0,List.count_cons_self];show 1+count (s.drop (i+1)) [c]=_;rw[ih];omega
theorem dE(s:ByteArray)(c:UInt8):((splitB ⟨#[c]⟩ 0 (countB s ⟨#[c]⟩) s).map (·.data.toList))=Fp c s.data.toList:=by
 rw[splitB_data];refine Qi c _ _ ?_;show _≤count s.data.toList [c];rw[Xa c _ _ (Ak _)];exact Ak _
end Go.Eng
namespace Go.Eng
theorem PT{α:Type}:∀{l m:List α},l.Nodup→(∀x∈l,x∈m)→l.length≤m.length
 | [],_,_,_=>AL _
 |a::l,m,hn,hs=>by
  obtain⟨h1,h2⟩:=CA.1 hn;obtain⟨s,t,rfl⟩:=List.append_of_mem (hs a (Ab ..))
  have:l.length≤(s++t).length:=PT h2 fun x hx=>by
   rcases A8.1 (hs x (Af _ hx))with h | h
   ·exact Bo _ h
   ·rcases As.1 h with rfl | h
    ·exact absurd hx h1
    ·exact Bk _ h
  simp only[Ad,Au]at this⊢;omega
theorem Lv(p:ByteArray):∀(l:List Tm) (o:Option Tm),(∀u∈l,u.path≠p)→l.foldl (JW p) o=o
 | [],_,_=>rfl
 |t::l,o,h=>by
  rw[Fy,show JW p o t=o by unfold JW;rw[Ai (h t (Ab ..))]];exact Lv p l o fun u hu=>h u (Af _ hu)
theorem Zz{l:List Tm}{t:Tm}(h:t∈EY l):∃u∈l,u.path=t.path:=by
 apply Bn;intro hn
 have:∀u∈l,u.path≠t.path:=fun u hu e=>hn ⟨u,hu,e⟩
 have h1:=(FG (Es l)).1 h;rw[IY,Lv _ _ _ this]at h1;cases h1
def Uu(U:List ByteArray)(t:List Tm):Prop:=Ce none t∧∀u∈t,u.path∈U
theorem Uu.len{U:List ByteArray}{t:List Tm}(h:Uu U t):t.length≤U.length:=by
 have:=PT (HN h.1) (m:=U) fun p hp=>by
  obtain⟨u,hu,rfl⟩:=Al.1 hp;exact h.2 u hu
 unfold Ez at this
 rwa [Bb]at this
theorem YQ{l c:List Tm}(h:CR l=some c){t:Tm}(ht:t∈c):t∈EY l:=by
 unfold CR at h;split at h
 ·cases h
 ·cases h;exact(By.1 ht).1
theorem PB{U:List ByteArray}{l c:List Tm}(h:CR l=some c)(hu:∀u∈l,u.path∈U):Uu U c :=
 ⟨EO h,fun t ht=>by
  obtain⟨u,h1,h2⟩:=Zz (YQ h ht);rw[←h2];exact hu u h1⟩
theorem Uu.nil(U:List ByteArray):Uu U []:=⟨trivial,fun u hu=>by cases hu⟩
theorem Ty{U:List ByteArray}{l:List Tm}(hu:∀u∈l,u.path∈U):Uu U (PU l):=by
 unfold PU;cases h:CR l with
 |none=>exact .nil U
 |some c=>exact PB h hu
theorem Ra{U:List ByteArray}{a b:List Tm}{p:ByteArray}(ha:Uu U a)(hb:Uu U b):Uu U (Bx a b p).1:=by
 have sp:∀{l r:List Tm} {t:Tm},Uu U l→Fq l p=some (t,r)→t.path∈U∧∀u∈r,u.path∈U:=by
  intro l r t hl h;unfold Fq at h;cases e:CR l with
  |none=>rw[e]at h;cases h
  |some c =>
   rw[e]at h;have h:(match Dm c p with | none=>none | some t=>some (t,FL c p))=some (t,r):=h;have hc:=PB e hl.2;cases e2:Dm c p with
   |none=>rw[e2]at h;cases h
   |some u =>
    rw[e2]at h;cases h;exact⟨hc.2 _ (E9 e2),fun u hu=>hc.2 u (By.1 hu).1⟩
 unfold Bx;split
 ·rename_i t r u m e1 e2;obtain⟨a1,a2⟩:=sp ha e1;obtain⟨b1,b2⟩:=sp hb e2;split
  ·rename_i o e3;refine PB e3 fun v hv=>?_;rcases A8.1 hv with hv | hv
   ·rcases A8.1 hv with hv | hv
    ·exact a2 v hv
    ·exact b2 v hv
   ·rw[Am.1 hv];exact a1
  ·exact .nil U
 ·exact .nil U
def Ke(x:List Rl)(roots:List Rq)(l:List Nf):List ByteArray:=(x.map (·.path))++((x.map (·.reqs)).flatten.map (·.path)++(roots.map (·.path)++l.map (·.path)))
theorem cJ{x:List Rl}{roots:List Rq}{l:List Nf}{d:List (List Tm)}{i:Nf}(hi:i∈l)(hd:∀t∈d,Uu (Ke x roots l) t){t:List Tm}(h:DW x roots d i=some t):Uu (Ke x roots l) t:=by
 have hp:i.path∈Ke x roots l:=by
  unfold Ke;exact Bk _ (Bk _ (Bk _ (Al.2 ⟨i,hi,rfl⟩)))
 have nz:∀{α:Type} {l:List α} {k:Int} {a:α},Jp l k=some a→a∈l:=by
  intro α l k a h;unfold Jp at h;split at h
  ·cases h
  ·exact Av h
 have n0:∀{a b:List Tm},cS a=some b→b=a:=by
  intro a b h;unfold cS at h;split at h
  ·cases h
  ·cases h;rfl
 unfold DW at h;split at h
 ·split at h
  ·cases e:Jp roots i.number with
   |none=>rw[e]at h;cases h
   |some q =>
    rw[e]at h;cases h;refine Ty fun u hu=>?_;rw[Am.1 hu];unfold Ke;exact Bk _ (Bk _ (Bo _ (Al.2 ⟨q,nz e,rfl⟩)))
  ·cases h
 split at h
 ·split at h
  ·cases e:Pc x i.path i.place with
   |none=>rw[e]at h;cases h
   |some r =>
    rw[e]at h;have h:(match Jp r.reqs i.number with | none=>none | some q=>cS (El i.path i.place q))=some t:=h;cases e2:Jp r.reqs i.number with
    |none=>rw[e2]at h;cases h
    |some q =>
     rw[e2]at h;have h:=n0 (show cS (El i.path i.place q)=some t from h);subst h;refine Ty fun u hu=>?_;rcases As.1 hu with rfl | hu
     ·exact hp
     ·rw[Am.1 hu];unfold Ke;refine Bk _ (Bo _ (Al.2 ⟨q,?_,rfl⟩));exact Eu.2 ⟨r.reqs,Al.2 ⟨r,BO e,rfl⟩,nz e2⟩
  ·cases h
 split at h
 ·split at h
  ·have h:=n0 h;subst h;refine Ty fun u hu=>?_;rw[Am.1 hu];exact hp
  ·cases h
 split at h
 ·split at h
  ·cases e:Jp d i.left with
   |none=>rw[e]at h;cases h
   |some a =>
    cases e2:Jp d i.right with
    |none=>rw[e,e2]at h;cases h
    |some b =>
     rw[e,e2]at h;have h:(if(Bx a b i.path).2=0 then some (Bx a b i.path).1 else none)=some t:=h;split at h
     ·cases h;exact Ra (hd a (nz e)) (hd b (nz e2))
     ·cases h
  ·cases h
 ·cases h
structure Cd where
 place:Int
 rel:Rl
structure Nd where
 rq:Rq
 path:ByteArray
 place:Int
 number:Int
structure SS where
 infs:List Nf
 drv:List (List Tm)
 full:Bool
abbrev Td(c:Cd):Sl:=⟨c.rel.path,c.rel.ver⟩
abbrev AM(l:List Cd):List Sl:=l.map Td
def Cq(x:List Rl)(p:ByteArray):List Cd:=(x.filter fun r=>decide (r.path=p)&&!r.yanked).map fun r=>⟨plc r.ver,r⟩
def Mi(f:Rq→Nat→Nd):Nat→List Rq→List Nd
 |_,[]=>[]
 |i,q::l=>f q i::Mi f (i+1) l
def Yp(roots:List Rq):List Nd:=Mi (fun q i=>⟨q,mt,0,i⟩) 0 roots
def PZ(c:Cd):List Nd:=Mi (fun q i=>⟨q,c.rel.path,c.place,i⟩) 0 c.rel.reqs
def Ds(roots:List Rq)(dec:List Cd):List Nd:=Yp roots++(dec.map PZ).flatten
def Dg(dec:List Cd)(p:ByteArray):Bool:=dec.any fun c=>decide (c.rel.path=p)
def Ek(dec:List Cd)(a:ByteArray×List Nd)(n:Nd):ByteArray×List Nd :=
 if Dg dec n.rq.path=true∨(a.2≠[]∧Fl a.1 n.rq.path=true)then a
 else if a.2≠[]∧Fl n.rq.path a.1=true then(n.rq.path,[n])else(n.rq.path,a.2++[n])
def GF(roots:List Rq)(dec:List Cd):ByteArray×List Nd:=(Ds roots dec).foldl (Ek dec) (mt,[])
def aN(l:List Cd)(n:Nd):Bool:=l.any fun d=>decide (d.rel.path=n.rq.path)&&!has n.rq.set d.place
def Eb(dec:List Cd)(c:Cd):Option Nd:=(PZ c).find? (aN (dec++[c]))
def On(s:List Sl):Nat→List (List Tm)→Option Nat
 |_,[]=>none
 |i,t::l=>if CF t s then some i else On s (i+1) l
def Oo(d:List (List Tm))(s:List Sl):Option Nat:=On s 0 d
def Db(l:List Tm)(p:ByteArray):Bool:=l.any fun t=>decide (t.path=p)
instance:DecidableEq Nf:=fun a b=>by
 obtain⟨a1,a2,a3,a4,a5,a6⟩:=a;obtain⟨b1,b2,b3,b4,b5,b6⟩:=b;exact decidable_of_iff (a1=b1∧a2=b2∧a3=b3∧a4=b4∧a5=b5∧a6=b6) ⟨fun⟨h1,h2,h3,h4,h5,h6⟩=>by subst h1 h2 h3 h4 h5 h6;rfl,fun h=>by cases h;exact⟨rfl,rfl,rfl,rfl,rfl,rfl⟩⟩
def LI(i:Nf):Nat→List Nf→Option Nat
 |_,[]=>none
 |k,j::l=>if j=i then some k else LI i (k+1) l
def Ef(s:SS)(i:Nf)(l:List Tm):Nat×SS :=
 match LI i 0 s.infs with
 |some k=>(k,s)
 |none=>if 65536≤s.infs.length then(s.infs.length-1,⟨s.infs,s.drv,true⟩)else(s.infs.length,⟨s.infs++[i],s.drv++[l],s.full⟩)
def S8(n:Nd):Nf:=if n.path=mt then⟨0,mt,0,n.number,0,0⟩else⟨1,n.path,n.place,n.number,0,0⟩
def I0(n:Nd):List Tm:=if n.path=mt then Ju n.rq else El n.path n.place n.rq
def Bl(s:SS)(n:Nd):Nat×SS:=Ef s (S8 n) (I0 n)
abbrev DR(s:SS)(k:Nat):List Tm:=s.drv.getD k []
def Cn(p:ByteArray):List Nat→Nat→SS→Nat×SS
 | [],k,s=>(k,s)
 |r::l,k,s =>
  if s.full=true∨Db (DR s k) p=false then(k,s)
  else if r=k then Cn p l k s
  else if(Bx (DR s k) (DR s r) p).2≠0 then Cn p l k s
  else Cn p l (Ef s ⟨3,p,0,0,k,r⟩ (Bx (DR s k) (DR s r) p).1).1 (Ef s ⟨3,p,0,0,k,r⟩ (Bx (DR s k) (DR s r) p).1).2
def En(x:List Rl)(p:ByteArray)(s:SS):Nat×SS:=Ef s ⟨2,p,0,0,0,0⟩ (HT p (B8 x p))
def D4(x:List Rl)(p:ByteArray)(n:Nd)(FV:List Nat)(s:SS):Nat×SS :=
 Cn p ((En x p (Bl s n).2).1::FV) (Bl s n).1 (En x p (Bl s n).2).2
structure JZ where
 res:Nat
 found:Bool
 ss:SS
 dec:List Cd
 stack:List (List Sk)
def D3(rec:List Cd→SS→List (List Sk)→JZ)(x:List Rl)(p:ByteArray)(needs:List Nd)(n0:Nd)(dec:List Cd)(stack:List (List Sk)):List Cd→SS→List Nat→List Sk→JZ
 | [],s,FV,_=>⟨(D4 x p n0 FV s).1,false,(D4 x p n0 FV s).2,dec,stack⟩
 |c::cs,s,FV,skips =>
  let after (k:Nat) (s:SS):JZ:=if Db (DR s k) p=false then⟨k,false,s,dec,stack⟩else D3 rec x p needs n0 dec stack cs s (FV++[k]) (skips++[⟨p,c.place,k⟩])
  if s.full=true then⟨0,false,s,dec,stack⟩
  else match needs.find? fun n=>!has n.rq.set c.place with
   |some n=>D3 rec x p needs n0 dec stack cs (Bl s n).2 (FV++[(Bl s n).1]) skips
   |none=>match Oo s.drv (AM (dec++[c]))with
    |some k=>after k s
    |none=>match Eb dec c with
     |some n=>after (Bl s n).1 (Bl s n).2
     |none =>
      let o:=rec (dec++[c]) s (stack++[skips])
      if o.found=true then⟨0,true,o.ss,o.dec,o.stack⟩
      else if o.ss.full=true then⟨0,false,o.ss,dec,stack⟩
      else after o.res o.ss
def Dc(x:List Rl)(roots:List Rq):Nat→List Cd→SS→List (List Sk)→JZ
 |0,dec,s,stack=>⟨0,false,s,dec,stack⟩
 |n+1,dec,s,stack=>match(GF roots dec).2 with
  | []=>⟨0,true,s,dec,stack⟩
  |n0::l=>D3 (Dc x roots n) x (GF roots dec).1 (n0::l) n0 dec stack (Cq x (GF roots dec).1) s [] []
abbrev tC:SS:=⟨[],[],false⟩
def QK(x:List Rl)(dec:List Cd):Nat:=(x.filter fun r=>!r.yanked&&!Dg dec r.path).length
def Em(x:List Rl)(roots:List Rq):JZ:=Dc x roots (x.length+1) [] tC []
theorem O0(f:Rq→Nat→Nd):∀(l:List Rq) (i k:Nat),(Mi f i l)[k]?=(l[k]?).map fun q=>f q (i+k)
 | [],i,k=>by simp[Mi]
 |q::l,i,0=>by simp[Mi]
 |q::l,i,k+1=>by
  have h:=O0 f l (i+1) k;simp only[Mi,GM,h];rw[show i+1+k=i+(k+1) by omega]
theorem KI(f:Rq→Nat→Nd):∀(l:List Rq) (i:Nat),(Mi f i l).length=l.length
 | [],_=>rfl
 |_::l,i=>by simp[Mi,KI f l (i+1)]
theorem X7{f:Rq→Nat→Nd}{l:List Rq}{n:Nd}(h:n∈Mi f 0 l):∃k q,l[k]?=some q∧n=f q k:=by
 obtain⟨k,hk⟩:=Ca.1 h;rw[O0,AZ]at hk;obtain⟨q,h1,h2⟩:=hk;exact⟨k,q,h1,by rw[←h2,Bi]⟩
theorem RF{f:Rq→Nat→Nd}(hf:∀q i,(f q i).rq=q):∀(l:List Rq) (i:Nat),(Mi f i l).map (·.rq)=l
 | [],_=>rfl
 |q::l,i=>by simp[Mi,hf,RF hf l (i+1)]
abbrev HJ(roots:List Rq)(dec:List Cd):List Rq:=roots++(dec.map fun c=>c.rel.reqs).flatten
theorem MK(roots:List Rq)(dec:List Cd):(Ds roots dec).map (·.rq)=HJ roots dec:=by
 unfold Ds Yp;rw[AH,RF (fun _ _=>rfl),RP,BN]
 congr 2
 exact Bf fun c _=>RF (fun _ _=>rfl) _ _
theorem FU(dec:List Cd)(p:ByteArray):CI (AM dec) p=Dg dec p:=by
 unfold CI Dg AM;rw[List.any_map];rfl
theorem Jo(before:List Sl):∀{l:List Rq} {a p:ByteArray},Dt before l (some a)=some p→p=a∨Fl p a=true
 | [],a,p,h=>by cases h;exact .inl rfl
 |q::l,a,p,h=>by
  unfold Dt at h;split at h
  ·exact Jo before h
  ·dsimp only at h;split at h
   ·rename_i hb;rcases Jo before h with e | e
    ·exact .inr (by rw[e];exact hb)
    ·exact .inr (EB e hb)
   ·exact Jo before h
theorem Iw(before:List Sl):∀{l:List Rq} {a:ByteArray},Dt before l (some a)≠none
 | [],a=>by simp[Dt]
 |q::l,a=>by
  unfold Dt;split
  ·exact Iw before
  ·dsimp only;split<;>exact Iw before
theorem Ox{n:Nd}{p:ByteArray}(e:n.rq.path≠p)(L:List Nd):((n::L).filter fun n=>decide (n.rq.path=p))=L.filter fun n=>decide (n.rq.path=p):=by rw[DN,Ai (by simpa using e)]
theorem V0{n:Nd}{p:ByteArray}(e:n.rq.path=p)(L:List Nd):((n::L).filter fun n=>decide (n.rq.path=p))=n::L.filter fun n=>decide (n.rq.path=p):=by rw[DN,Aw (by simpa using e)]
theorem MM(dec:List Cd):∀(L:List Nd) (a:ByteArray×List Nd),(a.2≠[]→Dg dec a.1=false) →
  L.foldl (Ek dec) a=match Dt (AM dec) (L.map (·.rq)) (if a.2=[]then none else some a.1)with
   |none=>a
   |some p=>(p,(if a.2≠[]∧a.1=p then a.2 else [])++L.filter fun n=>decide (n.rq.path=p))
 | [],a,h=>by
  obtain⟨p,o⟩:=a;cases o with
  |nil=>simp[Dt]
  |cons n o=>simp[Dt]
 |n::L,a,h=>by
  obtain⟨p0,o⟩:=a;rw[Fy,AN];have rr:∀(acc:Option ByteArray) (l:List Rq),(∀p,acc=some p→Dg dec p=false)→∀p,Dt (AM dec) l acc=some p→Dg dec p=false:=fun acc l ha p hp=>by
   have:=((JT (AM dec) (l:=l) (acc:=acc) (fun p e=>by rw[FU];exact ha p e)).1 p hp).1
   rw[FU]at this;exact this
  cases hd:Dg dec n.rq.path with
  |true =>
   have e1:Ek dec (p0,o) n=(p0,o):=by unfold Ek;rw[Aw (.inl hd)]
   have e2:Dt (AM dec) (n.rq::L.map (·.rq)) (if o=[]then none else some p0)=Dt (AM dec) (L.map (·.rq)) (if o=[]then none else some p0):=by
    conv=>lhs;unfold Dt
    rw[Aw (by rw[FU];exact hd)]
   rw[e1,e2,MM dec L (p0,o) h];dsimp only;cases hg:Dt (AM dec) (L.map (·.rq)) (if o=[]then none else some p0)with
   |none=>rfl
   |some p =>
    dsimp only;have hp:=rr _ _ (fun q e=>by
     split at e
     ·cases e
     ·rename_i ho;cases e;exact h ho) p hg
    have DE:n.rq.path≠p:=fun e=>by rw[e,hp]at hd;cases hd
    rw[Ox DE]
  |false =>
   have Rk:CI (AM dec) n.rq.path=false:=by rw[FU];exact hd
   by_cases ho:o=[]
   ·subst ho;have e1:Ek dec (p0,[]) n=(n.rq.path,[n]):=by
     unfold Ek;rw[Ai (by simp[hd]),Ai (by simp)];rfl
    have e2:Dt (AM dec) (n.rq::L.map (·.rq)) none=Dt (AM dec) (L.map (·.rq)) (some n.rq.path):=by
     conv=>lhs;unfold Dt
     rw[Ai (by rw[Rk];decide)]
    rw[e1,MM dec L (n.rq.path,[n]) (fun _=>hd),Aw rfl,e2];rw[Ai (by simp)];cases hg:Dt (AM dec) (L.map (·.rq)) (some n.rq.path)with
    |none=>exact absurd hg (Iw _)
    |some p =>
     dsimp only;rw[Ai (show ¬(([]:List Nd)≠[]∧p0=p)from fun h=>h.1 rfl)]
     by_cases e:n.rq.path=p
     ·rw[V0 e,Aw ⟨by simp,e⟩];rfl
     ·rw[Ox e,Ai (fun h=>e h.2)]
   ·have yf:(if o=[]then none else some p0)=some p0:=Ai ho;rw[yf];cases hb:Fl p0 n.rq.path with
    |true =>
     have e1:Ek dec (p0,o) n=(p0,o):=by unfold Ek;rw[Aw (.inr ⟨ho,hb⟩)]
     have Uf:Fl n.rq.path p0=false:=Pz hb;have e2:Dt (AM dec) (n.rq::L.map (·.rq)) (some p0)=Dt (AM dec) (L.map (·.rq)) (some p0):=by
      conv=>lhs;unfold Dt
      rw[Ai (by rw[Rk];decide)];dsimp only;rw[Ai (by rw[Uf];decide)]
     rw[e1,e2,MM dec L (p0,o) h];dsimp only;rw[yf];cases hg:Dt (AM dec) (L.map (·.rq)) (some p0)with
     |none=>rfl
     |some p =>
      dsimp only;have DE:n.rq.path≠p:=fun e=>by
       rcases Jo _ hg with e3 | e3
       ·rw[e,e3,Di]at hb;cases hb
       ·rw[e,Pz e3]at hb;cases hb
      rw[Ox DE]
    |false =>
     cases Uf:Fl n.rq.path p0 with
     |true =>
      have e1:Ek dec (p0,o) n=(n.rq.path,[n]):=by
       unfold Ek;rw[Ai (by simp[hd,hb]),Aw ⟨ho,Uf⟩]
      have e2:Dt (AM dec) (n.rq::L.map (·.rq)) (some p0)=Dt (AM dec) (L.map (·.rq)) (some n.rq.path):=by
       conv=>lhs;unfold Dt
       rw[Ai (by rw[Rk];decide)];dsimp only;rw[Aw Uf]
      rw[e1,e2,MM dec L (n.rq.path,[n]) (fun _=>hd),Ai (by simp)];cases hg:Dt (AM dec) (L.map (·.rq)) (some n.rq.path)with
      |none=>exact absurd hg (Iw _)
      |some p =>
       dsimp only;have DE:p0≠p:=fun e=>by
        rcases Jo _ hg with e3 | e3
        ·rw[e,e3,Di]at Uf;cases Uf
        ·rw[e]at Uf;rw[Pz e3]at Uf;cases Uf
       rw[Ai (show ¬(o≠[]∧p0=p)from fun h=>DE h.2)]
       by_cases e:n.rq.path=p
       ·rw[V0 e,Aw ⟨by simp,e⟩];rfl
       ·rw[Ox e,Ai (fun h=>e h.2)]
     |false =>
      have e0:n.rq.path=p0:=Hs Uf hb;have e1:Ek dec (p0,o) n=(p0,o++[n]):=by
       unfold Ek;rw[Ai (by simp[hd,hb]),Ai (by simp[Uf]),e0]
      have e2:Dt (AM dec) (n.rq::L.map (·.rq)) (some p0)=Dt (AM dec) (L.map (·.rq)) (some p0):=by
       conv=>lhs;unfold Dt
       rw[Ai (by rw[Rk];decide)];dsimp only;rw[Ai (by rw[Uf];decide)]
      rw[e1,e2,MM dec L (p0,o++[n]) (fun _=>by rw[←e0];exact hd),Ai (by simp)];cases hg:Dt (AM dec) (L.map (·.rq)) (some p0)with
      |none=>exact absurd hg (Iw _)
      |some p =>
       dsimp only
       by_cases e:p0=p
       ·rw[V0 (e0.trans e),Aw ⟨by simp,e⟩,Aw ⟨ho,e⟩,AP];rfl
       ·rw[Ox (fun h=>e (e0.symm.trans h)),Ai (fun h=>e h.2),Ai (fun h=>e h.2)]
theorem Tr(roots:List Rq)(dec:List Cd):GF roots dec=match KG (HJ roots dec) (AM dec)with
  |none=>(mt,[])
  |some p=>(p,(Ds roots dec).filter fun n=>decide (n.rq.path=p)):=by
 unfold GF KG;rw[MM dec _ (mt,[]) (fun h=>absurd rfl h),Aw rfl,MK];cases Dt (AM dec) (HJ roots dec) none with
 |none=>rfl
 |some p=>dsimp only;rw[Ai (by simp)];rfl
theorem Ts{roots:List Rq}{dec:List Cd}:(GF roots dec).2=[]↔KG (HJ roots dec) (AM dec)=none:=by
 rw[Tr];cases h:KG (HJ roots dec) (AM dec)with
 |none=>simp
 |some p =>
  simp only[reduceCtorEq,iff_false];obtain⟨_,q,hq,e⟩:=Tt h;rw[←MK]at hq;obtain⟨n,hn,rfl⟩:=Al.1 hq;exact List.ne_nil_of_mem (By.2 ⟨hn,by simpa using e⟩)
structure o7(roots:List Rq)(dec:List Cd)(p:ByteArray)(l:List Nd):Prop where
 next:KG (HJ roots dec) (AM dec)=some p
 undone:Dg dec p=false
 mem:∀n,n∈l↔n∈Ds roots dec∧n.rq.path=p
theorem NT{roots:List Rq}{dec:List Cd}{n0:Nd}{l:List Nd}(h:(GF roots dec).2=n0::l):o7 roots dec (GF roots dec).1 (n0::l):=by
 rw[←h];rw[Tr]at *
 cases hp:KG (HJ roots dec) (AM dec)with
 |none=>rw[hp]at h;cases h
 |some p =>
  dsimp only;refine⟨hp,by rw[←FU];exact(Tt hp).1,fun n=>?_⟩;rw[By];simp
theorem KV{x:List Rl}{p:ByteArray}{c:Cd}:c∈Cq x p↔∃r∈x,r.path=p∧r.yanked=false∧c=⟨plc r.ver,r⟩:=by
 unfold Cq;simp only[Al,By,Ag,Ay,CU];constructor
 ·rintro⟨r,⟨h1,h2,h3⟩,rfl⟩;exact⟨r,h1,h2,h3,rfl⟩
 ·rintro⟨r,h1,h2,h3,rfl⟩;exact⟨r,⟨h1,h2,h3⟩,rfl⟩
theorem MR{i:Nf}:∀{l:List Nf} {k m:Nat},LI i k l=some m→∃j,m=k+j∧l[j]?=some i
 | [],_,_,h=>by cases h
 |y::l,k,m,h=>by
  unfold LI at h;split at h
  ·rename_i e;cases h;exact⟨0,rfl,by rw[←e];rfl⟩
  ·obtain⟨j,h1,h2⟩:=MR h;exact⟨j+1,by omega,h2⟩
theorem PW{i:Nf}:∀{l:List Nf} {k:Nat},LI i k l=none→i∉l
 | [],_,_=>by simp
 |y::l,k,h=>by
  unfold LI at h;split at h
  ·cases h
  ·rename_i e
   have:=PW h
   simp only[As,not_or];exact⟨fun e'=>e e'.symm,this⟩
theorem QX{α:Type}{d d' : List α}{i:Int}{a:α}(h:Jp d i=some a)(hp:d <+: d'):Jp d' i=some a:=by
 unfold Jp at *
 split at h
 ·cases h
 ·rename_i hi;rw[Ai hi];obtain⟨t,rfl⟩:=hp;rw[AX (At.1 h).1];exact h
theorem XN{x:List Rl}{roots:List Rq}{d d' : List (List Tm)}{i:Nf}{o:List Tm}(h:DW x roots d i=some o)(hp:d <+: d'):DW x roots d' i=some o:=by
 unfold DW at *
 split
 ·rename_i e;rw[Aw e]at h;exact h
 rename_i e0;rw[Ai e0]at h;split
 ·rename_i e;rw[Aw e]at h;exact h
 rename_i e1;rw[Ai e1]at h;split
 ·rename_i e;rw[Aw e]at h;exact h
 rename_i e2;rw[Ai e2]at h;split
 ·rename_i e;rw[Aw e]at h;split
  ·rename_i e4;rw[Aw e4]at h;cases ha:Jp d i.left with
   |none=>rw[ha]at h;cases h
   |some a =>
    cases hb:Jp d i.right with
    |none=>rw[ha,hb]at h;cases h
    |some b =>
     rw[ha,hb]at h;rw[QX ha hp,QX hb hp];exact h
  ·rename_i e4;rw[Ai e4]at h;cases h
 ·rename_i e;rw[Ai e]at h;cases h
structure Fr(x:List Rl)(roots:List Rq)(s:SS):Prop where
 der:Df x roots s.infs []=some s.drv
 len:s.infs.length≤65536
theorem Fr.dlen{x:List Rl}{roots:List Rq}{s:SS}(h:Fr x roots s):s.drv.length=s.infs.length:=by simpa using IW h.der
theorem Fr.nil(x:List Rl)(roots:List Rq):Fr x roots tC:=⟨rfl,by simp⟩
theorem Fr.at{x:List Rl}{roots:List Rq}{s:SS}(h:Fr x roots s){k:Nat}{i:Nf}(hk:s.infs[k]?=some i):DW x roots s.drv i=some (s.drv.getD k []):=by
 have h1:=M5 h.der (k+1);have h0:=M5 h.der k;have DL:=(At.1 hk).1;rw[Bp,hk,GV,h0]at h1;have h1:Df x roots [i] (s.drv.take k)=some (s.drv.take (k+1)):=h1;unfold Df at h1;cases hi:DW x roots (s.drv.take k) i with
 |none=>rw[hi]at h1;cases h1
 |some t =>
  rw[hi]at h1;have h1:some (s.drv.take k++[t])=some (s.drv.take (k+1)):=h1;have hd:k<s.drv.length:=by rw[h.dlen];exact DL
  have:t=s.drv[k]:=by
   have h2:=BP h1;rw[Kl hd]at h2;exact List.singleton_inj.1 (List.append_cancel_left h2)
  rw[XN hi (List.take_prefix ..),this];simp[List.getD_eq_getElem?_getD,hd]
structure Grow(s s' : SS):Prop where
 pre:s.drv <+: s'.drv
 preI:s.infs <+: s'.infs
 full:s.full=true→s'.full=true
theorem Grow.refl(s:SS):Grow s s:=⟨MV,MV,id⟩
theorem Grow.trans{a b c:SS}(h:Grow a b)(k:Grow b c):Grow a c:=⟨h.pre.trans k.pre,h.preI.trans k.preI,fun e=>k.full (h.full e)⟩
theorem Grow.at{s s' : SS}(h:Grow s s'){k:Nat}(hk:k<s.drv.length):DR s' k=DR s k:=by
 obtain⟨t,e⟩:=h.pre;unfold DR;rw[←e,Ck,Ck,AX hk]
theorem Grow.len{s s' : SS}(h:Grow s s'):s.drv.length≤s'.drv.length:=h.pre.length_le
theorem Kr(s:SS)(i:Nf)(l:List Tm):Grow s (Ef s i l).2:=by
 unfold Ef;split
 ·exact .refl s
 ·split
  ·exact⟨MV,MV,fun _=>rfl⟩
  ·exact⟨N7 ..,N7 ..,id⟩
theorem Kq{x:List Rl}{roots:List Rq}{s:SS}(h:Fr x roots s){i:Nf}{l:List Tm}(hi:DW x roots s.drv i=some l) :
  Fr x roots (Ef s i l).2∧(Ef s i l).1<(Ef s i l).2.drv.length∧((Ef s i l).2.full=false→DR (Ef s i l).2 (Ef s i l).1=l):=by
 have hdl:=h.dlen;unfold Ef;split
 ·rename_i k hk;obtain⟨j,e,hj⟩:=MR hk
  have:k=j:=by omega
  subst this;have DL:=(At.1 hj).1;refine⟨h,by show k<s.drv.length;omega,fun _=>?_⟩
  have:=h.at hj
  rw[hi]at this;exact(BP this).symm
 ·rename_i hk;split
  ·rename_i hf;exact⟨⟨h.der,h.len⟩,by show s.infs.length-1<s.drv.length;omega,fun e=>by cases e⟩
  ·rename_i hf;refine⟨⟨?_,by show(s.infs++[i]).length≤65536;rw[Ad];simp;omega⟩,by show s.infs.length<(s.drv++[l]).length;rw[Ad];simp;omega,fun _=>?_⟩
   ·show Df x roots (s.infs++[i]) []=some (s.drv++[l]);rw[GV,h.der];show Df x roots [i] s.drv=_;unfold Df;rw[hi];rfl
   ·show(s.drv++[l]).getD s.infs.length []=l;rw[←hdl];simp[List.getD_eq_getElem?_getD]
theorem Ss(S:List Sl):∀{l:List (List Tm)} {i k:Nat},On S i l=some k→∃j,k=i+j∧∃t,l[j]?=some t∧CF t S=true
 | [],_,_,h=>by cases h
 |t::l,i,k,h=>by
  unfold On at h;split at h
  ·rename_i e;cases h;exact⟨0,rfl,t,rfl,e⟩
  ·obtain⟨j,h1,t',h2,h3⟩:=Ss S h;exact⟨j+1,by omega,t',h2,h3⟩
theorem Kw{d:List (List Tm)}{S:List Sl}{k:Nat}(h:Oo d S=some k):k<d.length∧CF (d.getD k []) S=true:=by
 obtain⟨j,h1,t,h2,h3⟩:=Ss S h
 have:k=j:=by omega
 subst this;refine⟨(At.1 h2).1,?_⟩;rw[Ck,h2];exact h3
end Go.Eng
