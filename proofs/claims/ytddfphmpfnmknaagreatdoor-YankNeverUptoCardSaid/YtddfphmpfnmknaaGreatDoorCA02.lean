/- Lemmas for the claims of this seat, without a condition: part 2 (P8, P9, P10, P11, P12, P13, P14, Q1, Q2). -/
import Derived.Test.YtddfphmpfnmknaaGreatDoorCA01
import Derived.Lib.SplitLaws
import Derived.Lib.IndexBytes
namespace Go.Eng
def CF(l:Bg):Bg:=(l.map Hf).filter fun x=>decide (x.1<x.2)
theorem Of(a b:Bg):CF (a++b)=CF a++CF b:=by unfold CF;rw[Ax,Dc]
theorem UF{l:Bg}{x:Int×Int}(h:x∈CF l):0≤x.1∧x.1<x.2∧x.2≤1000000:=by
 unfold CF at h;rw[BC,Aj]at h;obtain⟨⟨y,_,rfl⟩,h2⟩:=h;have h2:=Bv h2;refine⟨?_,h2,?_⟩<;>simp only[Hf]<;>omega
theorem bD(l:Bg)(p:Int):(CF l).any (BH p)=has l p:=by
 rw[←Kq]
 induction l with
 |nil=>rfl
 |cons x r ih =>
  have e:CF (x::r)=(if(Hf x).1<(Hf x).2 then [Hf x]else [])++CF r:=by
   unfold CF;rw[AH,BN]
   by_cases h:(Hf x).1<(Hf x).2<;>simp[h]
  have ec:canon (x::r)=if(Hf x).1<(Hf x).2 then VA (Hf x) (canon r)else canon r:=rfl
  rw[e,F9,ih,ec]
  by_cases h:(Hf x).1<(Hf x).2
  ·rw[Ao h,Ao h,N7 _ p (Cb r) h];simp
  ·rw[Ah h,Ah h];simp
theorem Nq:∀{l:Bg} {lo:Int},EH lo l↔(∀y∈l,lo≤y.1∧y.1<y.2∧y.2≤1000000)∧l.Pairwise fun a b=>a.2<b.1
 | [],lo=>by simp[EH]
 |y::r,lo=>by
  rw[BF];constructor
  ·intro h;have hl:=h.low;refine⟨hl,fun z hz=>?_,((Nq (l:=r)).1 h.2.2.2).2⟩
   have:=h.2.2.2.low z hz;omega
  ·intro⟨h1,h2,h3⟩;have hy:=h1 y (Ab ..);refine⟨hy.1,hy.2.1,hy.2.2,Nq.2 ⟨fun z hz=>?_,h3⟩⟩
   have:=h1 z (Ag _ hz)
   have:=h2 z hz
   omega
def KM(r:Bg)(x:Int×Int):Bg:=match r with
 | []=>[x]
 |y::t=>if x.1≤y.2 then(y.1,max y.2 x.2)::t else x::y::t
def By(s:Bg):Bg:=s.foldl KM []
theorem Gj(s:Bg)(i:Nat)(h:i<s.length):By (s.take (i+1))=KM (By (s.take i)) s[i]:=by
 unfold By;rw[Bq,At h,Fp];rfl
theorem dt(r:Bg)(x:Int×Int):(KM r x).length≤r.length+1∧r.length≤(KM r x).length∧0<(KM r x).length:=by
 unfold KM;split
 ·simp
 ·split<;>simp
theorem Td(s:Bg):∀i,i≤s.length→(By (s.take i)).length≤i∧(0<i→0<(By (s.take i)).length):=by
 intro i
 induction i with
 |zero=>intro _;simp[By]
 |succ i ih =>
  intro h;rw[Gj s i (by omega)]
  have:=dt (By (s.take i)) s[i]
  have:=ih (by omega)
  omega
structure ml(r done:Bg):Prop where
 ok:∀y∈r,0≤y.1∧y.1<y.2∧y.2≤1000000
 pw:r.Pairwise fun a b=>b.2<a.1
 has:∀p,r.any (BH p)=done.any (BH p)
 first:∀y t,r=y::t→∃x∈done,y.1=x.1
theorem dq{r done:Bg}{x:Int×Int}(h:ml r done)(hx:0≤x.1∧x.1<x.2∧x.2≤1000000)(hs:∀y∈done,y.1≤x.1):ml (KM r x) (done++[x]):=by
 unfold KM;split
 ·refine⟨fun y hy=>?_,by simp,fun p=>?_,fun y t e=>?_⟩
  ·rw[Am.1 hy];exact hx
  ·rw[F9,←h.has];rfl
  ·cases e;exact⟨x,by simp,rfl⟩
 ·rename_i y t;have hy:=h.ok y (Ab ..);obtain⟨yu,pw2⟩:=BF.1 h.pw;obtain⟨z,hz,e⟩:=h.first y t rfl
  have pf:=hs z hz;split
  ·rename_i Hg;refine⟨fun u hu=>?_,BF.2 ⟨yu,pw2⟩,fun p=>?_,fun u t' e'=>?_⟩
   ·rcases Av.1 hu with rfl | hu
    ·exact⟨hy.1,by dsimp only;omega,by dsimp only;omega⟩
    ·exact h.ok u (Ag _ hu)
   ·rw[F9,←h.has,B8,B8,B8,List.any_nil,QW]
    have:BH p (y.1,max y.2 x.2)=(BH p y||BH p x):=by
     simp only[BH];rw[BP];simp only[Af,Cj,As];omega
    rw[this];cases BH p y<;>cases BH p x<;>cases t.any (BH p)<;>rfl
   ·cases e';exact⟨z,Bn _ hz,e⟩
  ·rename_i Hg;refine⟨fun u hu=>?_,BF.2 ⟨fun u hu=>?_,h.pw⟩,fun p=>?_,fun u t' e'=>?_⟩
   ·rcases Av.1 hu with rfl | hu
    ·exact hx
    ·exact h.ok u hu
   ·rcases Av.1 hu with rfl | hu
    ·omega
    ·have:=yu u hu;omega
   ·rw[F9,←h.has,B8,B8,B8,List.any_nil,QW];cases BH p y<;>cases BH p x<;>cases t.any (BH p)<;>rfl
   ·cases e';exact⟨x,by simp,rfl⟩
theorem Zg{s:Bg}(Gv:∀y∈s,0≤y.1∧y.1<y.2∧y.2≤1000000)(hs:s.Pairwise fun a b=>a.1≤b.1):∀i,i≤s.length→ml (By (s.take i)) (s.take i):=by
 intro i
 induction i with
 |zero=>intro _;exact⟨fun _ h=>by simp[By]at h,by simp[By],fun p=>by simp[By],fun y t e=>by simp[By]at e⟩
 |succ i ih =>
  intro h;have hi:i<s.length:=by omega
  rw[Gj s i hi];have e:s.take (i+1)=s.take i++[s[i]]:=by rw[Bq,At hi];rfl
  rw[e];refine dq (ih (by omega)) (Gv _ (AC hi)) fun y hy=>?_;obtain⟨j,hj,rfl⟩:=CW.1 hy;rw[HS];rw[AD]at hj;exact(AY.1 hs) j i (by omega) hi (by omega)
theorem QY{l s:Bg}(hp:s.Perm (CF l))(hs:s.Pairwise fun a b=>a.1≤b.1):(By s).reverse=canon l:=by
 have hi:=Zg (s:=s) (fun y hy=>UF (hp.mem_iff.1 hy)) hs s.length (Al _);rw[DZ]at hi;have hc:ED (By s).reverse:=by
  unfold ED;rw[Nq];refine⟨fun y hy=>hi.ok y (List.mem_reverse.1 hy),?_⟩;rw[List.pairwise_reverse];exact hi.pw
 refine RZ hc fun p=>?_;rw[Hu hc,List.any_reverse,hi.has,←bD];rw[BP,Ba,Ba];constructor
 ·rintro⟨y,h1,h2⟩;exact⟨y,hp.mem_iff.1 h1,h2⟩
 ·rintro⟨y,h1,h2⟩;exact⟨y,hp.mem_iff.2 h1,h2⟩
-- maps from numbers to numbers,as lists in the order in which they are met
def Ff(m:List (Int×Int))(k:Int):Int:=match m.find? (fun p=>decide (p.1=k))with | some p=>p.2 | none=>0
def Ld(m:List (Int×Int))(k v:Int):List (Int×Int):=if m.any (fun p=>decide (p.1=k))then m.map (fun p=>if p.1=k then(k,v)else p)else m++[(k,v)]
theorem Hc(p:Int×Int)(m:List (Int×Int))(k:Int):Ff (p::m) k=if p.1=k then p.2 else Ff m k:=by
 unfold Ff;rw[EK];by_cases h:p.1=k<;>simp[h]
theorem Ph(m:List (Int×Int))(k v j:Int):Ff (Ld m k v) j=if j=k then v else Ff m j:=by
 unfold Ld;split
 ·rename_i h
  induction m with
  |nil=>simp at h
  |cons p m ih =>
   rw[AH,Hc,Hc]
   by_cases e:p.1=k
   ·rw[Ao e];dsimp only
    by_cases ej:j=k
    ·subst ej;simp
    ·rw[Ah (fun c=>ej c.symm),Ah ej,Ah (fun c=>ej (c.symm.trans e))]
     by_cases hm:(m.any fun p=>decide (p.1=k))=true
     ·rw[ih hm,Ah ej]
     ·have:∀q∈m,q.1≠k:=fun q hq e=>hm (Ba.2 ⟨q,hq,by simp[e]⟩)
      have:m.map (fun p=>if p.1=k then(k,v)else p)=m:=by
       conv=>rhs;rw[←JD m]
       exact A9 fun q hq=>by simp[this q hq]
      rw[this]
   ·rw[Ah e];have hm:(m.any fun p=>decide (p.1=k))=true:=by simpa[e]using h
    rw[ih hm]
    by_cases ej:j=k
    ·subst ej;simp[e]
    ·simp[ej]
 ·rename_i h;have hn:∀q∈m,q.1≠k:=fun q hq e=>h (Ba.2 ⟨q,hq,by simp[e]⟩)
  induction m with
  |nil =>
   rw[EM,Hc]
   by_cases ej:j=k
   ·simp[ej]
   ·have:¬k=j:=fun c=>ej c.symm
    simp[ej,this]
  |cons p m ih =>
   rw[IA,Hc,Hc];have e:=hn p (Ab ..);have ih:=ih (by simpa[e]using h) fun q hq=>hn q (Ag _ hq)
   by_cases ep:p.1=j
   ·have:¬j=k:=fun c=>e (ep.trans c)
    simp[ep,this]
   ·simp only[ep,FX];exact ih
def E0(m:List (Int×Int)):List Int:=m.map (·.1)
theorem U0(m:List (Int×Int))(k v:Int):E0 (Ld m k v)=if k∈E0 m then E0 m else E0 m++[k]:=by
 unfold Ld E0;have e:(m.any fun p=>decide (p.1=k))=decide (k∈m.map (·.1)):=by
  rw[BP];simp only[Ba,As,Aj]
 rw[e]
 by_cases h:k∈m.map (·.1)
 ·simp only[h,decide_true,QE,BB];apply A9;intro p _;simp only[Function.comp];split
  ·rename_i e;exact e.symm
  ·rfl
 ·simp[h]
theorem L8{m:List (Int×Int)}(h:(E0 m).Nodup)(k v:Int):(E0 (Ld m k v)).Nodup:=by
 rw[U0];split
 ·exact h
 ·rename_i hn;rw[Gc];exact⟨h,by simp,fun a ha b hb e=>by subst e;rw[Am.1 hb]at ha;exact hn ha⟩
theorem H1(m:List (Int×Int))(k v j:Int):j∈E0 (Ld m k v)↔j=k∨j∈E0 m:=by
 rw[U0];split
 ·rename_i h;constructor
  ·exact .inr
  ·rintro(rfl | h')
   ·exact h
   ·exact h'
 ·simp[or_comm]
theorem iJ{m:List (Int×Int)}(h:(E0 m).Nodup){p:Int×Int}(hp:p∈m):Ff m p.1=p.2:=by
 induction m with
 |nil=>cases hp
 |cons q m ih =>
  rw[Hc];unfold E0 at h ih;rw[AH,CI]at h;rcases Av.1 hp with rfl | hp
  ·simp
  ·have:¬q.1=p.1:=fun e=>h.1 (e▸Aj.2 ⟨p,hp,rfl⟩)
   rw[Ah this];exact ih h.2 hp
theorem iK{m:List (Int×Int)}{k:Int}(h:k∉E0 m):Ff m k=0:=by
 unfold Ff
 have:m.find? (fun p=>decide (p.1=k))=none:=by
  rw[DQ];intro p hp;simp only[As];exact fun e=>h (Aj.2 ⟨p,hp,e⟩)
 rw[this]
-- counting
def cF(S:Bg)(k:Int):Nat:=S.countP fun x=>decide (x.1=k)
def cT(S:Bg)(k:Int):Nat:=S.countP fun x=>decide (x.2=k)
def lF(S:Bg)(k:Int):Nat:=S.countP fun x=>decide (x.1≤k)
def lT(S:Bg)(k:Int):Nat:=S.countP fun x=>decide (x.2≤k)
theorem IT{α:Type}{p q r:α→Bool}:∀{l:List α},(∀x∈l,(p x=true↔q x=true∨r x=true)∧¬(q x=true∧r x=true))→l.countP p=l.countP q+l.countP r
 | [],_=>rfl
 |x::l,h=>by
  have ih:=IT fun y hy=>h y (Ag _ hy);obtain⟨h1,h2⟩:=h x (Ab ..);rw[IB,IB,IB,ih];cases hp:p x<;>cases hq:q x<;>cases hr:r x<;>simp_all<;>omega
structure Ig(m:List (Int×Int))(S:Bg):Prop where
 nd:(E0 m).Nodup
 val:∀k,Ff m k=(cF S k:Int)-cT S k
 keys:0∈E0 m∧1000000∈E0 m∧∀x∈S,x.1∈E0 m∧x.2∈E0 m
 rng:∀k∈E0 m,0≤k∧k≤1000000
def pO:List (Int×Int):=[(0,0),(1000000,0)]
theorem ju:Ig pO []:=⟨by decide,fun k=>by
  unfold pO;rw[Hc,Hc];simp[Ff,cF,cT],⟨by decide,by decide,fun _ h=>by cases h⟩,fun k hk=>by
  unfold pO E0 at hk;simp at hk;omega⟩
def Yp(m:List (Int×Int))(x:Int×Int):List (Int×Int):=Ld (Ld m x.1 (Ff m x.1+1)) x.2 (Ff (Ld m x.1 (Ff m x.1+1)) x.2-1)
theorem dp{m:List (Int×Int)}{S:Bg}{x:Int×Int}(h:Ig m S)(hx:0≤x.1∧x.1<x.2∧x.2≤1000000):Ig (Yp m x) (S++[x]):=by
 unfold Yp;refine⟨L8 (L8 h.nd _ _) _ _,fun k=>?_,⟨?_,?_,fun y hy=>?_⟩,fun k hk=>?_⟩
 ·rw[Ph,Ph,Ph,h.val,h.val,h.val];unfold cF cT;simp only[List.countP_append,List.countP_singleton,As]
  by_cases e1:k=x.2
  ·subst e1
   have:¬x.2=x.1:=by omega
   have:¬x.1=x.2:=by omega
   simp[*];omega
  ·by_cases e2:k=x.1
   ·subst e2
    have:¬x.2=x.1:=by omega
    have:¬x.1=x.2:=by omega
    simp[*];omega
   ·have a1:¬x.1=k:=fun c=>e2 c.symm;have a2:¬x.2=k:=fun c=>e1 c.symm;simp[e1,e2,a1,a2]
 ·rw[H1,H1];exact .inr (.inr h.keys.1)
 ·rw[H1,H1];exact .inr (.inr h.keys.2.1)
 ·simp only[H1];rcases AU.1 hy with hy | hy
  ·have:=h.keys.2.2 y hy
   exact⟨.inr (.inr this.1),.inr (.inr this.2)⟩
  ·rw[Am.1 hy];exact⟨.inr (.inl rfl),.inl rfl⟩
 ·rw[H1,H1]at hk;rcases hk with rfl | rfl | hk
  ·omega
  ·omega
  ·exact h.rng k hk
def Iw(m:List (Int×Int))(B:List Int):Int:=(B.map (Ff m)).foldl (·+·) 0
theorem Qe(m:List (Int×Int))(B:List Int)(i:Nat)(h:i<B.length):Iw m (B.take (i+1))=Iw m (B.take i)+Ff m B[i]:=by
 unfold Iw;rw[Bq,At h,Ax,Fp];simp only[Option.toList_some,AH,E1,Ef,List.foldl_nil]
structure jd(B:List Int)(m:List (Int×Int)):Prop where
 perm:B.Perm (E0 m)
 srt:B.Pairwise fun a b=>a<b
theorem aU{m:List (Int×Int)}{S:Bg}{B:List Int}(h:Ig m S)(hB:jd B m):∀i (hi:i<B.length),Iw m (B.take (i+1))=(lF S B[i]:Int)-lT S B[i]:=by
 have mem:∀k,k∈E0 m→∃j,∃hj:j<B.length,B[j]=k:=fun k hk=>by
  have:=hB.perm.mem_iff.2 hk
  obtain⟨j,hj,e⟩:=CW.1 this;exact⟨j,hj,e⟩
 have lt:∀i j (hi:i<B.length) (hj:j<B.length),i<j→B[i]<B[j]:=fun i j hi hj Pk=>(AY.1 hB.srt) i j hi hj Pk;intro i
 induction i with
 |zero =>
  intro hi;rw[Qe m B 0 hi,h.val]
  have:Iw m (B.take 0)=0:=by simp[Iw]
  rw[this];have low:∀k∈E0 m,B[0]≤k:=fun k hk=>by
   obtain⟨j,hj,rfl⟩:=mem k hk;cases j with
   |zero=>exact BO _
   |succ j=>have:=lt 0 (j+1) hi hj (by omega);omega
  have e1:lF S B[0]=cF S B[0]:=by
   unfold lF cF;apply Qm;intro x hx
   have:=low _ (h.keys.2.2 x hx).1
   simp only[As];omega
  have e2:lT S B[0]=cT S B[0]:=by
   unfold lT cT;apply Qm;intro x hx
   have:=low _ (h.keys.2.2 x hx).2
   simp only[As];omega
  rw[e1,e2];omega
 |succ i ih =>
  intro hi;rw[Qe m B (i+1) hi,ih (by omega),h.val];have nb:∀k∈E0 m,k≤B[i+1]↔k≤B[i]∨k=B[i+1]:=fun k hk=>by
   obtain⟨j,hj,rfl⟩:=mem k hk;have l0:=lt i (i+1) (by omega) hi (by omega);rcases Nat.lt_trichotomy j (i+1)with c | c | c
   ·have:B[j]≤B[i]:=by
     rcases EF j i with d | d
     ·have:=lt j i hj (by omega) d;omega
     ·have:j=i:=by omega
      subst this;exact BO _
    omega
   ·subst c;omega
   ·have:=lt (i+1) j hi hj c;omega
  have l0:=lt i (i+1) (by omega) hi (by omega);have e1:lF S B[i+1]=lF S B[i]+cF S B[i+1]:=by
   unfold lF cF;apply IT;intro x hx
   have:=nb _ (h.keys.2.2 x hx).1
   simp only[As];omega
  have e2:lT S B[i+1]=lT S B[i]+cT S B[i+1]:=by
   unfold lT cT;apply IT;intro x hx
   have:=nb _ (h.keys.2.2 x hx).2
   simp only[As];omega
  rw[e1,e2];omega
theorem W7{S:Bg}(hS:∀x∈S,x.1<x.2)(p:Int):(lF S p:Int)-lT S p=(S.countP (BH p):Nat):=by
 have:lF S p=S.countP (BH p)+lT S p:=by
  unfold lF lT;apply IT;intro x hx
  have:=hS x hx
  simp only[BH,Af,As];omega
 omega
theorem Oi:∀{l:Bg} {lo:Int} (p:Int),EH lo l→l.countP (BH p)=if l.any (BH p)then 1 else 0
 | [],_,_,_=>rfl
 |y::r,lo,p,⟨h1,h2,h3,h4⟩=>by
  rw[IB,Oi p h4,B8];cases hy:BH p y with
  |false=>rw[LI];simp
  |true =>
   have:=DD.1 hy
   have:r.any (BH p)=false:=by
    rw[AM];intro hr;have:=Mr h4 hr;omega
   simp[this]
theorem LP:∀(l:List Bg) (p:Int),((l.map canon).flatten).countP (BH p)=dB l p
 | [],_=>rfl
 |s::l,p=>by
  rw[AH,Bm,List.countP_append,LP l p,Oi p (Cb s),Kq];unfold dB;rw[IB];omega
def Et(keep:Nat→Bool)(m:List (Int×Int))(B:List Int):Nat→Bg
 |0=>[]
 |i+1=>Et keep m B i++(match B[i]?,B[i+1]? with
  |some a,some b=>if keep (Iw m (B.take (i+1))).toNat then [(a,b)]else []
  |_,_=>[])
theorem PG{keep:Nat→Bool}{m:List (Int×Int)}{B:List Int}{x:Int×Int}:∀{n:Nat},x∈Et keep m B n↔∃i,i<n∧∃(h1:i<B.length) (h2:i+1<B.length),keep (Iw m (B.take (i+1))).toNat=true∧x=(B[i],B[i+1])
 |0=>by simp[Et]
 |n+1=>by
  unfold Et;rw[AU,PG (n:=n)];constructor
  ·rintro(⟨i,h1,h2⟩ | h)
   ·exact⟨i,by omega,h2⟩
   ·split at h
    ·rename_i a b ha hb;obtain⟨h1,e1⟩:=Ap.1 ha;obtain⟨h2,e2⟩:=Ap.1 hb;split at h
     ·rename_i hk;refine⟨n,by omega,h1,h2,hk,?_⟩;rw[Am.1 h,e1,e2]
     ·cases h
    ·cases h
  ·rintro⟨i,h1,h2,h3,h4,rfl⟩
   by_cases e:i=n
   ·subst e;refine .inr ?_;rw[At h2,At h3];simp[h4]
   ·exact .inl ⟨i,by omega,h2,h3,h4,rfl⟩
theorem Oc{B:List Int}(hs:B.Pairwise fun a b=>a<b){p:Int}:∀(n:Nat) (h0:0<B.length) (hn:n<B.length),B[0]≤p→p<B[n]→∃i,∃(h1:i<B.length) (h2:i+1<B.length),B[i]≤p∧p<B[i+1]
 |0,h0,hn,h1,h2=>by omega
 |n+1,h0,hn,h1,h2=>by
  by_cases e:B[n]≤p
  ·exact⟨n,by omega,hn,e,h2⟩
  ·exact Oc hs n h0 (by omega) h1 (by omega)
theorem gj{keep:Nat→Bool}{l:List Bg}{m:List (Int×Int)}{B:List Int}(h:Ig m (l.map canon).flatten)(hB:jd B m)(p:Int):has (Et keep m B (B.length-1)) p=(LD p&&keep (dB l p)):=by
 have hS:∀x∈(l.map canon).flatten,x.1<x.2:=fun x hx=>by
  obtain⟨s,hs,hx⟩:=DY.1 hx;obtain⟨t,_,rfl⟩:=Aj.1 hs;exact((Cb t).low x hx).2.1
 have mem:∀k,k∈E0 m→∃j,∃hj:j<B.length,B[j]=k:=fun k hk=>by
  obtain⟨j,hj,e⟩:=CW.1 (hB.perm.mem_iff.2 hk);exact⟨j,hj,e⟩
 have lt:∀i j (hi:i<B.length) (hj:j<B.length),i<j→B[i]<B[j]:=fun i j hi hj Pk=>(AY.1 hB.srt) i j hi hj Pk;have rng:∀i (hi:i<B.length),0≤B[i]∧B[i]≤1000000:=fun i hi=>h.rng _ (hB.perm.mem_iff.1 (AC hi))
 -- VI two bounds
 have VI:∀i (h1:i<B.length) (h2:i+1<B.length),B[i]≤p→p<B[i+1]→(Iw m (B.take (i+1))).toNat=dB l p:=fun i h1 h2 a b=>by
  have same:∀k∈E0 m,k≤B[i]↔k≤p:=fun k hk=>by
   obtain⟨j,hj,rfl⟩:=mem k hk;constructor
   ·intro c;omega
   ·intro c;rcases EF i j with d | d
    ·rcases EF (i+1) j with f | f
     ·have:=lt (i+1) j h2 hj f;omega
     ·have:j=i+1:=by omega
      subst this;omega
    ·rcases EF j i with f | f
     ·have:=lt j i hj h1 f;omega
     ·have:j=i:=by omega
      subst this;exact BO _
  have e1:lF (l.map canon).flatten B[i]=lF (l.map canon).flatten p:=by
   unfold lF;apply Qm;intro x hx
   have:=same _ (h.keys.2.2 x hx).1
   simp only[As];exact this
  have e2:lT (l.map canon).flatten B[i]=lT (l.map canon).flatten p:=by
   unfold lT;apply Qm;intro x hx
   have:=same _ (h.keys.2.2 x hx).2
   simp only[As];exact this
  rw[aU h hB i h1,e1,e2,W7 hS,LP];simp
 rw[BP];constructor
 ·intro hh;have iW:=L0 hh;unfold has at hh;simp only[iW,decide_true,Ed]at hh;obtain⟨x,hx,hp⟩:=Ba.1 hh;obtain⟨i,_,h1,h2,hk,rfl⟩:=PG.1 hx
  have:=DD.1 hp
  dsimp only at this;rw[←VI i h1 h2 this.1 this.2];simp[LD,iW,hk]
 ·intro hh;simp only[Af,LD,As]at hh;obtain⟨⟨p0,p1⟩,hk⟩:=hh;obtain⟨j0,zQ,e0⟩:=mem 0 h.keys.1;obtain⟨j1,zR,e1⟩:=mem 1000000 h.keys.2.1;have uC:B[0]'(by omega)≤p:=by
   have:B[0]'(by omega)≤0:=by
    cases j0 with
    |zero=>omega
    |succ j=>have:=lt 0 (j+1) (by omega) zQ (by omega);omega
   omega
  obtain⟨i,h1,h2,a,b⟩:=Oc hB.srt j1 (by omega) zR uC (by omega);unfold has;simp only[p0,p1,decide_true,Ed];exact Ba.2 ⟨(B[i],B[i+1]),PG.2 ⟨i,by omega,h1,h2,by rw[VI i h1 h2 a b];exact hk,rfl⟩,DD.2 ⟨a,b⟩⟩
theorem iw{l:List Bg}{m:List (Int×Int)}{B:List Int}(h:Ig m (l.map canon).flatten)(hB:jd B m)(i:Nat)(hi:i<B.length):0≤Iw m (B.take (i+1))∧Iw m (B.take (i+1))≤l.length:=by
 have hS:∀x∈(l.map canon).flatten,x.1<x.2:=fun x hx=>by
  obtain⟨s,hs,hx⟩:=DY.1 hx;obtain⟨t,_,rfl⟩:=Aj.1 hs;exact((Cb t).low x hx).2.1
 rw[aU h hB i hi,W7 hS,LP]
 have:dB l B[i]≤l.length:=List.countP_le_length
 omega
def Wt(m:List Tm)(t:Tm):List Tm:=if m.any (fun u=>decide (u.path=t.path))then m.map (fun u=>if u.path=t.path then t else u)else m++[t]
def QU(m:List Tm)(t:Tm):List Tm:=Wt m (NQ (Db m t.path) t)
def CL(l:List Tm):List Tm:=l.foldl QU []
theorem bP(t:Tm)(p:ByteArray):∀m:List Tm,Db (Wt m t) p=if t.path=p then some t else Db m p:=by
 intro m;unfold Wt
 by_cases h:(m.any fun u=>decide (u.path=t.path))=true
 ·rw[Ao h]
  induction m with
  |nil=>simp at h
  |cons u m ih =>
   rw[AH,Cy,Cy]
   by_cases e:u.path=t.path
   ·rw[Ao e]
    by_cases ep:t.path=p
    ·simp[ep]
    ·rw[Ah ep,Ah ep,Ah (fun c=>ep (e.symm.trans c))]
     by_cases hm:(m.any fun u=>decide (u.path=t.path))=true
     ·rw[ih hm,Ah ep]
     ·have:∀q∈m,q.path≠t.path:=fun q hq c=>hm (Ba.2 ⟨q,hq,by simp[c]⟩)
      have:m.map (fun u=>if u.path=t.path then t else u)=m:=by
       conv=>rhs;rw[←JD m]
       exact A9 fun q hq=>by simp[this q hq]
      rw[this]
   ·rw[Ah e];have hm:(m.any fun u=>decide (u.path=t.path))=true:=by simpa[e]using h
    rw[ih hm]
    by_cases ep:t.path=p
    ·subst ep;simp[e]
    ·simp[ep]
 ·rw[Ah h];have hn:∀q∈m,q.path≠t.path:=fun q hq e=>h (Ba.2 ⟨q,hq,by simp[e]⟩)
  clear h
  induction m with
  |nil=>rw[EM,Cy]
  |cons u m ih =>
   rw[IA,Cy,Cy,ih fun q hq=>hn q (Ag _ hq)]
   have:=hn u (Ab ..)
   by_cases e:u.path=p
   ·have:¬t.path=p:=fun c=>this (e.trans c.symm)
    simp[e,this]
   ·simp[e]
def Ev(m:List Tm):List ByteArray:=m.map (·.path)
open Classical in
theorem Zs(m:List Tm)(t:Tm):Ev (Wt m t)=if t.path∈Ev m then Ev m else Ev m++[t.path]:=by
 unfold Wt Ev;have e:(m.any fun u=>decide (u.path=t.path))=true↔t.path∈m.map (·.path):=by
  simp only[Ba,As,Aj]
 by_cases h:t.path∈m.map (·.path)
 ·rw[Ao (e.2 h),Ao h,BB];apply A9;intro p _;simp only[Function.comp];split
  ·rename_i e;exact e.symm
  ·rfl
 ·rw[Ah (fun c=>h (e.1 c)),Ah h,Ax];rfl
theorem cJ{m:List Tm}(h:(Ev m).Nodup)(t:Tm):(Ev (Wt m t)).Nodup:=by
 rw[Zs];split
 ·exact h
 ·rename_i hn;rw[Gc];exact⟨h,by simp,fun a ha b hb e=>by subst e;rw[Am.1 hb]at ha;exact hn ha⟩
theorem QL(l:List Tm)(i:Nat)(h:i<l.length):CL (l.take (i+1))=QU (CL (l.take i)) l[i]:=by
 unfold CL;rw[Bq,At h,Fp];rfl
theorem Ox:∀(l m:List Tm),(Ev m).Nodup→(Ev (l.foldl QU m)).Nodup
 | [],_,h=>h
 |_::l,_,h=>Ox l _ (cJ h _)
theorem Hz(l:List Tm):(Ev (CL l)).Nodup:=Ox l [] .nil
theorem Xm(m:List Tm)(t:Tm)(p:ByteArray):Db (QU m t) p=JV p (Db m p) t:=by
 unfold QU JV;have hp:(NQ (Db m t.path) t).path=t.path:=PP _ _ fun u h=>GV h;rw[bP,hp]
 by_cases e:t.path=p
 ·rw[Ao e,Ao e,e]
 ·rw[Ah e,Ah e]
theorem Ou(p:ByteArray):∀(l m:List Tm),Db (l.foldl QU m) p=l.foldl (JV p) (Db m p)
 | [],_=>rfl
 |t::l,m=>by rw[Ef,Ef,Ou p l,Xm]
theorem YX(l:List Tm)(p:ByteArray):Db (CL l) p=Db (EX l) p:=by
 unfold CL;rw[Ou,IW];rfl
theorem LV{m:List Tm}(h:(Ev m).Nodup){t:Tm}:t∈m↔Db m t.path=some t:=by
 constructor
 ·induction m with
  |nil=>intro h;cases h
  |cons u m ih =>
   intro ht;unfold Ev at h ih;rw[AH,CI]at h;rw[Cy];rcases Av.1 ht with rfl | ht
   ·rw[Ao rfl]
   ·have:¬u.path=t.path:=fun e=>h.1 (e▸Aj.2 ⟨t,ht,rfl⟩)
    rw[Ah this];exact ih h.2 ht
 ·exact E6
theorem HD{m:List Tm}(h:(Ev m).Nodup):m.Nodup:=by
 unfold Ev at h
 induction m with
 |nil=>exact .nil
 |cons u m ih =>
  rw[AH,CI]at h;exact CI.2 ⟨fun hu=>h.1 (Aj.2 ⟨u,hu,rfl⟩),ih h.2⟩
theorem HM{l:List Tm}{lo:Option ByteArray}(h:B7 lo l):(Ev l).Nodup:=by
 unfold Ev
 induction l generalizing lo with
 |nil=>exact .nil
 |cons t l ih =>
  rw[AH,CI];refine⟨fun hm=>?_,ih h.2.2⟩;obtain⟨u,hu,e⟩:=Aj.1 hm
  have:=h.2.2.low u hu
  rw[e,CZ]at this;cases this
theorem I1(l:List Tm)(t:Tm):t∈CL l↔t∈EX l:=by
 rw[LV (Hz l),YX,←LV (HM (Em l))]
theorem OO(l:List Tm):∀t∈CL l,ED t.set:=fun t ht=>(Em l).canon t ((I1 l t).1 ht)
theorem du(m:List Tm)(t:Tm):(QU m t).length≤m.length+1:=by
 unfold QU Wt;split<;>simp
theorem NM(l:List Tm):∀i,i≤l.length→(CL (l.take i)).length≤i:=by
 intro i
 induction i with
 |zero=>intro _;simp[CL]
 |succ i ih =>
  intro h;rw[QL l i (by omega)]
  have:=du (CL (l.take i)) l[i]
  have:=ih (by omega)
  omega
theorem ZH{s:List Tm}(hs:s.Pairwise fun x y=>Ew x.path y.path=true)(hc:∀t∈s,ED t.set):B7 none s:=by
 have:∀(s:List Tm) (lo:Option ByteArray),s.Pairwise (fun x y=>Ew x.path y.path=true)→(∀t∈s,ED t.set)→(∀p,lo=some p→∀t∈s,Ew p t.path=true)→B7 lo s:=by
  intro s
  induction s with
  |nil=>intro _ _ _ _;trivial
  |cons t s ih =>
   intro lo hs hc hl;obtain⟨h1,h2⟩:=BF.1 hs;exact⟨fun p e=>hl p e t (Ab ..),hc t (Ab ..),ih _ h2 (fun u hu=>hc u (Ag _ hu)) fun p e u hu=>by cases e;exact h1 u hu⟩
 exact this s none hs hc fun _ e=>by cases e
theorem Pu{l s:List Tm}(q:Tm→Bool)(hp:s.Perm ((CL l).filter q))(hs:s.Pairwise fun x y=>Ew y.path x.path=false):s=(EX l).filter q:=by
 have hm:∀t,t∈s↔t∈(EX l).filter q:=fun t=>by
  rw[hp.mem_iff,BC,BC,I1]
 have Rb:(Ev s).Nodup:=by
  have h1:(Ev ((CL l).filter q)).Nodup:=by
   unfold Ev;exact List.Nodup.sublist (List.Sublist.map _ List.filter_sublist) (Hz l)
  unfold Ev at h1⊢;exact(hp.map (·.path)).nodup_iff.2 h1
 have Jf:s.Pairwise fun x y=>Ew x.path y.path=true:=by
  rw[AY]at hs⊢;intro i j hi hj Pk;cases hb:Ew s[i].path s[j].path with
  |true=>rfl
  |false =>
   have e:=Ho hb (hs i j hi hj Pk);unfold Ev at Rb
   have:=(AY.1 Rb) i j (by simpa using hi) (by simpa using hj) Pk
   simp at this;exact absurd e this
 have yd:B7 none s:=ZH Jf fun t ht=>(Em l).canon t (BC.1 ((hm t).1 ht)).1;have iZ:B7 none ((EX l).filter q):=B7.filter q (Em l);refine Mn yd iZ fun p=>?_;cases h1:Db s p with
 |some t =>
  have:=(hm t).1 (E6 h1)
  rw[FB iZ,GV h1]at this;exact this.symm
 |none =>
  cases h2:Db ((EX l).filter q) p with
  |none=>rfl
  |some t =>
   have:=(hm t).2 (E6 h2)
   rw[FB yd,GV h2,h1]at this;cases this
theorem YL(t:Tm):GK t t=Lq t:=by unfold GK Lq;rw[Y9,Bool.and_self]
theorem aN(o:Option Tm)(t:Tm):NQ o t=GK (o.getD t) t:=by cases o with | none=>exact(YL t).symm | some u=>rfl
theorem bo{t:Tm}(h:ED t.set):(t.absent&&(Ej t.set).isEmpty)=Gs t:=by
 unfold Gs
 congr 1
 rw[BP,GI,As];have ha:ED [(0,1000000)]:=⟨BO _,by dsimp only;omega,BO _,trivial⟩;constructor
 ·intro e;refine Hp h ha fun p=>?_
  have:=FC t.set p
  rw[e]at this;have h0:has [] p=false:=by simp[has]
  rw[h0]at this;have h1:has [(0,1000000)] p=LD p:=by simp[has,LD,BH]
  rw[h1];cases hp:LD p with
  |true=>rw[hp]at this;simpa using this.symm
  |false =>
   rw[AM];intro hh
   have:=L0 hh
   simp[LD,this]at hp
 ·intro e;rw[PK (G5 _)];intro p;rw[FC,e];have h1:has [(0,1000000)] p=LD p:=by simp[has,LD,BH]
  rw[h1];simp
theorem gA{t:Tm}(h:ED t.set):(!t.absent&&(canon t.set).isEmpty)=HC t:=by unfold HC;rw[I8 h]
end Go.Eng
namespace Go.Eng
open Go.Lib
theorem Qb(c:UInt8):∀(s:List UInt8) (k:Nat),s.count c≤k→splitK [c] 0 k s=Fl c s
 | [],k,_=>by
  cases k with
  |zero=>rfl
  |succ k=>rfl
 |b::r,k,h=>by
  rw[Fl]
  by_cases e:b=c
  ·subst e;rw[List.count_cons_self]at h;obtain⟨k',rfl⟩:∃k',k=k'+1:=⟨k-1,by omega⟩;rw[Ao rfl,splitK,index_one,indexByte];simp only[beq_self_eq_true,QE];rw[Ah (by decide)];show []::splitK [b] 0 k' r=_;rw[Qb b r k' (by omega)]
  ·have Dr:(b == c)=false:=by simpa using e
   rw[List.count_cons_of_ne (by simpa using e)]at h;have ih:=Qb c r k h;rw[Ah e];cases k with
   |zero =>
    rw[←ih];rfl
   |succ k =>
    rw[←ih,splitK,splitK,index_one,index_one,indexByte,Dr]
    by_cases h0:indexByte r c=-1
    ·rw[h0];rfl
    ·have h1:(indexByte r c == -1)=false:=by simpa using h0
     have h2:=indexByte_ge r c;have h3:(indexByte r c+1 == -1)=false:=by rw[beq_eq_false_iff_ne];omega
     simp only[CJ,FX,h1,h3];obtain⟨i,hi⟩:∃i:Nat,indexByte r c=i:=⟨(indexByte r c).toNat,by omega⟩;rw[hi];show(b::r).take (((i:Int)+1).toNat+0)::_=(b::r.take ((i:Int).toNat+0))::_;rw[show((i:Int)+1).toNat=i+1 by omega,show((i:Nat):Int).toNat=i by omega]
     rfl
theorem W6(c:UInt8):∀(n:Nat) (s:List UInt8),s.length≤n→count s [c]=s.count c
 |n,s,hn=>by
  rcases Int.lt_or_le (indexByte s c) 0 with h | h
  ·have h2:=indexByte_ge s c;have h3:indexByte s c=-1:=by omega
   rw[count_miss (by rw[index_one];exact h3)]
   symm
   rw[List.count_eq_zero];intro hm;obtain⟨k,hk,e⟩:=Fz hm;exact indexByte_none h3 k (by rw[At hk,e])
  ·obtain⟨i,hi⟩:∃i:Nat,indexByte s c=i:=⟨(indexByte s c).toNat,by omega⟩;obtain⟨h1,h2⟩:=indexByte_some hi;obtain⟨hl,hg⟩:=Ap.1 h1;cases n with
   |zero=>omega
   |succ n =>
    have hc:=count_hit (s:=s) (sub:=[c]) (i:=i) (by simp) (by rw[index_one];exact hi);rw[hc];have ih:=W6 c n (s.drop (i+1)) (by rw[Dk];omega);have qY:s=s.take i++c::s.drop (i+1):=by
     rw[←hg,←Bj hl,Ln]
    have h0:(s.take i).count c=0:=by
     rw[List.count_eq_zero];intro hm;obtain⟨k,hk,e⟩:=Fz hm;rw[AD]at hk;rw[HS]at e;exact h2 k (by omega) (by rw[At (by omega),e])
    conv=>rhs;rw[qY]
    rw[List.count_append,h0,List.count_cons_self];show 1+count (s.drop (i+1)) [c]=_;rw[ih];omega
theorem dn(s:ByteArray)(c:UInt8):((splitB ⟨#[c]⟩ 0 (countB s ⟨#[c]⟩) s).map (·.data.toList))=Fl c s.data.toList:=by
 rw[splitB_data];refine Qb c _ _ ?_;show _≤count s.data.toList [c];rw[W6 c _ _ (Al _)];exact Al _
end Go.Eng
namespace Go.Eng
theorem PL{α:Type}:∀{l m:List α},l.Nodup→(∀x∈l,x∈m)→l.length≤m.length
 | [],_,_,_=>AL _
 |a::l,m,hn,hs=>by
  obtain⟨h1,h2⟩:=CI.1 hn;obtain⟨s,t,rfl⟩:=List.append_of_mem (hs a (Ab ..))
  have:l.length≤(s++t).length:=PL h2 fun x hx=>by
   rcases AU.1 (hs x (Ag _ hx))with h | h
   ·exact Bn _ h
   ·rcases Av.1 h with rfl | h
    ·exact absurd hx h1
    ·exact Bf _ h
  simp only[Ad,Au]at this⊢;omega
theorem Ls(p:ByteArray):∀(l:List Tm) (o:Option Tm),(∀u∈l,u.path≠p)→l.foldl (JV p) o=o
 | [],_,_=>rfl
 |t::l,o,h=>by
  rw[Ef,show JV p o t=o by unfold JV;rw[Ah (h t (Ab ..))]];exact Ls p l o fun u hu=>h u (Ag _ hu)
theorem Zh{l:List Tm}{t:Tm}(h:t∈EX l):∃u∈l,u.path=t.path:=by
 apply AW;intro hn
 have:∀u∈l,u.path≠t.path:=fun u hu e=>hn ⟨u,hu,e⟩
 have h1:=(FB (Em l)).1 h;rw[IW,Ls _ _ _ this]at h1;cases h1
def Ul(U:List ByteArray)(t:List Tm):Prop:=B7 none t∧∀u∈t,u.path∈U
theorem Ul.len{U:List ByteArray}{t:List Tm}(h:Ul U t):t.length≤U.length:=by
 have:=PL (HM h.1) (m:=U) fun p hp=>by
  obtain⟨u,hu,rfl⟩:=Aj.1 hp;exact h.2 u hu
 unfold Ev at this
 rwa [A4]at this
theorem YM{l c:List Tm}(h:CE l=some c){t:Tm}(ht:t∈c):t∈EX l:=by
 unfold CE at h;split at h
 ·cases h
 ·cases h;exact(BC.1 ht).1
theorem Pt{U:List ByteArray}{l c:List Tm}(h:CE l=some c)(hu:∀u∈l,u.path∈U):Ul U c :=
 ⟨EO h,fun t ht=>by
  obtain⟨u,h1,h2⟩:=Zh (YM h ht);rw[←h2];exact hu u h1⟩
theorem Ul.nil(U:List ByteArray):Ul U []:=⟨trivial,fun u hu=>by cases hu⟩
theorem Tn{U:List ByteArray}{l:List Tm}(hu:∀u∈l,u.path∈U):Ul U (PM l):=by
 unfold PM;cases h:CE l with
 |none=>exact .nil U
 |some c=>exact Pt h hu
theorem QR{U:List ByteArray}{a b:List Tm}{p:ByteArray}(ha:Ul U a)(hb:Ul U b):Ul U (Bo a b p).1:=by
 have sp:∀{l r:List Tm} {t:Tm},Ul U l→Fm l p=some (t,r)→t.path∈U∧∀u∈r,u.path∈U:=by
  intro l r t hl h;unfold Fm at h;cases e:CE l with
  |none=>rw[e]at h;cases h
  |some c =>
   rw[e]at h;have h:(match Db c p with | none=>none | some t=>some (t,FH c p))=some (t,r):=h;have hc:=Pt e hl.2;cases e2:Db c p with
   |none=>rw[e2]at h;cases h
   |some u =>
    rw[e2]at h;cases h;exact⟨hc.2 _ (E6 e2),fun u hu=>hc.2 u (BC.1 hu).1⟩
 unfold Bo;split
 ·rename_i t r u m e1 e2;obtain⟨a1,a2⟩:=sp ha e1;obtain⟨b1,b2⟩:=sp hb e2;split
  ·rename_i o e3;refine Pt e3 fun v hv=>?_;rcases AU.1 hv with hv | hv
   ·rcases AU.1 hv with hv | hv
    ·exact a2 v hv
    ·exact b2 v hv
   ·rw[Am.1 hv];exact a1
  ·exact .nil U
 ·exact .nil U
def Kd(x:List Rl)(roots:List Rq)(l:List Nf):List ByteArray:=(x.map (·.path))++((x.map (·.reqs)).flatten.map (·.path)++(roots.map (·.path)++l.map (·.path)))
theorem cj{x:List Rl}{roots:List Rq}{l:List Nf}{d:List (List Tm)}{i:Nf}(hi:i∈l)(hd:∀t∈d,Ul (Kd x roots l) t){t:List Tm}(h:DP x roots d i=some t):Ul (Kd x roots l) t:=by
 have hp:i.path∈Kd x roots l:=by
  unfold Kd;exact Bf _ (Bf _ (Bf _ (Aj.2 ⟨i,hi,rfl⟩)))
 have nz:∀{α:Type} {l:List α} {k:Int} {a:α},Jl l k=some a→a∈l:=by
  intro α l k a h;unfold Jl at h;split at h
  ·cases h
  ·exact Ar h
 have n0:∀{a b:List Tm},cB a=some b→b=a:=by
  intro a b h;unfold cB at h;split at h
  ·cases h
  ·cases h;rfl
 unfold DP at h;split at h
 ·split at h
  ·cases e:Jl roots i.number with
   |none=>rw[e]at h;cases h
   |some q =>
    rw[e]at h;cases h;refine Tn fun u hu=>?_;rw[Am.1 hu];unfold Kd;exact Bf _ (Bf _ (Bn _ (Aj.2 ⟨q,nz e,rfl⟩)))
  ·cases h
 split at h
 ·split at h
  ·cases e:OX x i.path i.place with
   |none=>rw[e]at h;cases h
   |some r =>
    rw[e]at h;have h:(match Jl r.reqs i.number with | none=>none | some q=>cB (Ei i.path i.place q))=some t:=h;cases e2:Jl r.reqs i.number with
    |none=>rw[e2]at h;cases h
    |some q =>
     rw[e2]at h;have h:=n0 (show cB (Ei i.path i.place q)=some t from h);subst h;refine Tn fun u hu=>?_;rcases Av.1 hu with rfl | hu
     ·exact hp
     ·rw[Am.1 hu];unfold Kd;refine Bf _ (Bn _ (Aj.2 ⟨q,?_,rfl⟩));exact DY.2 ⟨r.reqs,Aj.2 ⟨r,Ce e,rfl⟩,nz e2⟩
  ·cases h
 split at h
 ·split at h
  ·have h:=n0 h;subst h;refine Tn fun u hu=>?_;rw[Am.1 hu];exact hp
  ·cases h
 split at h
 ·split at h
  ·cases e:Jl d i.left with
   |none=>rw[e]at h;cases h
   |some a =>
    cases e2:Jl d i.right with
    |none=>rw[e,e2]at h;cases h
    |some b =>
     rw[e,e2]at h;have h:(if(Bo a b i.path).2=0 then some (Bo a b i.path).1 else none)=some t:=h;split at h
     ·cases h;exact QR (hd a (nz e)) (hd b (nz e2))
     ·cases h
  ·cases h
 ·cases h
structure Cd where
 place:Int
 rel:Rl
structure Nd where
 rq:Rq
 path:ByteArray
 place:Int
 number:Int
structure SS where
 infs:List Nf
 drv:List (List Tm)
 full:Bool
abbrev SV(c:Cd):Sl:=⟨c.rel.path,c.rel.ver⟩
abbrev AJ(l:List Cd):List Sl:=l.map SV
def BJ(x:List Rl)(p:ByteArray):List Cd:=(x.filter fun r=>decide (r.path=p)&&!r.yanked).map fun r=>⟨plc r.ver,r⟩
def Me(f:Rq→Nat→Nd):Nat→List Rq→List Nd
 |_,[]=>[]
 |i,q::l=>f q i::Me f (i+1) l
def Yn(roots:List Rq):List Nd:=Me (fun q i=>⟨q,mt,0,i⟩) 0 roots
def PR(c:Cd):List Nd:=Me (fun q i=>⟨q,c.rel.path,c.place,i⟩) 0 c.rel.reqs
def Di(roots:List Rq)(dec:List Cd):List Nd:=Yn roots++(dec.map PR).flatten
def CA(dec:List Cd)(p:ByteArray):Bool:=dec.any fun c=>decide (c.rel.path=p)
def Eh(dec:List Cd)(a:ByteArray×List Nd)(n:Nd):ByteArray×List Nd :=
 if CA dec n.rq.path=true∨(a.2≠[]∧Ew a.1 n.rq.path=true)then a
 else if a.2≠[]∧Ew n.rq.path a.1=true then(n.rq.path,[n])else(n.rq.path,a.2++[n])
def Eu(roots:List Rq)(dec:List Cd):ByteArray×List Nd:=(Di roots dec).foldl (Eh dec) (mt,[])
def az(l:List Cd)(n:Nd):Bool:=l.any fun d=>decide (d.rel.path=n.rq.path)&&!has n.rq.set d.place
def D2(dec:List Cd)(c:Cd):Option Nd:=(PR c).find? (az (dec++[c]))
def Ok(s:List Sl):Nat→List (List Tm)→Option Nat
 |_,[]=>none
 |i,t::l=>if Cq t s then some i else Ok s (i+1) l
def Nv(d:List (List Tm))(s:List Sl):Option Nat:=Ok s 0 d
def CR(l:List Tm)(p:ByteArray):Bool:=l.any fun t=>decide (t.path=p)
instance:DecidableEq Nf:=fun a b=>by
 obtain⟨a1,a2,a3,a4,a5,a6⟩:=a;obtain⟨b1,b2,b3,b4,b5,b6⟩:=b;exact decidable_of_iff (a1=b1∧a2=b2∧a3=b3∧a4=b4∧a5=b5∧a6=b6) ⟨fun⟨h1,h2,h3,h4,h5,h6⟩=>by subst h1 h2 h3 h4 h5 h6;rfl,fun h=>by cases h;exact⟨rfl,rfl,rfl,rfl,rfl,rfl⟩⟩
def LG(i:Nf):Nat→List Nf→Option Nat
 |_,[]=>none
 |k,j::l=>if j=i then some k else LG i (k+1) l
def DK(s:SS)(i:Nf)(l:List Tm):Nat×SS :=
 match LG i 0 s.infs with
 |some k=>(k,s)
 |none=>if 65536≤s.infs.length then(s.infs.length-1,⟨s.infs,s.drv,true⟩)else(s.infs.length,⟨s.infs++[i],s.drv++[l],s.full⟩)
def MV(n:Nd):Nf:=if n.path=mt then⟨0,mt,0,n.number,0,0⟩else⟨1,n.path,n.place,n.number,0,0⟩
def Hx(n:Nd):List Tm:=if n.path=mt then Jp n.rq else Ei n.path n.place n.rq
def Bd(s:SS)(n:Nd):Nat×SS:=DK s (MV n) (Hx n)
abbrev Dt(s:SS)(k:Nat):List Tm:=s.drv.getD k []
def B4(p:ByteArray):List Nat→Nat→SS→Nat×SS
 | [],k,s=>(k,s)
 |r::l,k,s =>
  if s.full=true∨CR (Dt s k) p=false then(k,s)
  else if r=k then B4 p l k s
  else if(Bo (Dt s k) (Dt s r) p).2≠0 then B4 p l k s
  else B4 p l (DK s ⟨3,p,0,0,k,r⟩ (Bo (Dt s k) (Dt s r) p).1).1 (DK s ⟨3,p,0,0,k,r⟩ (Bo (Dt s k) (Dt s r) p).1).2
def D4(x:List Rl)(p:ByteArray)(s:SS):Nat×SS:=DK s ⟨2,p,0,0,0,0⟩ (HE p (B1 x p))
def DE(x:List Rl)(p:ByteArray)(n:Nd)(reasons:List Nat)(s:SS):Nat×SS :=
 B4 p ((D4 x p (Bd s n).2).1::reasons) (Bd s n).1 (D4 x p (Bd s n).2).2
structure Jx where
 res:Nat
 found:Bool
 ss:SS
 dec:List Cd
 stack:List (List Sk)
def DB(rec:List Cd→SS→List (List Sk)→Jx)(x:List Rl)(p:ByteArray)(needs:List Nd)(n0:Nd)(dec:List Cd)(stack:List (List Sk)):List Cd→SS→List Nat→List Sk→Jx
 | [],s,reasons,_=>⟨(DE x p n0 reasons s).1,false,(DE x p n0 reasons s).2,dec,stack⟩
 |c::cs,s,reasons,skips =>
  let after (k:Nat) (s:SS):Jx:=if CR (Dt s k) p=false then⟨k,false,s,dec,stack⟩else DB rec x p needs n0 dec stack cs s (reasons++[k]) (skips++[⟨p,c.place,k⟩])
  if s.full=true then⟨0,false,s,dec,stack⟩
  else match needs.find? fun n=>!has n.rq.set c.place with
   |some n=>DB rec x p needs n0 dec stack cs (Bd s n).2 (reasons++[(Bd s n).1]) skips
   |none=>match Nv s.drv (AJ (dec++[c]))with
    |some k=>after k s
    |none=>match D2 dec c with
     |some n=>after (Bd s n).1 (Bd s n).2
     |none =>
      let o:=rec (dec++[c]) s (stack++[skips])
      if o.found=true then⟨0,true,o.ss,o.dec,o.stack⟩
      else if o.ss.full=true then⟨0,false,o.ss,dec,stack⟩
      else after o.res o.ss
def Cz(x:List Rl)(roots:List Rq):Nat→List Cd→SS→List (List Sk)→Jx
 |0,dec,s,stack=>⟨0,false,s,dec,stack⟩
 |n+1,dec,s,stack=>match(Eu roots dec).2 with
  | []=>⟨0,true,s,dec,stack⟩
  |n0::l=>DB (Cz x roots n) x (Eu roots dec).1 (n0::l) n0 dec stack (BJ x (Eu roots dec).1) s [] []
abbrev rT:SS:=⟨[],[],false⟩
def FN(x:List Rl)(dec:List Cd):Nat:=(x.filter fun r=>!r.yanked&&!CA dec r.path).length
def DL(x:List Rl)(roots:List Rq):Jx:=Cz x roots (x.length+1) [] rT []
theorem OU(f:Rq→Nat→Nd):∀(l:List Rq) (i k:Nat),(Me f i l)[k]?=(l[k]?).map fun q=>f q (i+k)
 | [],i,k=>by simp[Me]
 |q::l,i,0=>by simp[Me]
 |q::l,i,k+1=>by
  have h:=OU f l (i+1) k;simp only[Me,GH,h];rw[show i+1+k=i+(k+1) by omega]
theorem KE(f:Rq→Nat→Nd):∀(l:List Rq) (i:Nat),(Me f i l).length=l.length
 | [],_=>rfl
 |_::l,i=>by simp[Me,KE f l (i+1)]
theorem X4{f:Rq→Nat→Nd}{l:List Rq}{n:Nd}(h:n∈Me f 0 l):∃k q,l[k]?=some q∧n=f q k:=by
 obtain⟨k,hk⟩:=B5.1 h;rw[OU,AS]at hk;obtain⟨q,h1,h2⟩:=hk;exact⟨k,q,h1,by rw[←h2,Be]⟩
theorem Rw{f:Rq→Nat→Nd}(hf:∀q i,(f q i).rq=q):∀(l:List Rq) (i:Nat),(Me f i l).map (·.rq)=l
 | [],_=>rfl
 |q::l,i=>by simp[Me,hf,Rw hf l (i+1)]
abbrev HH(roots:List Rq)(dec:List Cd):List Rq:=roots++(dec.map fun c=>c.rel.reqs).flatten
theorem MH(roots:List Rq)(dec:List Cd):(Di roots dec).map (·.rq)=HH roots dec:=by
 unfold Di Yn;rw[Ax,Rw (fun _ _=>rfl),RI,BB]
 congr 2
 exact A9 fun c _=>Rw (fun _ _=>rfl) _ _
theorem FR(dec:List Cd)(p:ByteArray):Cu (AJ dec) p=CA dec p:=by
 unfold Cu CA AJ;rw[List.any_map];rfl
theorem Jk(before:List Sl):∀{l:List Rq} {a p:ByteArray},Dj before l (some a)=some p→p=a∨Ew p a=true
 | [],a,p,h=>by cases h;exact .inl rfl
 |q::l,a,p,h=>by
  unfold Dj at h;split at h
  ·exact Jk before h
  ·dsimp only at h;split at h
   ·rename_i hb;rcases Jk before h with e | e
    ·exact .inr (by rw[e];exact hb)
    ·exact .inr (DR e hb)
   ·exact Jk before h
theorem It(before:List Sl):∀{l:List Rq} {a:ByteArray},Dj before l (some a)≠none
 | [],a=>by simp[Dj]
 |q::l,a=>by
  unfold Dj;split
  ·exact It before
  ·dsimp only;split<;>exact It before
theorem Ot{n:Nd}{p:ByteArray}(e:n.rq.path≠p)(L:List Nd):((n::L).filter fun n=>decide (n.rq.path=p))=L.filter fun n=>decide (n.rq.path=p):=by rw[BN,Ah (by simpa using e)]
theorem VU{n:Nd}{p:ByteArray}(e:n.rq.path=p)(L:List Nd):((n::L).filter fun n=>decide (n.rq.path=p))=n::L.filter fun n=>decide (n.rq.path=p):=by rw[BN,Ao (by simpa using e)]
theorem MJ(dec:List Cd):∀(L:List Nd) (a:ByteArray×List Nd),(a.2≠[]→CA dec a.1=false) →
  L.foldl (Eh dec) a=match Dj (AJ dec) (L.map (·.rq)) (if a.2=[]then none else some a.1)with
   |none=>a
   |some p=>(p,(if a.2≠[]∧a.1=p then a.2 else [])++L.filter fun n=>decide (n.rq.path=p))
 | [],a,h=>by
  obtain⟨p,o⟩:=a;cases o with
  |nil=>simp[Dj]
  |cons n o=>simp[Dj]
 |n::L,a,h=>by
  obtain⟨p0,o⟩:=a;rw[Ef,AH];have qZ:∀(acc:Option ByteArray) (l:List Rq),(∀p,acc=some p→CA dec p=false)→∀p,Dj (AJ dec) l acc=some p→CA dec p=false:=fun acc l ha p hp=>by
   have:=((JS (AJ dec) (l:=l) (acc:=acc) (fun p e=>by rw[FR];exact ha p e)).1 p hp).1
   rw[FR]at this;exact this
  cases hd:CA dec n.rq.path with
  |true =>
   have e1:Eh dec (p0,o) n=(p0,o):=by unfold Eh;rw[Ao (.inl hd)]
   have e2:Dj (AJ dec) (n.rq::L.map (·.rq)) (if o=[]then none else some p0)=Dj (AJ dec) (L.map (·.rq)) (if o=[]then none else some p0):=by
    conv=>lhs;unfold Dj
    rw[Ao (by rw[FR];exact hd)]
   rw[e1,e2,MJ dec L (p0,o) h];dsimp only;cases hg:Dj (AJ dec) (L.map (·.rq)) (if o=[]then none else some p0)with
   |none=>rfl
   |some p =>
    dsimp only;have hp:=qZ _ _ (fun q e=>by
     split at e
     ·cases e
     ·rename_i ho;cases e;exact h ho) p hg
    have Dr:n.rq.path≠p:=fun e=>by rw[e,hp]at hd;cases hd
    rw[Ot Dr]
  |false =>
   have Rb:Cu (AJ dec) n.rq.path=false:=by rw[FR];exact hd
   by_cases ho:o=[]
   ·subst ho;have e1:Eh dec (p0,[]) n=(n.rq.path,[n]):=by
     unfold Eh;rw[Ah (by simp[hd]),Ah (by simp)];rfl
    have e2:Dj (AJ dec) (n.rq::L.map (·.rq)) none=Dj (AJ dec) (L.map (·.rq)) (some n.rq.path):=by
     conv=>lhs;unfold Dj
     rw[Ah (by rw[Rb];decide)]
    rw[e1,MJ dec L (n.rq.path,[n]) (fun _=>hd),Ao rfl,e2];rw[Ah (by simp)];cases hg:Dj (AJ dec) (L.map (·.rq)) (some n.rq.path)with
    |none=>exact absurd hg (It _)
    |some p =>
     dsimp only;rw[Ah (show ¬(([]:List Nd)≠[]∧p0=p)from fun h=>h.1 rfl)]
     by_cases e:n.rq.path=p
     ·rw[VU e,Ao ⟨by simp,e⟩];rfl
     ·rw[Ot e,Ah (fun h=>e h.2)]
   ·have xT:(if o=[]then none else some p0)=some p0:=Ah ho;rw[xT];cases hb:Ew p0 n.rq.path with
    |true =>
     have e1:Eh dec (p0,o) n=(p0,o):=by unfold Eh;rw[Ao (.inr ⟨ho,hb⟩)]
     have SE:Ew n.rq.path p0=false:=Mt hb;have e2:Dj (AJ dec) (n.rq::L.map (·.rq)) (some p0)=Dj (AJ dec) (L.map (·.rq)) (some p0):=by
      conv=>lhs;unfold Dj
      rw[Ah (by rw[Rb];decide)];dsimp only;rw[Ah (by rw[SE];decide)]
     rw[e1,e2,MJ dec L (p0,o) h];dsimp only;rw[xT];cases hg:Dj (AJ dec) (L.map (·.rq)) (some p0)with
     |none=>rfl
     |some p =>
      dsimp only;have Dr:n.rq.path≠p:=fun e=>by
       rcases Jk _ hg with e3 | e3
       ·rw[e,e3,CZ]at hb;cases hb
       ·rw[e,Mt e3]at hb;cases hb
      rw[Ot Dr]
    |false =>
     cases SE:Ew n.rq.path p0 with
     |true =>
      have e1:Eh dec (p0,o) n=(n.rq.path,[n]):=by
       unfold Eh;rw[Ah (by simp[hd,hb]),Ao ⟨ho,SE⟩]
      have e2:Dj (AJ dec) (n.rq::L.map (·.rq)) (some p0)=Dj (AJ dec) (L.map (·.rq)) (some n.rq.path):=by
       conv=>lhs;unfold Dj
       rw[Ah (by rw[Rb];decide)];dsimp only;rw[Ao SE]
      rw[e1,e2,MJ dec L (n.rq.path,[n]) (fun _=>hd),Ah (by simp)];cases hg:Dj (AJ dec) (L.map (·.rq)) (some n.rq.path)with
      |none=>exact absurd hg (It _)
      |some p =>
       dsimp only;have Dr:p0≠p:=fun e=>by
        rcases Jk _ hg with e3 | e3
        ·rw[e,e3,CZ]at SE;cases SE
        ·rw[e]at SE;rw[Mt e3]at SE;cases SE
       rw[Ah (show ¬(o≠[]∧p0=p)from fun h=>Dr h.2)]
       by_cases e:n.rq.path=p
       ·rw[VU e,Ao ⟨by simp,e⟩];rfl
       ·rw[Ot e,Ah (fun h=>e h.2)]
     |false =>
      have e0:n.rq.path=p0:=Ho SE hb;have e1:Eh dec (p0,o) n=(p0,o++[n]):=by
       unfold Eh;rw[Ah (by simp[hd,hb]),Ah (by simp[SE]),e0]
      have e2:Dj (AJ dec) (n.rq::L.map (·.rq)) (some p0)=Dj (AJ dec) (L.map (·.rq)) (some p0):=by
       conv=>lhs;unfold Dj
       rw[Ah (by rw[Rb];decide)];dsimp only;rw[Ah (by rw[SE];decide)]
      rw[e1,e2,MJ dec L (p0,o++[n]) (fun _=>by rw[←e0];exact hd),Ah (by simp)];cases hg:Dj (AJ dec) (L.map (·.rq)) (some p0)with
      |none=>exact absurd hg (It _)
      |some p =>
       dsimp only
       by_cases e:p0=p
       ·rw[VU (e0.trans e),Ao ⟨by simp,e⟩,Ao ⟨ho,e⟩,BI];rfl
       ·rw[Ot (fun h=>e (e0.symm.trans h)),Ah (fun h=>e h.2),Ah (fun h=>e h.2)]
theorem Tf(roots:List Rq)(dec:List Cd):Eu roots dec=match KC (HH roots dec) (AJ dec)with
  |none=>(mt,[])
  |some p=>(p,(Di roots dec).filter fun n=>decide (n.rq.path=p)):=by
 unfold Eu KC;rw[MJ dec _ (mt,[]) (fun h=>absurd rfl h),Ao rfl,MH];cases Dj (AJ dec) (HH roots dec) none with
 |none=>rfl
 |some p=>dsimp only;rw[Ah (by simp)];rfl
theorem Tg{roots:List Rq}{dec:List Cd}:(Eu roots dec).2=[]↔KC (HH roots dec) (AJ dec)=none:=by
 rw[Tf];cases h:KC (HH roots dec) (AJ dec)with
 |none=>simp
 |some p =>
  simp only[reduceCtorEq,iff_false];obtain⟨_,q,hq,e⟩:=Th h;rw[←MH]at hq;obtain⟨n,hn,rfl⟩:=Aj.1 hq;exact List.ne_nil_of_mem (BC.2 ⟨hn,by simpa using e⟩)
structure oO(roots:List Rq)(dec:List Cd)(p:ByteArray)(l:List Nd):Prop where
 next:KC (HH roots dec) (AJ dec)=some p
 undone:CA dec p=false
 mem:∀n,n∈l↔n∈Di roots dec∧n.rq.path=p
theorem La{roots:List Rq}{dec:List Cd}{n0:Nd}{l:List Nd}(h:(Eu roots dec).2=n0::l):oO roots dec (Eu roots dec).1 (n0::l):=by
 rw[←h];rw[Tf]at *
 cases hp:KC (HH roots dec) (AJ dec)with
 |none=>rw[hp]at h;cases h
 |some p =>
  dsimp only;refine⟨hp,by rw[←FR];exact(Th hp).1,fun n=>?_⟩;rw[BC];simp
theorem KT{x:List Rl}{p:ByteArray}{c:Cd}:c∈BJ x p↔∃r∈x,r.path=p∧r.yanked=false∧c=⟨plc r.ver,r⟩:=by
 unfold BJ;simp only[Aj,BC,Af,As,CG];constructor
 ·rintro⟨r,⟨h1,h2,h3⟩,rfl⟩;exact⟨r,h1,h2,h3,rfl⟩
 ·rintro⟨r,h1,h2,h3,rfl⟩;exact⟨r,⟨h1,h2,h3⟩,rfl⟩
theorem MO{i:Nf}:∀{l:List Nf} {k m:Nat},LG i k l=some m→∃j,m=k+j∧l[j]?=some i
 | [],_,_,h=>by cases h
 |y::l,k,m,h=>by
  unfold LG at h;split at h
  ·rename_i e;cases h;exact⟨0,rfl,by rw[←e];rfl⟩
  ·obtain⟨j,h1,h2⟩:=MO h;exact⟨j+1,by omega,h2⟩
theorem PO{i:Nf}:∀{l:List Nf} {k:Nat},LG i k l=none→i∉l
 | [],_,_=>by simp
 |y::l,k,h=>by
  unfold LG at h;split at h
  ·cases h
  ·rename_i e
   have:=PO h
   simp only[Av,not_or];exact⟨fun e'=>e e'.symm,this⟩
theorem QN{α:Type}{d d' : List α}{i:Int}{a:α}(h:Jl d i=some a)(hp:d <+: d'):Jl d' i=some a:=by
 unfold Jl at *
 split at h
 ·cases h
 ·rename_i hi;rw[Ah hi];obtain⟨t,rfl⟩:=hp;rw[AX (Ap.1 h).1];exact h
theorem XL{x:List Rl}{roots:List Rq}{d d' : List (List Tm)}{i:Nf}{o:List Tm}(h:DP x roots d i=some o)(hp:d <+: d'):DP x roots d' i=some o:=by
 unfold DP at *
 split
 ·rename_i e;rw[Ao e]at h;exact h
 rename_i e0;rw[Ah e0]at h;split
 ·rename_i e;rw[Ao e]at h;exact h
 rename_i e1;rw[Ah e1]at h;split
 ·rename_i e;rw[Ao e]at h;exact h
 rename_i e2;rw[Ah e2]at h;split
 ·rename_i e;rw[Ao e]at h;split
  ·rename_i e4;rw[Ao e4]at h;cases ha:Jl d i.left with
   |none=>rw[ha]at h;cases h
   |some a =>
    cases hb:Jl d i.right with
    |none=>rw[ha,hb]at h;cases h
    |some b =>
     rw[ha,hb]at h;rw[QN ha hp,QN hb hp];exact h
  ·rename_i e4;rw[Ah e4]at h;cases h
 ·rename_i e;rw[Ah e]at h;cases h
structure Fo(x:List Rl)(roots:List Rq)(s:SS):Prop where
 der:CX x roots s.infs []=some s.drv
 len:s.infs.length≤65536
theorem Fo.dlen{x:List Rl}{roots:List Rq}{s:SS}(h:Fo x roots s):s.drv.length=s.infs.length:=by simpa using IU h.der
theorem Fo.nil(x:List Rl)(roots:List Rq):Fo x roots rT:=⟨rfl,by simp⟩
theorem Fo.at{x:List Rl}{roots:List Rq}{s:SS}(h:Fo x roots s){k:Nat}{i:Nf}(hk:s.infs[k]?=some i):DP x roots s.drv i=some (s.drv.getD k []):=by
 have h1:=M1 h.der (k+1);have h0:=M1 h.der k;have Dz:=(Ap.1 hk).1;rw[Bq,hk,GP,h0]at h1;have h1:CX x roots [i] (s.drv.take k)=some (s.drv.take (k+1)):=h1;unfold CX at h1;cases hi:DP x roots (s.drv.take k) i with
 |none=>rw[hi]at h1;cases h1
 |some t =>
  rw[hi]at h1;have h1:some (s.drv.take k++[t])=some (s.drv.take (k+1)):=h1;have hd:k<s.drv.length:=by rw[h.dlen];exact Dz
  have:t=s.drv[k]:=by
   have h2:=Cs h1;rw[Kk hd]at h2;exact List.singleton_inj.1 (List.append_cancel_left h2)
  rw[XL hi (List.take_prefix ..),this];simp[List.getD_eq_getElem?_getD,hd]
structure Grow(s s' : SS):Prop where
 pre:s.drv <+: s'.drv
 preI:s.infs <+: s'.infs
 full:s.full=true→s'.full=true
theorem Grow.refl(s:SS):Grow s s:=⟨MR,MR,id⟩
theorem Grow.trans{a b c:SS}(h:Grow a b)(k:Grow b c):Grow a c:=⟨h.pre.trans k.pre,h.preI.trans k.preI,fun e=>k.full (h.full e)⟩
theorem Grow.at{s s' : SS}(h:Grow s s'){k:Nat}(hk:k<s.drv.length):Dt s' k=Dt s k:=by
 obtain⟨t,e⟩:=h.pre;unfold Dt;rw[←e,BR,BR,AX hk]
theorem Grow.len{s s' : SS}(h:Grow s s'):s.drv.length≤s'.drv.length:=h.pre.length_le
theorem Ko(s:SS)(i:Nf)(l:List Tm):Grow s (DK s i l).2:=by
 unfold DK;split
 ·exact .refl s
 ·split
  ·exact⟨MR,MR,fun _=>rfl⟩
  ·exact⟨Jw ..,Jw ..,id⟩
theorem Kn{x:List Rl}{roots:List Rq}{s:SS}(h:Fo x roots s){i:Nf}{l:List Tm}(hi:DP x roots s.drv i=some l) :
  Fo x roots (DK s i l).2∧(DK s i l).1<(DK s i l).2.drv.length∧((DK s i l).2.full=false→Dt (DK s i l).2 (DK s i l).1=l):=by
 have hdl:=h.dlen;unfold DK;split
 ·rename_i k hk;obtain⟨j,e,hj⟩:=MO hk
  have:k=j:=by omega
  subst this;have Dz:=(Ap.1 hj).1;refine⟨h,by show k<s.drv.length;omega,fun _=>?_⟩
  have:=h.at hj
  rw[hi]at this;exact(Cs this).symm
 ·rename_i hk;split
  ·rename_i hf;exact⟨⟨h.der,h.len⟩,by show s.infs.length-1<s.drv.length;omega,fun e=>by cases e⟩
  ·rename_i hf;refine⟨⟨?_,by show(s.infs++[i]).length≤65536;rw[Ad];simp;omega⟩,by show s.infs.length<(s.drv++[l]).length;rw[Ad];simp;omega,fun _=>?_⟩
   ·show CX x roots (s.infs++[i]) []=some (s.drv++[l]);rw[GP,h.der];show CX x roots [i] s.drv=_;unfold CX;rw[hi];rfl
   ·show(s.drv++[l]).getD s.infs.length []=l;rw[←hdl];simp[List.getD_eq_getElem?_getD]
theorem YE(s:SS)(i:Nf)(l:List Tm):(DK s i l).2.infs.length≤s.infs.length+1:=by
 unfold DK;split
 ·simp
 ·split<;>simp
theorem WU{s:SS}(i:Nf)(l:List Tm)(hf:s.full=false)(hc:s.infs.length<65536):(DK s i l).2.full=false:=by
 unfold DK;split
 ·exact hf
 ·split
  ·omega
  ·exact hf
theorem Si(S:List Sl):∀{l:List (List Tm)} {i k:Nat},Ok S i l=some k→∃j,k=i+j∧∃t,l[j]?=some t∧Cq t S=true
 | [],_,_,h=>by cases h
 |t::l,i,k,h=>by
  unfold Ok at h;split at h
  ·rename_i e;cases h;exact⟨0,rfl,t,rfl,e⟩
  ·obtain⟨j,h1,t',h2,h3⟩:=Si S h;exact⟨j+1,by omega,t',h2,h3⟩
theorem Kt{d:List (List Tm)}{S:List Sl}{k:Nat}(h:Nv d S=some k):k<d.length∧Cq (d.getD k []) S=true:=by
 obtain⟨j,h1,t,h2,h3⟩:=Si S h
 have:k=j:=by omega
 subst this;refine⟨(Ap.1 h2).1,?_⟩;rw[BR,h2];exact h3
end Go.Eng
