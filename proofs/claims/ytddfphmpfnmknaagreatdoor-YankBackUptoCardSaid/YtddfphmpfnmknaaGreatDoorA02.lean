/- Lemmas for the claims of this seat, without a condition: part 2 (P8, P9, P10, P11, P12, P13, P14, Q1, Q2). -/
import Derived.Test.YtddfphmpfnmknaaGreatDoorA01
import Derived.Lib.SplitLaws
import Derived.Lib.IndexBytes
namespace Go.Eng
def CE(l:Bh):Bh:=(l.map Ha).filter fun x=>decide (x.1<x.2)
theorem NV(a b:Bh):CE (a++b)=CE a++CE b:=by unfold CE;rw[Az,De]
theorem Uh{l:Bh}{x:Int×Int}(h:x∈CE l):0≤x.1∧x.1<x.2∧x.2≤1000000:=by
 unfold CE at h;rw[BH,Ak]at h;obtain⟨⟨y,_,rfl⟩,h2⟩:=h;have h2:=Ba h2;refine⟨?_,h2,?_⟩<;>simp only[Ha]<;>omega
theorem aH(l:Bh)(p:Int):(CE l).any (BE p)=has l p:=by
 rw[←Kh]
 induction l with
 |nil=>rfl
 |cons x r ih =>
  have e:CE (x::r)=(if(Ha x).1<(Ha x).2 then [Ha x]else [])++CE r:=by
   unfold CE;rw[AK,CT]
   by_cases h:(Ha x).1<(Ha x).2<;>simp[h]
  have ec:canon (x::r)=if(Ha x).1<(Ha x).2 then Va (Ha x) (canon r)else canon r:=rfl
  rw[e,He,ih,ec]
  by_cases h:(Ha x).1<(Ha x).2
  ·rw[Aq h,Aq h,NN _ p (B9 r) h];simp
  ·rw[Ai h,Ai h];simp
theorem M6:∀{l:Bh} {lo:Int},EC lo l↔(∀y∈l,lo≤y.1∧y.1<y.2∧y.2≤1000000)∧l.Pairwise fun a b=>a.2<b.1
 | [],lo=>by simp[EC]
 |y::r,lo=>by
  rw[BD];constructor
  ·intro h;have hl:=h.low;refine⟨hl,fun z hz=>?_,((M6 (l:=r)).1 h.2.2.2).2⟩
   have:=h.2.2.2.low z hz;omega
  ·intro⟨h1,h2,h3⟩;have hy:=h1 y (Ab ..);refine⟨hy.1,hy.2.1,hy.2.2,M6.2 ⟨fun z hz=>?_,h3⟩⟩
   have:=h1 z (Ah _ hz)
   have:=h2 z hz
   omega
def KA(r:Bh)(x:Int×Int):Bh:=match r with
 | []=>[x]
 |y::t=>if x.1≤y.2 then(y.1,max y.2 x.2)::t else x::y::t
def By(s:Bh):Bh:=s.foldl KA []
theorem Ga(s:Bh)(i:Nat)(h:i<s.length):By (s.take (i+1))=KA (By (s.take i)) s[i]:=by
 unfold By;rw[Bi,As h,Fi];rfl
theorem cz(r:Bh)(x:Int×Int):(KA r x).length≤r.length+1∧r.length≤(KA r x).length∧0<(KA r x).length:=by
 unfold KA;split
 ·simp
 ·split<;>simp
theorem SI(s:Bh):∀i,i≤s.length→(By (s.take i)).length≤i∧(0<i→0<(By (s.take i)).length):=by
 intro i
 induction i with
 |zero=>intro _;simp[By]
 |succ i ih =>
  intro h;rw[Ga s i (by omega)]
  have:=cz (By (s.take i)) s[i]
  have:=ih (by omega)
  omega
structure lz(r done:Bh):Prop where
 ok:∀y∈r,0≤y.1∧y.1<y.2∧y.2≤1000000
 pw:r.Pairwise fun a b=>b.2<a.1
 has:∀p,r.any (BE p)=done.any (BE p)
 first:∀y t,r=y::t→∃x∈done,y.1=x.1
theorem cy{r done:Bh}{x:Int×Int}(h:lz r done)(hx:0≤x.1∧x.1<x.2∧x.2≤1000000)(hs:∀y∈done,y.1≤x.1):lz (KA r x) (done++[x]):=by
 unfold KA;split
 ·refine⟨fun y hy=>?_,by simp,fun p=>?_,fun y t e=>?_⟩
  ·rw[Am.1 hy];exact hx
  ·rw[He,←h.has];rfl
  ·cases e;exact⟨x,by simp,rfl⟩
 ·rename_i y t;have hy:=h.ok y (Ab ..);obtain⟨xF,zV⟩:=BD.1 h.pw;obtain⟨z,hz,e⟩:=h.first y t rfl
  have oh:=hs z hz;split
  ·rename_i Hb;refine⟨fun u hu=>?_,BD.2 ⟨xF,zV⟩,fun p=>?_,fun u t' e'=>?_⟩
   ·rcases Av.1 hu with rfl | hu
    ·exact⟨hy.1,by dsimp only;omega,by dsimp only;omega⟩
    ·exact h.ok u (Ah _ hu)
   ·rw[He,←h.has,B4,B4,B4,List.any_nil,Bool.or_false]
    have:BE p (y.1,max y.2 x.2)=(BE p y||BE p x):=by
     simp only[BE];rw[BN];simp only[Ae,Ci,Au];omega
    rw[this];cases BE p y<;>cases BE p x<;>cases t.any (BE p)<;>rfl
   ·cases e';exact⟨z,Bn _ hz,e⟩
  ·rename_i Hb;refine⟨fun u hu=>?_,BD.2 ⟨fun u hu=>?_,h.pw⟩,fun p=>?_,fun u t' e'=>?_⟩
   ·rcases Av.1 hu with rfl | hu
    ·exact hx
    ·exact h.ok u hu
   ·rcases Av.1 hu with rfl | hu
    ·omega
    ·have:=xF u hu;omega
   ·rw[He,←h.has,B4,B4,B4,List.any_nil,Bool.or_false];cases BE p y<;>cases BE p x<;>cases t.any (BE p)<;>rfl
   ·cases e';exact⟨x,by simp,rfl⟩
theorem YI{s:Bh}(Gl:∀y∈s,0≤y.1∧y.1<y.2∧y.2≤1000000)(hs:s.Pairwise fun a b=>a.1≤b.1):∀i,i≤s.length→lz (By (s.take i)) (s.take i):=by
 intro i
 induction i with
 |zero=>intro _;exact⟨fun _ h=>by simp[By]at h,by simp[By],fun p=>by simp[By],fun y t e=>by simp[By]at e⟩
 |succ i ih =>
  intro h;have hi:i<s.length:=by omega
  rw[Ga s i hi];have e:s.take (i+1)=s.take i++[s[i]]:=by rw[Bi,As hi];rfl
  rw[e];refine cy (ih (by omega)) (Gl _ (Ax hi)) fun y hy=>?_;obtain⟨j,hj,rfl⟩:=CW.1 hy;rw[HJ];rw[AE]at hj;exact(AY.1 hs) j i (by omega) hi (by omega)
theorem QB{l s:Bh}(hp:s.Perm (CE l))(hs:s.Pairwise fun a b=>a.1≤b.1):(By s).reverse=canon l:=by
 have hi:=YI (s:=s) (fun y hy=>Uh (hp.mem_iff.1 hy)) hs s.length (Al _);rw[DU]at hi;have hc:Ew (By s).reverse:=by
  unfold Ew;rw[M6];refine⟨fun y hy=>hi.ok y (List.mem_reverse.1 hy),?_⟩;rw[List.pairwise_reverse];exact hi.pw
 refine RD hc fun p=>?_;rw[Hp hc,List.any_reverse,hi.has,←aH];rw[BN,Bd,Bd];constructor
 ·rintro⟨y,h1,h2⟩;exact⟨y,hp.mem_iff.1 h1,h2⟩
 ·rintro⟨y,h1,h2⟩;exact⟨y,hp.mem_iff.2 h1,h2⟩
-- maps from numbers to numbers,as lists in the order in which they are met
def E8(m:List (Int×Int))(k:Int):Int:=match m.find? (fun p=>decide (p.1=k))with | some p=>p.2 | none=>0
def KY(m:List (Int×Int))(k v:Int):List (Int×Int):=if m.any (fun p=>decide (p.1=k))then m.map (fun p=>if p.1=k then(k,v)else p)else m++[(k,v)]
theorem G5(p:Int×Int)(m:List (Int×Int))(k:Int):E8 (p::m) k=if p.1=k then p.2 else E8 m k:=by
 unfold E8;rw[EE];by_cases h:p.1=k<;>simp[h]
theorem OP(m:List (Int×Int))(k v j:Int):E8 (KY m k v) j=if j=k then v else E8 m j:=by
 unfold KY;split
 ·rename_i h
  induction m with
  |nil=>simp at h
  |cons p m ih =>
   rw[AK,G5,G5]
   by_cases e:p.1=k
   ·rw[Aq e];dsimp only
    by_cases ej:j=k
    ·subst ej;simp
    ·rw[Ai (fun c=>ej c.symm),Ai ej,Ai (fun c=>ej (c.symm.trans e))]
     by_cases hm:(m.any fun p=>decide (p.1=k))=true
     ·rw[ih hm,Ai ej]
     ·have:∀q∈m,q.1≠k:=fun q hq e=>hm (Bd.2 ⟨q,hq,by simp[e]⟩)
      have:m.map (fun p=>if p.1=k then(k,v)else p)=m:=by
       conv=>rhs;rw[←Ie m]
       exact A8 fun q hq=>by simp[this q hq]
      rw[this]
   ·rw[Ai e];have hm:(m.any fun p=>decide (p.1=k))=true:=by simpa[e]using h
    rw[ih hm]
    by_cases ej:j=k
    ·subst ej;simp[e]
    ·simp[ej]
 ·rename_i h;have hn:∀q∈m,q.1≠k:=fun q hq e=>h (Bd.2 ⟨q,hq,by simp[e]⟩)
  induction m with
  |nil =>
   rw[Fp,G5]
   by_cases ej:j=k
   ·simp[ej]
   ·have:¬k=j:=fun c=>ej c.symm
    simp[ej,this]
  |cons p m ih =>
   rw[Iv,G5,G5];have e:=hn p (Ab ..);have ih:=ih (by simpa[e]using h) fun q hq=>hn q (Ah _ hq)
   by_cases ep:p.1=j
   ·have:¬j=k:=fun c=>e (ep.trans c)
    simp[ep,this]
   ·simp only[ep,F9];exact ih
def ET(m:List (Int×Int)):List Int:=m.map (·.1)
theorem UA(m:List (Int×Int))(k v:Int):ET (KY m k v)=if k∈ET m then ET m else ET m++[k]:=by
 unfold KY ET;have e:(m.any fun p=>decide (p.1=k))=decide (k∈m.map (·.1)):=by
  rw[BN];simp only[Bd,Au,Ak]
 rw[e]
 by_cases h:k∈m.map (·.1)
 ·simp only[h,decide_true,Qh,BG];apply A8;intro p _;simp only[Function.comp];split
  ·rename_i e;exact e.symm
  ·rfl
 ·simp[h]
theorem LP{m:List (Int×Int)}(h:(ET m).Nodup)(k v:Int):(ET (KY m k v)).Nodup:=by
 rw[UA];split
 ·exact h
 ·rename_i hn;rw[F4];exact⟨h,by simp,fun a ha b hb e=>by subst e;rw[Am.1 hb]at ha;exact hn ha⟩
theorem HW(m:List (Int×Int))(k v j:Int):j∈ET (KY m k v)↔j=k∨j∈ET m:=by
 rw[UA];split
 ·rename_i h;constructor
  ·exact .inr
  ·rintro(rfl | h')
   ·exact h
   ·exact h'
 ·simp[or_comm]
theorem gU{m:List (Int×Int)}(h:(ET m).Nodup){p:Int×Int}(hp:p∈m):E8 m p.1=p.2:=by
 induction m with
 |nil=>cases hp
 |cons q m ih =>
  rw[G5];unfold ET at h ih;rw[AK,CI]at h;rcases Av.1 hp with rfl | hp
  ·simp
  ·have:¬q.1=p.1:=fun e=>h.1 (e▸Ak.2 ⟨p,hp,rfl⟩)
   rw[Ai this];exact ih h.2 hp
theorem gV{m:List (Int×Int)}{k:Int}(h:k∉ET m):E8 m k=0:=by
 unfold E8
 have:m.find? (fun p=>decide (p.1=k))=none:=by
  rw[DO];intro p hp;simp only[Au];exact fun e=>h (Ak.2 ⟨p,hp,e⟩)
 rw[this]
-- counting
def cF(S:Bh)(k:Int):Nat:=S.countP fun x=>decide (x.1=k)
def cT(S:Bh)(k:Int):Nat:=S.countP fun x=>decide (x.2=k)
def lF(S:Bh)(k:Int):Nat:=S.countP fun x=>decide (x.1≤k)
def lT(S:Bh)(k:Int):Nat:=S.countP fun x=>decide (x.2≤k)
theorem IN{α:Type}{p q r:α→Bool}:∀{l:List α},(∀x∈l,(p x=true↔q x=true∨r x=true)∧¬(q x=true∧r x=true))→l.countP p=l.countP q+l.countP r
 | [],_=>rfl
 |x::l,h=>by
  have ih:=IN fun y hy=>h y (Ah _ hy);obtain⟨h1,h2⟩:=h x (Ab ..);rw[Iw,Iw,Iw,ih];cases hp:p x<;>cases hq:q x<;>cases hr:r x<;>simp_all<;>omega
structure Ib(m:List (Int×Int))(S:Bh):Prop where
 nd:(ET m).Nodup
 val:∀k,E8 m k=(cF S k:Int)-cT S k
 keys:0∈ET m∧1000000∈ET m∧∀x∈S,x.1∈ET m∧x.2∈ET m
 rng:∀k∈ET m,0≤k∧k≤1000000
def oY:List (Int×Int):=[(0,0),(1000000,0)]
theorem iO:Ib oY []:=⟨by decide,fun k=>by
  unfold oY;rw[G5,G5];simp[E8,cF,cT],⟨by decide,by decide,fun _ h=>by cases h⟩,fun k hk=>by
  unfold oY ET at hk;simp at hk;omega⟩
def XQ(m:List (Int×Int))(x:Int×Int):List (Int×Int):=KY (KY m x.1 (E8 m x.1+1)) x.2 (E8 (KY m x.1 (E8 m x.1+1)) x.2-1)
theorem cw{m:List (Int×Int)}{S:Bh}{x:Int×Int}(h:Ib m S)(hx:0≤x.1∧x.1<x.2∧x.2≤1000000):Ib (XQ m x) (S++[x]):=by
 unfold XQ;refine⟨LP (LP h.nd _ _) _ _,fun k=>?_,⟨?_,?_,fun y hy=>?_⟩,fun k hk=>?_⟩
 ·rw[OP,OP,OP,h.val,h.val,h.val];unfold cF cT;simp only[List.countP_append,List.countP_singleton,Au]
  by_cases e1:k=x.2
  ·subst e1
   have:¬x.2=x.1:=by omega
   have:¬x.1=x.2:=by omega
   simp[*];omega
  ·by_cases e2:k=x.1
   ·subst e2
    have:¬x.2=x.1:=by omega
    have:¬x.1=x.2:=by omega
    simp[*];omega
   ·have a1:¬x.1=k:=fun c=>e2 c.symm;have a2:¬x.2=k:=fun c=>e1 c.symm;simp[e1,e2,a1,a2]
 ·rw[HW,HW];exact .inr (.inr h.keys.1)
 ·rw[HW,HW];exact .inr (.inr h.keys.2.1)
 ·simp only[HW];rcases AW.1 hy with hy | hy
  ·have:=h.keys.2.2 y hy
   exact⟨.inr (.inr this.1),.inr (.inr this.2)⟩
  ·rw[Am.1 hy];exact⟨.inr (.inl rfl),.inl rfl⟩
 ·rw[HW,HW]at hk;rcases hk with rfl | rfl | hk
  ·omega
  ·omega
  ·exact h.rng k hk
def Is(m:List (Int×Int))(B:List Int):Int:=(B.map (E8 m)).foldl (·+·) 0
theorem PI(m:List (Int×Int))(B:List Int)(i:Nat)(h:i<B.length):Is m (B.take (i+1))=Is m (B.take i)+E8 m B[i]:=by
 unfold Is;rw[Bi,As h,Az,Fi];simp only[Option.toList_some,AK,EU,Ea,List.foldl_nil]
structure iw(B:List Int)(m:List (Int×Int)):Prop where
 perm:B.Perm (ET m)
 srt:B.Pairwise fun a b=>a<b
theorem ZY{m:List (Int×Int)}{S:Bh}{B:List Int}(h:Ib m S)(hB:iw B m):∀i (hi:i<B.length),Is m (B.take (i+1))=(lF S B[i]:Int)-lT S B[i]:=by
 have mem:∀k,k∈ET m→∃j,∃hj:j<B.length,B[j]=k:=fun k hk=>by
  have:=hB.perm.mem_iff.2 hk
  obtain⟨j,hj,e⟩:=CW.1 this;exact⟨j,hj,e⟩
 have lt:∀i j (hi:i<B.length) (hj:j<B.length),i<j→B[i]<B[j]:=fun i j hi hj OS=>(AY.1 hB.srt) i j hi hj OS;intro i
 induction i with
 |zero =>
  intro hi;rw[PI m B 0 hi,h.val]
  have:Is m (B.take 0)=0:=by simp[Is]
  rw[this];have low:∀k∈ET m,B[0]≤k:=fun k hk=>by
   obtain⟨j,hj,rfl⟩:=mem k hk;cases j with
   |zero=>exact BO _
   |succ j=>have:=lt 0 (j+1) hi hj (by omega);omega
  have e1:lF S B[0]=cF S B[0]:=by
   unfold lF cF;apply PQ;intro x hx
   have:=low _ (h.keys.2.2 x hx).1
   simp only[Au];omega
  have e2:lT S B[0]=cT S B[0]:=by
   unfold lT cT;apply PQ;intro x hx
   have:=low _ (h.keys.2.2 x hx).2
   simp only[Au];omega
  rw[e1,e2];omega
 |succ i ih =>
  intro hi;rw[PI m B (i+1) hi,ih (by omega),h.val];have nb:∀k∈ET m,k≤B[i+1]↔k≤B[i]∨k=B[i+1]:=fun k hk=>by
   obtain⟨j,hj,rfl⟩:=mem k hk;have l0:=lt i (i+1) (by omega) hi (by omega);rcases Nat.lt_trichotomy j (i+1)with c | c | c
   ·have:B[j]≤B[i]:=by
     rcases EA j i with d | d
     ·have:=lt j i hj (by omega) d;omega
     ·have:j=i:=by omega
      subst this;exact BO _
    omega
   ·subst c;omega
   ·have:=lt (i+1) j hi hj c;omega
  have l0:=lt i (i+1) (by omega) hi (by omega);have e1:lF S B[i+1]=lF S B[i]+cF S B[i+1]:=by
   unfold lF cF;apply IN;intro x hx
   have:=nb _ (h.keys.2.2 x hx).1
   simp only[Au];omega
  have e2:lT S B[i+1]=lT S B[i]+cT S B[i+1]:=by
   unfold lT cT;apply IN;intro x hx
   have:=nb _ (h.keys.2.2 x hx).2
   simp only[Au];omega
  rw[e1,e2];omega
theorem WC{S:Bh}(hS:∀x∈S,x.1<x.2)(p:Int):(lF S p:Int)-lT S p=(S.countP (BE p):Nat):=by
 have:lF S p=S.countP (BE p)+lT S p:=by
  unfold lF lT;apply IN;intro x hx
  have:=hS x hx
  simp only[BE,Ae,Au];omega
 omega
theorem NY:∀{l:Bh} {lo:Int} (p:Int),EC lo l→l.countP (BE p)=if l.any (BE p)then 1 else 0
 | [],_,_,_=>rfl
 |y::r,lo,p,⟨h1,h2,h3,h4⟩=>by
  rw[Iw,NY p h4,B4];cases hy:BE p y with
  |false=>rw[Ls];simp
  |true =>
   have:=DC.1 hy
   have:r.any (BE p)=false:=by
    rw[AM];intro hr;have:=Md h4 hr;omega
   simp[this]
theorem Lx:∀(l:List Bh) (p:Int),((l.map canon).flatten).countP (BE p)=cI l p
 | [],_=>rfl
 |s::l,p=>by
  rw[AK,Bv,List.countP_append,Lx l p,NY p (B9 s),Kh];unfold cI;rw[Iw];omega
def En(keep:Nat→Bool)(m:List (Int×Int))(B:List Int):Nat→Bh
 |0=>[]
 |i+1=>En keep m B i++(match B[i]?,B[i+1]? with
  |some a,some b=>if keep (Is m (B.take (i+1))).toNat then [(a,b)]else []
  |_,_=>[])
theorem Pl{keep:Nat→Bool}{m:List (Int×Int)}{B:List Int}{x:Int×Int}:∀{n:Nat},x∈En keep m B n↔∃i,i<n∧∃(h1:i<B.length) (h2:i+1<B.length),keep (Is m (B.take (i+1))).toNat=true∧x=(B[i],B[i+1])
 |0=>by simp[En]
 |n+1=>by
  unfold En;rw[AW,Pl (n:=n)];constructor
  ·rintro(⟨i,h1,h2⟩ | h)
   ·exact⟨i,by omega,h2⟩
   ·split at h
    ·rename_i a b ha hb;obtain⟨h1,e1⟩:=Ap.1 ha;obtain⟨h2,e2⟩:=Ap.1 hb;split at h
     ·rename_i hk;refine⟨n,by omega,h1,h2,hk,?_⟩;rw[Am.1 h,e1,e2]
     ·cases h
    ·cases h
  ·rintro⟨i,h1,h2,h3,h4,rfl⟩
   by_cases e:i=n
   ·subst e;refine .inr ?_;rw[As h2,As h3];simp[h4]
   ·exact .inl ⟨i,by omega,h2,h3,h4,rfl⟩
theorem NS{B:List Int}(hs:B.Pairwise fun a b=>a<b){p:Int}:∀(n:Nat) (h0:0<B.length) (hn:n<B.length),B[0]≤p→p<B[n]→∃i,∃(h1:i<B.length) (h2:i+1<B.length),B[i]≤p∧p<B[i+1]
 |0,h0,hn,h1,h2=>by omega
 |n+1,h0,hn,h1,h2=>by
  by_cases e:B[n]≤p
  ·exact⟨n,by omega,hn,e,h2⟩
  ·exact NS hs n h0 (by omega) h1 (by omega)
theorem fp{keep:Nat→Bool}{l:List Bh}{m:List (Int×Int)}{B:List Int}(h:Ib m (l.map canon).flatten)(hB:iw B m)(p:Int):has (En keep m B (B.length-1)) p=(Lo p&&keep (cI l p)):=by
 have hS:∀x∈(l.map canon).flatten,x.1<x.2:=fun x hx=>by
  obtain⟨s,hs,hx⟩:=Ej.1 hx;obtain⟨t,_,rfl⟩:=Ak.1 hs;exact((B9 t).low x hx).2.1
 have mem:∀k,k∈ET m→∃j,∃hj:j<B.length,B[j]=k:=fun k hk=>by
  obtain⟨j,hj,e⟩:=CW.1 (hB.perm.mem_iff.2 hk);exact⟨j,hj,e⟩
 have lt:∀i j (hi:i<B.length) (hj:j<B.length),i<j→B[i]<B[j]:=fun i j hi hj OS=>(AY.1 hB.srt) i j hi hj OS;have rng:∀i (hi:i<B.length),0≤B[i]∧B[i]≤1000000:=fun i hi=>h.rng _ (hB.perm.mem_iff.1 (Ax hi))
 -- Vg two bounds
 have Vg:∀i (h1:i<B.length) (h2:i+1<B.length),B[i]≤p→p<B[i+1]→(Is m (B.take (i+1))).toNat=cI l p:=fun i h1 h2 a b=>by
  have same:∀k∈ET m,k≤B[i]↔k≤p:=fun k hk=>by
   obtain⟨j,hj,rfl⟩:=mem k hk;constructor
   ·intro c;omega
   ·intro c;rcases EA i j with d | d
    ·rcases EA (i+1) j with f | f
     ·have:=lt (i+1) j h2 hj f;omega
     ·have:j=i+1:=by omega
      subst this;omega
    ·rcases EA j i with f | f
     ·have:=lt j i hj h1 f;omega
     ·have:j=i:=by omega
      subst this;exact BO _
  have e1:lF (l.map canon).flatten B[i]=lF (l.map canon).flatten p:=by
   unfold lF;apply PQ;intro x hx
   have:=same _ (h.keys.2.2 x hx).1
   simp only[Au];exact this
  have e2:lT (l.map canon).flatten B[i]=lT (l.map canon).flatten p:=by
   unfold lT;apply PQ;intro x hx
   have:=same _ (h.keys.2.2 x hx).2
   simp only[Au];exact this
  rw[ZY h hB i h1,e1,e2,WC hS,Lx];simp
 rw[BN];constructor
 ·intro hh;have ii:=LI hh;unfold has at hh;simp only[ii,decide_true,Ev]at hh;obtain⟨x,hx,hp⟩:=Bd.1 hh;obtain⟨i,_,h1,h2,hk,rfl⟩:=Pl.1 hx
  have:=DC.1 hp
  dsimp only at this;rw[←Vg i h1 h2 this.1 this.2];simp[Lo,ii,hk]
 ·intro hh;simp only[Ae,Lo,Au]at hh;obtain⟨⟨p0,p1⟩,hk⟩:=hh;obtain⟨j0,y9,e0⟩:=mem 0 h.keys.1;obtain⟨j1,za,e1⟩:=mem 1000000 h.keys.2.1;have tN:B[0]'(by omega)≤p:=by
   have:B[0]'(by omega)≤0:=by
    cases j0 with
    |zero=>omega
    |succ j=>have:=lt 0 (j+1) (by omega) y9 (by omega);omega
   omega
  obtain⟨i,h1,h2,a,b⟩:=NS hB.srt j1 (by omega) za tN (by omega);unfold has;simp only[p0,p1,decide_true,Ev];exact Bd.2 ⟨(B[i],B[i+1]),Pl.2 ⟨i,by omega,h1,h2,by rw[Vg i h1 h2 a b];exact hk,rfl⟩,DC.2 ⟨a,b⟩⟩
theorem gI{l:List Bh}{m:List (Int×Int)}{B:List Int}(h:Ib m (l.map canon).flatten)(hB:iw B m)(i:Nat)(hi:i<B.length):0≤Is m (B.take (i+1))∧Is m (B.take (i+1))≤l.length:=by
 have hS:∀x∈(l.map canon).flatten,x.1<x.2:=fun x hx=>by
  obtain⟨s,hs,hx⟩:=Ej.1 hx;obtain⟨t,_,rfl⟩:=Ak.1 hs;exact((B9 t).low x hx).2.1
 rw[ZY h hB i hi,WC hS,Lx]
 have:cI l B[i]≤l.length:=List.countP_le_length
 omega
def VR(m:List Tm)(t:Tm):List Tm:=if m.any (fun u=>decide (u.path=t.path))then m.map (fun u=>if u.path=t.path then t else u)else m++[t]
def Qy(m:List Tm)(t:Tm):List Tm:=VR m (Nx (Dc m t.path) t)
def CL(l:List Tm):List Tm:=l.foldl Qy []
theorem aT(t:Tm)(p:ByteArray):∀m:List Tm,Dc (VR m t) p=if t.path=p then some t else Dc m p:=by
 intro m;unfold VR
 by_cases h:(m.any fun u=>decide (u.path=t.path))=true
 ·rw[Aq h]
  induction m with
  |nil=>simp at h
  |cons u m ih =>
   rw[AK,Cy,Cy]
   by_cases e:u.path=t.path
   ·rw[Aq e]
    by_cases ep:t.path=p
    ·simp[ep]
    ·rw[Ai ep,Ai ep,Ai (fun c=>ep (e.symm.trans c))]
     by_cases hm:(m.any fun u=>decide (u.path=t.path))=true
     ·rw[ih hm,Ai ep]
     ·have:∀q∈m,q.path≠t.path:=fun q hq c=>hm (Bd.2 ⟨q,hq,by simp[c]⟩)
      have:m.map (fun u=>if u.path=t.path then t else u)=m:=by
       conv=>rhs;rw[←Ie m]
       exact A8 fun q hq=>by simp[this q hq]
      rw[this]
   ·rw[Ai e];have hm:(m.any fun u=>decide (u.path=t.path))=true:=by simpa[e]using h
    rw[ih hm]
    by_cases ep:t.path=p
    ·subst ep;simp[e]
    ·simp[ep]
 ·rw[Ai h];have hn:∀q∈m,q.path≠t.path:=fun q hq e=>h (Bd.2 ⟨q,hq,by simp[e]⟩)
  clear h
  induction m with
  |nil=>rw[Fp,Cy]
  |cons u m ih =>
   rw[Iv,Cy,Cy,ih fun q hq=>hn q (Ah _ hq)]
   have:=hn u (Ab ..)
   by_cases e:u.path=p
   ·have:¬t.path=p:=fun c=>this (e.trans c.symm)
    simp[e,this]
   ·simp[e]
def Eo(m:List Tm):List ByteArray:=m.map (·.path)
open Classical in
theorem YR(m:List Tm)(t:Tm):Eo (VR m t)=if t.path∈Eo m then Eo m else Eo m++[t.path]:=by
 unfold VR Eo;have e:(m.any fun u=>decide (u.path=t.path))=true↔t.path∈m.map (·.path):=by
  simp only[Bd,Au,Ak]
 by_cases h:t.path∈m.map (·.path)
 ·rw[Aq (e.2 h),Aq h,BG];apply A8;intro p _;simp only[Function.comp];split
  ·rename_i e;exact e.symm
  ·rfl
 ·rw[Ai (fun c=>h (e.1 c)),Ai h,Az];rfl
theorem bL{m:List Tm}(h:(Eo m).Nodup)(t:Tm):(Eo (VR m t)).Nodup:=by
 rw[YR];split
 ·exact h
 ·rename_i hn;rw[F4];exact⟨h,by simp,fun a ha b hb e=>by subst e;rw[Am.1 hb]at ha;exact hn ha⟩
theorem Qo(l:List Tm)(i:Nat)(h:i<l.length):CL (l.take (i+1))=Qy (CL (l.take i)) l[i]:=by
 unfold CL;rw[Bi,As h,Fi];rfl
theorem Ob:∀(l m:List Tm),(Eo m).Nodup→(Eo (l.foldl Qy m)).Nodup
 | [],_,h=>h
 |_::l,_,h=>Ob l _ (bL h _)
theorem Ht(l:List Tm):(Eo (CL l)).Nodup:=Ob l [] .nil
theorem WQ(m:List Tm)(t:Tm)(p:ByteArray):Dc (Qy m t) p=JJ p (Dc m p) t:=by
 unfold Qy JJ;have hp:(Nx (Dc m t.path) t).path=t.path:=Pu _ _ fun u h=>GO h;rw[aT,hp]
 by_cases e:t.path=p
 ·rw[Aq e,Aq e,e]
 ·rw[Ai e,Ai e]
theorem N8(p:ByteArray):∀(l m:List Tm),Dc (l.foldl Qy m) p=l.foldl (JJ p) (Dc m p)
 | [],_=>rfl
 |t::l,m=>by rw[Ea,Ea,N8 p l,WQ]
theorem Yo(l:List Tm)(p:ByteArray):Dc (CL l) p=Dc (EP l) p:=by
 unfold CL;rw[N8,IR];rfl
theorem LC{m:List Tm}(h:(Eo m).Nodup){t:Tm}:t∈m↔Dc m t.path=some t:=by
 constructor
 ·induction m with
  |nil=>intro h;cases h
  |cons u m ih =>
   intro ht;unfold Eo at h ih;rw[AK,CI]at h;rw[Cy];rcases Av.1 ht with rfl | ht
   ·rw[Aq rfl]
   ·have:¬u.path=t.path:=fun e=>h.1 (e▸Ak.2 ⟨t,ht,rfl⟩)
    rw[Ai this];exact ih h.2 ht
 ·exact EZ
theorem Hx{m:List Tm}(h:(Eo m).Nodup):m.Nodup:=by
 unfold Eo at h
 induction m with
 |nil=>exact .nil
 |cons u m ih =>
  rw[AK,CI]at h;exact CI.2 ⟨fun hu=>h.1 (Ak.2 ⟨u,hu,rfl⟩),ih h.2⟩
theorem HD{l:List Tm}{lo:Option ByteArray}(h:B3 lo l):(Eo l).Nodup:=by
 unfold Eo
 induction l generalizing lo with
 |nil=>exact .nil
 |cons t l ih =>
  rw[AK,CI];refine⟨fun hm=>?_,ih h.2.2⟩;obtain⟨u,hu,e⟩:=Ak.1 hm
  have:=h.2.2.low u hu
  rw[e,C3]at this;cases this
theorem IX(l:List Tm)(t:Tm):t∈CL l↔t∈EP l:=by
 rw[LC (Ht l),Yo,←LC (HD (Ei l))]
theorem Ot(l:List Tm):∀t∈CL l,Ew t.set:=fun t ht=>(Ei l).canon t ((IX l t).1 ht)
theorem cA(m:List Tm)(t:Tm):(Qy m t).length≤m.length+1:=by
 unfold Qy VR;split<;>simp
theorem Ns(l:List Tm):∀i,i≤l.length→(CL (l.take i)).length≤i:=by
 intro i
 induction i with
 |zero=>intro _;simp[CL]
 |succ i ih =>
  intro h;rw[Qo l i (by omega)]
  have:=cA (CL (l.take i)) l[i]
  have:=ih (by omega)
  omega
theorem Y5{s:List Tm}(hs:s.Pairwise fun x y=>Ep x.path y.path=true)(hc:∀t∈s,Ew t.set):B3 none s:=by
 have:∀(s:List Tm) (lo:Option ByteArray),s.Pairwise (fun x y=>Ep x.path y.path=true)→(∀t∈s,Ew t.set)→(∀p,lo=some p→∀t∈s,Ep p t.path=true)→B3 lo s:=by
  intro s
  induction s with
  |nil=>intro _ _ _ _;trivial
  |cons t s ih =>
   intro lo hs hc hl;obtain⟨h1,h2⟩:=BD.1 hs;exact⟨fun p e=>hl p e t (Ab ..),hc t (Ab ..),ih _ h2 (fun u hu=>hc u (Ah _ hu)) fun p e u hu=>by cases e;exact h1 u hu⟩
 exact this s none hs hc fun _ e=>by cases e
theorem Pa{l s:List Tm}(q:Tm→Bool)(hp:s.Perm ((CL l).filter q))(hs:s.Pairwise fun x y=>Ep y.path x.path=false):s=(EP l).filter q:=by
 have hm:∀t,t∈s↔t∈(EP l).filter q:=fun t=>by
  rw[hp.mem_iff,BH,BH,IX]
 have QH:(Eo s).Nodup:=by
  have h1:(Eo ((CL l).filter q)).Nodup:=by
   unfold Eo;exact List.Nodup.sublist (List.Sublist.map _ List.filter_sublist) (Ht l)
  unfold Eo at h1⊢;exact(hp.map (·.path)).nodup_iff.2 h1
 have Ja:s.Pairwise fun x y=>Ep x.path y.path=true:=by
  rw[AY]at hs⊢;intro i j hi hj OS;cases hb:Ep s[i].path s[j].path with
  |true=>rfl
  |false =>
   have e:=Hi hb (hs i j hi hj OS);unfold Eo at QH
   have:=(AY.1 QH) i j (by simpa using hi) (by simpa using hj) OS
   simp at this;exact absurd e this
 have xq:B3 none s:=Y5 Ja fun t ht=>(Ei l).canon t (BH.1 ((hm t).1 ht)).1;have io:B3 none ((EP l).filter q):=B3.filter q (Ei l);refine L9 xq io fun p=>?_;cases h1:Dc s p with
 |some t =>
  have:=(hm t).1 (EZ h1)
  rw[Fw io,GO h1]at this;exact this.symm
 |none =>
  cases h2:Dc ((EP l).filter q) p with
  |none=>rfl
  |some t =>
   have:=(hm t).2 (EZ h2)
   rw[Fw xq,GO h2,h1]at this;cases this
theorem Yb(t:Tm):GD t t=K8 t:=by unfold GD K8;rw[YB,Bool.and_self]
theorem ZS(o:Option Tm)(t:Tm):Nx o t=GD (o.getD t) t:=by cases o with | none=>exact(Yb t).symm | some u=>rfl
theorem ar{t:Tm}(h:Ew t.set):(t.absent&&(Ee t.set).isEmpty)=Gi t:=by
 unfold Gi
 congr 1
 rw[BN,GB,Au];have ha:Ew [(0,1000000)]:=⟨BO _,by dsimp only;omega,BO _,trivial⟩;constructor
 ·intro e;refine Hj h ha fun p=>?_
  have:=Fx t.set p
  rw[e]at this;have h0:has [] p=false:=by simp[has]
  rw[h0]at this;have h1:has [(0,1000000)] p=Lo p:=by simp[has,Lo,BE]
  rw[h1];cases hp:Lo p with
  |true=>rw[hp]at this;simpa using this.symm
  |false =>
   rw[AM];intro hh
   have:=LI hh
   simp[Lo,this]at hp
 ·intro e;rw[Pp (GY _)];intro p;rw[Fx,e];have h1:has [(0,1000000)] p=Lo p:=by simp[has,Lo,BE]
  rw[h1];simp
theorem fI{t:Tm}(h:Ew t.set):(!t.absent&&(canon t.set).isEmpty)=Hw t:=by unfold Hw;rw[I4 h]
end Go.Eng
namespace Go.Eng
open Go.Lib
theorem PF(c:UInt8):∀(s:List UInt8) (k:Nat),s.count c≤k→splitK [c] 0 k s=Fe c s
 | [],k,_=>by
  cases k with
  |zero=>rfl
  |succ k=>rfl
 |b::r,k,h=>by
  rw[Fe]
  by_cases e:b=c
  ·subst e;rw[List.count_cons_self]at h;obtain⟨k',rfl⟩:∃k',k=k'+1:=⟨k-1,by omega⟩;rw[Aq rfl,splitK,index_one,indexByte];simp only[beq_self_eq_true,Qh];rw[Ai (by decide)];show []::splitK [b] 0 k' r=_;rw[PF b r k' (by omega)]
  ·have Dt:(b == c)=false:=by simpa using e
   rw[List.count_cons_of_ne (by simpa using e)]at h;have ih:=PF c r k h;rw[Ai e];cases k with
   |zero =>
    rw[←ih];rfl
   |succ k =>
    rw[←ih,splitK,splitK,index_one,index_one,indexByte,Dt]
    by_cases h0:indexByte r c=-1
    ·rw[h0];rfl
    ·have h1:(indexByte r c == -1)=false:=by simpa using h0
     have h2:=indexByte_ge r c;have h3:(indexByte r c+1 == -1)=false:=by rw[beq_eq_false_iff_ne];omega
     simp only[Dd,F9,h1,h3];obtain⟨i,hi⟩:∃i:Nat,indexByte r c=i:=⟨(indexByte r c).toNat,by omega⟩;rw[hi];show(b::r).take (((i:Int)+1).toNat+0)::_=(b::r.take ((i:Int).toNat+0))::_;rw[show((i:Int)+1).toNat=i+1 by omega,show((i:Nat):Int).toNat=i by omega]
     rfl
theorem WB(c:UInt8):∀(n:Nat) (s:List UInt8),s.length≤n→count s [c]=s.count c
 |n,s,hn=>by
  rcases Int.lt_or_le (indexByte s c) 0 with h | h
  ·have h2:=indexByte_ge s c;have h3:indexByte s c=-1:=by omega
   rw[count_miss (by rw[index_one];exact h3)]
   symm
   rw[List.count_eq_zero];intro hm;obtain⟨k,hk,e⟩:=Fu hm;exact indexByte_none h3 k (by rw[As hk,e])
  ·obtain⟨i,hi⟩:∃i:Nat,indexByte s c=i:=⟨(indexByte s c).toNat,by omega⟩;obtain⟨h1,h2⟩:=indexByte_some hi;obtain⟨hl,hg⟩:=Ap.1 h1;cases n with
   |zero=>omega
   |succ n =>
    have hc:=count_hit (s:=s) (sub:=[c]) (i:=i) (by simp) (by rw[index_one];exact hi);rw[hc];have ih:=WB c n (s.drop (i+1)) (by rw[Dm];omega);have qg:s=s.take i++c::s.drop (i+1):=by
     rw[←hg,←Bl hl,K5]
    have h0:(s.take i).count c=0:=by
     rw[List.count_eq_zero];intro hm;obtain⟨k,hk,e⟩:=Fu hm;rw[AE]at hk;rw[HJ]at e;exact h2 k (by omega) (by rw[As (by omega),e])
    conv=>rhs;rw[qg]
    rw[List.count_append,h0,List.count_cons_self];show 1+count (s.drop (i+1)) [c]=_;rw[ih];omega
theorem cu(s:ByteArray)(c:UInt8):((splitB ⟨#[c]⟩ 0 (countB s ⟨#[c]⟩) s).map (·.data.toList))=Fe c s.data.toList:=by
 rw[splitB_data];refine PF c _ _ ?_;show _≤count s.data.toList [c];rw[WB c _ _ (Al _)];exact Al _
end Go.Eng
namespace Go.Eng
theorem UI{α:Type}:∀{l m:List α},l.Nodup→(∀x∈l,x∈m)→l.length≤m.length
 | [],_,_,_=>AL _
 |a::l,m,hn,hs=>by
  obtain⟨h1,h2⟩:=CI.1 hn;obtain⟨s,t,rfl⟩:=List.append_of_mem (hs a (Ab ..))
  have:l.length≤(s++t).length:=UI h2 fun x hx=>by
   rcases AW.1 (hs x (Ah _ hx))with h | h
   ·exact Bn _ h
   ·rcases Av.1 h with rfl | h
    ·exact absurd hx h1
    ·exact Bf _ h
  simp only[Ad,Ay]at this⊢;omega
theorem La(p:ByteArray):∀(l:List Tm) (o:Option Tm),(∀u∈l,u.path≠p)→l.foldl (JJ p) o=o
 | [],_,_=>rfl
 |t::l,o,h=>by
  rw[Ea,show JJ p o t=o by unfold JJ;rw[Ai (h t (Ab ..))]];exact La p l o fun u hu=>h u (Ah _ hu)
theorem YJ{l:List Tm}{t:Tm}(h:t∈EP l):∃u∈l,u.path=t.path:=by
 apply AR;intro hn
 have:∀u∈l,u.path≠t.path:=fun u hu e=>hn ⟨u,hu,e⟩
 have h1:=(Fw (Ei l)).1 h;rw[IR,La _ _ _ this]at h1;cases h1
def TY(U:List ByteArray)(t:List Tm):Prop:=B3 none t∧∀u∈t,u.path∈U
theorem TY.len{U:List ByteArray}{t:List Tm}(h:TY U t):t.length≤U.length:=by
 have:=UI (HD h.1) (m:=U) fun p hp=>by
  obtain⟨u,hu,rfl⟩:=Ak.1 hp;exact h.2 u hu
 unfold Eo at this
 rwa [A7]at this
theorem Yc{l c:List Tm}(h:CD l=some c){t:Tm}(ht:t∈c):t∈EP l:=by
 unfold CD at h;split at h
 ·cases h
 ·cases h;exact(BH.1 ht).1
theorem O0{U:List ByteArray}{l c:List Tm}(h:CD l=some c)(hu:∀u∈l,u.path∈U):TY U c :=
 ⟨EG h,fun t ht=>by
  obtain⟨u,h1,h2⟩:=YJ (Yc h ht);rw[←h2];exact hu u h1⟩
theorem TY.nil(U:List ByteArray):TY U []:=⟨trivial,fun u hu=>by cases hu⟩
theorem SQ{U:List ByteArray}{l:List Tm}(hu:∀u∈l,u.path∈U):TY U (Pq l):=by
 unfold Pq;cases h:CD l with
 |none=>exact .nil U
 |some c=>exact O0 h hu
theorem Qu{U:List ByteArray}{a b:List Tm}{p:ByteArray}(ha:TY U a)(hb:TY U b):TY U (Bq a b p).1:=by
 have sp:∀{l r:List Tm} {t:Tm},TY U l→Ff l p=some (t,r)→t.path∈U∧∀u∈r,u.path∈U:=by
  intro l r t hl h;unfold Ff at h;cases e:CD l with
  |none=>rw[e]at h;cases h
  |some c =>
   rw[e]at h;have h:(match Dc c p with | none=>none | some t=>some (t,FC c p))=some (t,r):=h;have hc:=O0 e hl.2;cases e2:Dc c p with
   |none=>rw[e2]at h;cases h
   |some u =>
    rw[e2]at h;cases h;exact⟨hc.2 _ (EZ e2),fun u hu=>hc.2 u (BH.1 hu).1⟩
 unfold Bq;split
 ·rename_i t r u m e1 e2;obtain⟨a1,a2⟩:=sp ha e1;obtain⟨b1,b2⟩:=sp hb e2;split
  ·rename_i o e3;refine O0 e3 fun v hv=>?_;rcases AW.1 hv with hv | hv
   ·rcases AW.1 hv with hv | hv
    ·exact a2 v hv
    ·exact b2 v hv
   ·rw[Am.1 hv];exact a1
  ·exact .nil U
 ·exact .nil U
def J0(x:List Rl)(roots:List Rq)(l:List Nf):List ByteArray:=(x.map (·.path))++((x.map (·.reqs)).flatten.map (·.path)++(roots.map (·.path)++l.map (·.path)))
theorem br{x:List Rl}{roots:List Rq}{l:List Nf}{d:List (List Tm)}{i:Nf}(hi:i∈l)(hd:∀t∈d,TY (J0 x roots l) t){t:List Tm}(h:DN x roots d i=some t):TY (J0 x roots l) t:=by
 have hp:i.path∈J0 x roots l:=by
  unfold J0;exact Bf _ (Bf _ (Bf _ (Ak.2 ⟨i,hi,rfl⟩)))
 have nz:∀{α:Type} {l:List α} {k:Int} {a:α},Jf l k=some a→a∈l:=by
  intro α l k a h;unfold Jf at h;split at h
  ·cases h
  ·exact Ar h
 have n0:∀{a b:List Tm},bF a=some b→b=a:=by
  intro a b h;unfold bF at h;split at h
  ·cases h
  ·cases h;rfl
 unfold DN at h;split at h
 ·split at h
  ·cases e:Jf roots i.number with
   |none=>rw[e]at h;cases h
   |some q =>
    rw[e]at h;cases h;refine SQ fun u hu=>?_;rw[Am.1 hu];unfold J0;exact Bf _ (Bf _ (Bn _ (Ak.2 ⟨q,nz e,rfl⟩)))
  ·cases h
 split at h
 ·split at h
  ·cases e:OD x i.path i.place with
   |none=>rw[e]at h;cases h
   |some r =>
    rw[e]at h;have h:(match Jf r.reqs i.number with | none=>none | some q=>bF (Ed i.path i.place q))=some t:=h;cases e2:Jf r.reqs i.number with
    |none=>rw[e2]at h;cases h
    |some q =>
     rw[e2]at h;have h:=n0 (show bF (Ed i.path i.place q)=some t from h);subst h;refine SQ fun u hu=>?_;rcases Av.1 hu with rfl | hu
     ·exact hp
     ·rw[Am.1 hu];unfold J0;refine Bf _ (Bn _ (Ak.2 ⟨q,?_,rfl⟩));exact Ej.2 ⟨r.reqs,Ak.2 ⟨r,Cb e,rfl⟩,nz e2⟩
  ·cases h
 split at h
 ·split at h
  ·have h:=n0 h;subst h;refine SQ fun u hu=>?_;rw[Am.1 hu];exact hp
  ·cases h
 split at h
 ·split at h
  ·cases e:Jf d i.left with
   |none=>rw[e]at h;cases h
   |some a =>
    cases e2:Jf d i.right with
    |none=>rw[e,e2]at h;cases h
    |some b =>
     rw[e,e2]at h;have h:(if(Bq a b i.path).2=0 then some (Bq a b i.path).1 else none)=some t:=h;split at h
     ·cases h;exact Qu (hd a (nz e)) (hd b (nz e2))
     ·cases h
  ·cases h
 ·cases h
structure Cd where
 place:Int
 rel:Rl
structure Nd where
 rq:Rq
 path:ByteArray
 place:Int
 number:Int
structure SS where
 infs:List Nf
 drv:List (List Tm)
 full:Bool
abbrev Sz(c:Cd):Sl:=⟨c.rel.path,c.rel.ver⟩
abbrev AJ(l:List Cd):List Sl:=l.map Sz
def Cc(x:List Rl)(p:ByteArray):List Cd:=(x.filter fun r=>decide (r.path=p)&&!r.yanked).map fun r=>⟨plc r.ver,r⟩
def LX(f:Rq→Nat→Nd):Nat→List Rq→List Nd
 |_,[]=>[]
 |i,q::l=>f q i::LX f (i+1) l
def XN(roots:List Rq):List Nd:=LX (fun q i=>⟨q,mt,0,i⟩) 0 roots
def Pw(c:Cd):List Nd:=LX (fun q i=>⟨q,c.rel.path,c.place,i⟩) 0 c.rel.reqs
def Dj(roots:List Rq)(dec:List Cd):List Nd:=XN roots++(dec.map Pw).flatten
def CY(dec:List Cd)(p:ByteArray):Bool:=dec.any fun c=>decide (c.rel.path=p)
def Ec(dec:List Cd)(a:ByteArray×List Nd)(n:Nd):ByteArray×List Nd :=
 if CY dec n.rq.path=true∨(a.2≠[]∧Ep a.1 n.rq.path=true)then a
 else if a.2≠[]∧Ep n.rq.path a.1=true then(n.rq.path,[n])else(n.rq.path,a.2++[n])
def Gs(roots:List Rq)(dec:List Cd):ByteArray×List Nd:=(Dj roots dec).foldl (Ec dec) (mt,[])
def ZD(l:List Cd)(n:Nd):Bool:=l.any fun d=>decide (d.rel.path=n.rq.path)&&!has n.rq.set d.place
def D4(dec:List Cd)(c:Cd):Option Nd:=(Pw c).find? (ZD (dec++[c]))
def N0(s:List Sl):Nat→List (List Tm)→Option Nat
 |_,[]=>none
 |i,t::l=>if Cp t s then some i else N0 s (i+1) l
def N1(d:List (List Tm))(s:List Sl):Option Nat:=N0 s 0 d
def CO(l:List Tm)(p:ByteArray):Bool:=l.any fun t=>decide (t.path=p)
instance:DecidableEq Nf:=fun a b=>by
 obtain⟨a1,a2,a3,a4,a5,a6⟩:=a;obtain⟨b1,b2,b3,b4,b5,b6⟩:=b;exact decidable_of_iff (a1=b1∧a2=b2∧a3=b3∧a4=b4∧a5=b5∧a6=b6) ⟨fun⟨h1,h2,h3,h4,h5,h6⟩=>by subst h1 h2 h3 h4 h5 h6;rfl,fun h=>by cases h;exact⟨rfl,rfl,rfl,rfl,rfl,rfl⟩⟩
def Lq(i:Nf):Nat→List Nf→Option Nat
 |_,[]=>none
 |k,j::l=>if j=i then some k else Lq i (k+1) l
def D7(s:SS)(i:Nf)(l:List Tm):Nat×SS :=
 match Lq i 0 s.infs with
 |some k=>(k,s)
 |none=>if 65536≤s.infs.length then(s.infs.length-1,⟨s.infs,s.drv,true⟩)else(s.infs.length,⟨s.infs++[i],s.drv++[l],s.full⟩)
def Su(n:Nd):Nf:=if n.path=mt then⟨0,mt,0,n.number,0,0⟩else⟨1,n.path,n.place,n.number,0,0⟩
def IT(n:Nd):List Tm:=if n.path=mt then Jj n.rq else Ed n.path n.place n.rq
def Bg(s:SS)(n:Nd):Nat×SS:=D7 s (Su n) (IT n)
abbrev DF(s:SS)(k:Nat):List Tm:=s.drv.getD k []
def B8(p:ByteArray):List Nat→Nat→SS→Nat×SS
 | [],k,s=>(k,s)
 |r::l,k,s =>
  if s.full=true∨CO (DF s k) p=false then(k,s)
  else if r=k then B8 p l k s
  else if(Bq (DF s k) (DF s r) p).2≠0 then B8 p l k s
  else B8 p l (D7 s ⟨3,p,0,0,k,r⟩ (Bq (DF s k) (DF s r) p).1).1 (D7 s ⟨3,p,0,0,k,r⟩ (Bq (DF s k) (DF s r) p).1).2
def Ef(x:List Rl)(p:ByteArray)(s:SS):Nat×SS:=D7 s ⟨2,p,0,0,0,0⟩ (HM p (BZ x p))
def DZ(x:List Rl)(p:ByteArray)(n:Nd)(FM:List Nat)(s:SS):Nat×SS :=
 B8 p ((Ef x p (Bg s n).2).1::FM) (Bg s n).1 (Ef x p (Bg s n).2).2
structure JN where
 res:Nat
 found:Bool
 ss:SS
 dec:List Cd
 stack:List (List Sk)
def DX(rec:List Cd→SS→List (List Sk)→JN)(x:List Rl)(p:ByteArray)(needs:List Nd)(n0:Nd)(dec:List Cd)(stack:List (List Sk)):List Cd→SS→List Nat→List Sk→JN
 | [],s,FM,_=>⟨(DZ x p n0 FM s).1,false,(DZ x p n0 FM s).2,dec,stack⟩
 |c::cs,s,FM,skips =>
  let after (k:Nat) (s:SS):JN:=if CO (DF s k) p=false then⟨k,false,s,dec,stack⟩else DX rec x p needs n0 dec stack cs s (FM++[k]) (skips++[⟨p,c.place,k⟩])
  if s.full=true then⟨0,false,s,dec,stack⟩
  else match needs.find? fun n=>!has n.rq.set c.place with
   |some n=>DX rec x p needs n0 dec stack cs (Bg s n).2 (FM++[(Bg s n).1]) skips
   |none=>match N1 s.drv (AJ (dec++[c]))with
    |some k=>after k s
    |none=>match D4 dec c with
     |some n=>after (Bg s n).1 (Bg s n).2
     |none =>
      let o:=rec (dec++[c]) s (stack++[skips])
      if o.found=true then⟨0,true,o.ss,o.dec,o.stack⟩
      else if o.ss.full=true then⟨0,false,o.ss,dec,stack⟩
      else after o.res o.ss
def CP(x:List Rl)(roots:List Rq):Nat→List Cd→SS→List (List Sk)→JN
 |0,dec,s,stack=>⟨0,false,s,dec,stack⟩
 |n+1,dec,s,stack=>match(Gs roots dec).2 with
  | []=>⟨0,true,s,dec,stack⟩
  |n0::l=>DX (CP x roots n) x (Gs roots dec).1 (n0::l) n0 dec stack (Cc x (Gs roots dec).1) s [] []
abbrev r9:SS:=⟨[],[],false⟩
def Qd(x:List Rl)(dec:List Cd):Nat:=(x.filter fun r=>!r.yanked&&!CY dec r.path).length
def FA(x:List Rl)(roots:List Rq):JN:=CP x roots (x.length+1) [] r9 []
theorem Oz(f:Rq→Nat→Nd):∀(l:List Rq) (i k:Nat),(LX f i l)[k]?=(l[k]?).map fun q=>f q (i+k)
 | [],i,k=>by simp[LX]
 |q::l,i,0=>by simp[LX]
 |q::l,i,k+1=>by
  have h:=Oz f l (i+1) k;simp only[LX,GA,h];rw[show i+1+k=i+(k+1) by omega]
theorem Kt(f:Rq→Nat→Nd):∀(l:List Rq) (i:Nat),(LX f i l).length=l.length
 | [],_=>rfl
 |_::l,i=>by simp[LX,Kt f l (i+1)]
theorem Xv{f:Rq→Nat→Nd}{l:List Rq}{n:Nd}(h:n∈LX f 0 l):∃k q,l[k]?=some q∧n=f q k:=by
 obtain⟨k,hk⟩:=B1.1 h;rw[Oz,AT]at hk;obtain⟨q,h1,h2⟩:=hk;exact⟨k,q,h1,by rw[←h2,Be]⟩
theorem Ra{f:Rq→Nat→Nd}(hf:∀q i,(f q i).rq=q):∀(l:List Rq) (i:Nat),(LX f i l).map (·.rq)=l
 | [],_=>rfl
 |q::l,i=>by simp[LX,hf,Ra hf l (i+1)]
abbrev HA(roots:List Rq)(dec:List Cd):List Rq:=roots++(dec.map fun c=>c.rel.reqs).flatten
theorem Ms(roots:List Rq)(dec:List Cd):(Dj roots dec).map (·.rq)=HA roots dec:=by
 unfold Dj XN;rw[Az,Ra (fun _ _=>rfl),Rm,BG]
 congr 2
 exact A8 fun c _=>Ra (fun _ _=>rfl) _ _
theorem FJ(dec:List Cd)(p:ByteArray):Ct (AJ dec) p=CY dec p:=by
 unfold Ct CY AJ;rw[List.any_map];rfl
theorem Je(before:List Sl):∀{l:List Rq} {a p:ByteArray},Dk before l (some a)=some p→p=a∨Ep p a=true
 | [],a,p,h=>by cases h;exact .inl rfl
 |q::l,a,p,h=>by
  unfold Dk at h;split at h
  ·exact Je before h
  ·dsimp only at h;split at h
   ·rename_i hb;rcases Je before h with e | e
    ·exact .inr (by rw[e];exact hb)
    ·exact .inr (DP e hb)
   ·exact Je before h
theorem Ip(before:List Sl):∀{l:List Rq} {a:ByteArray},Dk before l (some a)≠none
 | [],a=>by simp[Dk]
 |q::l,a=>by
  unfold Dk;split
  ·exact Ip before
  ·dsimp only;split<;>exact Ip before
theorem N7{n:Nd}{p:ByteArray}(e:n.rq.path≠p)(L:List Nd):((n::L).filter fun n=>decide (n.rq.path=p))=L.filter fun n=>decide (n.rq.path=p):=by rw[CT,Ai (by simpa using e)]
theorem Vs{n:Nd}{p:ByteArray}(e:n.rq.path=p)(L:List Nd):((n::L).filter fun n=>decide (n.rq.path=p))=n::L.filter fun n=>decide (n.rq.path=p):=by rw[CT,Aq (by simpa using e)]
theorem Mu(dec:List Cd):∀(L:List Nd) (a:ByteArray×List Nd),(a.2≠[]→CY dec a.1=false) →
  L.foldl (Ec dec) a=match Dk (AJ dec) (L.map (·.rq)) (if a.2=[]then none else some a.1)with
   |none=>a
   |some p=>(p,(if a.2≠[]∧a.1=p then a.2 else [])++L.filter fun n=>decide (n.rq.path=p))
 | [],a,h=>by
  obtain⟨p,o⟩:=a;cases o with
  |nil=>simp[Dk]
  |cons n o=>simp[Dk]
 |n::L,a,h=>by
  obtain⟨p0,o⟩:=a;rw[Ea,AK];have qh:∀(acc:Option ByteArray) (l:List Rq),(∀p,acc=some p→CY dec p=false)→∀p,Dk (AJ dec) l acc=some p→CY dec p=false:=fun acc l ha p hp=>by
   have:=((JG (AJ dec) (l:=l) (acc:=acc) (fun p e=>by rw[FJ];exact ha p e)).1 p hp).1
   rw[FJ]at this;exact this
  cases hd:CY dec n.rq.path with
  |true =>
   have e1:Ec dec (p0,o) n=(p0,o):=by unfold Ec;rw[Aq (.inl hd)]
   have e2:Dk (AJ dec) (n.rq::L.map (·.rq)) (if o=[]then none else some p0)=Dk (AJ dec) (L.map (·.rq)) (if o=[]then none else some p0):=by
    conv=>lhs;unfold Dk
    rw[Aq (by rw[FJ];exact hd)]
   rw[e1,e2,Mu dec L (p0,o) h];dsimp only;cases hg:Dk (AJ dec) (L.map (·.rq)) (if o=[]then none else some p0)with
   |none=>rfl
   |some p =>
    dsimp only;have hp:=qh _ _ (fun q e=>by
     split at e
     ·cases e
     ·rename_i ho;cases e;exact h ho) p hg
    have Dt:n.rq.path≠p:=fun e=>by rw[e,hp]at hd;cases hd
    rw[N7 Dt]
  |false =>
   have QH:Ct (AJ dec) n.rq.path=false:=by rw[FJ];exact hd
   by_cases ho:o=[]
   ·subst ho;have e1:Ec dec (p0,[]) n=(n.rq.path,[n]):=by
     unfold Ec;rw[Ai (by simp[hd]),Ai (by simp)];rfl
    have e2:Dk (AJ dec) (n.rq::L.map (·.rq)) none=Dk (AJ dec) (L.map (·.rq)) (some n.rq.path):=by
     conv=>lhs;unfold Dk
     rw[Ai (by rw[QH];decide)]
    rw[e1,Mu dec L (n.rq.path,[n]) (fun _=>hd),Aq rfl,e2];rw[Ai (by simp)];cases hg:Dk (AJ dec) (L.map (·.rq)) (some n.rq.path)with
    |none=>exact absurd hg (Ip _)
    |some p =>
     dsimp only;rw[Ai (show ¬(([]:List Nd)≠[]∧p0=p)from fun h=>h.1 rfl)]
     by_cases e:n.rq.path=p
     ·rw[Vs e,Aq ⟨by simp,e⟩];rfl
     ·rw[N7 e,Ai (fun h=>e h.2)]
   ·have xb:(if o=[]then none else some p0)=some p0:=Ai ho;rw[xb];cases hb:Ep p0 n.rq.path with
    |true =>
     have e1:Ec dec (p0,o) n=(p0,o):=by unfold Ec;rw[Aq (.inr ⟨ho,hb⟩)]
     have Sf:Ep n.rq.path p0=false:=Mf hb;have e2:Dk (AJ dec) (n.rq::L.map (·.rq)) (some p0)=Dk (AJ dec) (L.map (·.rq)) (some p0):=by
      conv=>lhs;unfold Dk
      rw[Ai (by rw[QH];decide)];dsimp only;rw[Ai (by rw[Sf];decide)]
     rw[e1,e2,Mu dec L (p0,o) h];dsimp only;rw[xb];cases hg:Dk (AJ dec) (L.map (·.rq)) (some p0)with
     |none=>rfl
     |some p =>
      dsimp only;have Dt:n.rq.path≠p:=fun e=>by
       rcases Je _ hg with e3 | e3
       ·rw[e,e3,C3]at hb;cases hb
       ·rw[e,Mf e3]at hb;cases hb
      rw[N7 Dt]
    |false =>
     cases Sf:Ep n.rq.path p0 with
     |true =>
      have e1:Ec dec (p0,o) n=(n.rq.path,[n]):=by
       unfold Ec;rw[Ai (by simp[hd,hb]),Aq ⟨ho,Sf⟩]
      have e2:Dk (AJ dec) (n.rq::L.map (·.rq)) (some p0)=Dk (AJ dec) (L.map (·.rq)) (some n.rq.path):=by
       conv=>lhs;unfold Dk
       rw[Ai (by rw[QH];decide)];dsimp only;rw[Aq Sf]
      rw[e1,e2,Mu dec L (n.rq.path,[n]) (fun _=>hd),Ai (by simp)];cases hg:Dk (AJ dec) (L.map (·.rq)) (some n.rq.path)with
      |none=>exact absurd hg (Ip _)
      |some p =>
       dsimp only;have Dt:p0≠p:=fun e=>by
        rcases Je _ hg with e3 | e3
        ·rw[e,e3,C3]at Sf;cases Sf
        ·rw[e]at Sf;rw[Mf e3]at Sf;cases Sf
       rw[Ai (show ¬(o≠[]∧p0=p)from fun h=>Dt h.2)]
       by_cases e:n.rq.path=p
       ·rw[Vs e,Aq ⟨by simp,e⟩];rfl
       ·rw[N7 e,Ai (fun h=>e h.2)]
     |false =>
      have e0:n.rq.path=p0:=Hi Sf hb;have e1:Ec dec (p0,o) n=(p0,o++[n]):=by
       unfold Ec;rw[Ai (by simp[hd,hb]),Ai (by simp[Sf]),e0]
      have e2:Dk (AJ dec) (n.rq::L.map (·.rq)) (some p0)=Dk (AJ dec) (L.map (·.rq)) (some p0):=by
       conv=>lhs;unfold Dk
       rw[Ai (by rw[QH];decide)];dsimp only;rw[Ai (by rw[Sf];decide)]
      rw[e1,e2,Mu dec L (p0,o++[n]) (fun _=>by rw[←e0];exact hd),Ai (by simp)];cases hg:Dk (AJ dec) (L.map (·.rq)) (some p0)with
      |none=>exact absurd hg (Ip _)
      |some p =>
       dsimp only
       by_cases e:p0=p
       ·rw[Vs (e0.trans e),Aq ⟨by simp,e⟩,Aq ⟨ho,e⟩,BF];rfl
       ·rw[N7 (fun h=>e (e0.symm.trans h)),Ai (fun h=>e h.2),Ai (fun h=>e h.2)]
theorem SK(roots:List Rq)(dec:List Cd):Gs roots dec=match Kr (HA roots dec) (AJ dec)with
  |none=>(mt,[])
  |some p=>(p,(Dj roots dec).filter fun n=>decide (n.rq.path=p)):=by
 unfold Gs Kr;rw[Mu dec _ (mt,[]) (fun h=>absurd rfl h),Aq rfl,Ms];cases Dk (AJ dec) (HA roots dec) none with
 |none=>rfl
 |some p=>dsimp only;rw[Ai (by simp)];rfl
theorem SL{roots:List Rq}{dec:List Cd}:(Gs roots dec).2=[]↔Kr (HA roots dec) (AJ dec)=none:=by
 rw[SK];cases h:Kr (HA roots dec) (AJ dec)with
 |none=>simp
 |some p =>
  simp only[reduceCtorEq,iff_false];obtain⟨_,q,hq,e⟩:=SM h;rw[←Ms]at hq;obtain⟨n,hn,rfl⟩:=Ak.1 hq;exact List.ne_nil_of_mem (BH.2 ⟨hn,by simpa using e⟩)
structure nO(roots:List Rq)(dec:List Cd)(p:ByteArray)(l:List Nd):Prop where
 next:Kr (HA roots dec) (AJ dec)=some p
 undone:CY dec p=false
 mem:∀n,n∈l↔n∈Dj roots dec∧n.rq.path=p
theorem Nw{roots:List Rq}{dec:List Cd}{n0:Nd}{l:List Nd}(h:(Gs roots dec).2=n0::l):nO roots dec (Gs roots dec).1 (n0::l):=by
 rw[←h];rw[SK]at *
 cases hp:Kr (HA roots dec) (AJ dec)with
 |none=>rw[hp]at h;cases h
 |some p =>
  dsimp only;refine⟨hp,by rw[←FJ];exact(SM hp).1,fun n=>?_⟩;rw[BH];simp
theorem KI{x:List Rl}{p:ByteArray}{c:Cd}:c∈Cc x p↔∃r∈x,r.path=p∧r.yanked=false∧c=⟨plc r.ver,r⟩:=by
 unfold Cc;simp only[Ak,BH,Ae,Au,CG];constructor
 ·rintro⟨r,⟨h1,h2,h3⟩,rfl⟩;exact⟨r,h1,h2,h3,rfl⟩
 ·rintro⟨r,h1,h2,h3,rfl⟩;exact⟨r,⟨h1,h2,h3⟩,rfl⟩
theorem MA{i:Nf}:∀{l:List Nf} {k m:Nat},Lq i k l=some m→∃j,m=k+j∧l[j]?=some i
 | [],_,_,h=>by cases h
 |y::l,k,m,h=>by
  unfold Lq at h;split at h
  ·rename_i e;cases h;exact⟨0,rfl,by rw[←e];rfl⟩
  ·obtain⟨j,h1,h2⟩:=MA h;exact⟨j+1,by omega,h2⟩
theorem Pt{i:Nf}:∀{l:List Nf} {k:Nat},Lq i k l=none→i∉l
 | [],_,_=>by simp
 |y::l,k,h=>by
  unfold Lq at h;split at h
  ·cases h
  ·rename_i e
   have:=Pt h
   simp only[Av,not_or];exact⟨fun e'=>e e'.symm,this⟩
theorem Qq{α:Type}{d d' : List α}{i:Int}{a:α}(h:Jf d i=some a)(hp:d <+: d'):Jf d' i=some a:=by
 unfold Jf at *
 split at h
 ·cases h
 ·rename_i hi;rw[Ai hi];obtain⟨t,rfl⟩:=hp;rw[AX (Ap.1 h).1];exact h
theorem Xb{x:List Rl}{roots:List Rq}{d d' : List (List Tm)}{i:Nf}{o:List Tm}(h:DN x roots d i=some o)(hp:d <+: d'):DN x roots d' i=some o:=by
 unfold DN at *
 split
 ·rename_i e;rw[Aq e]at h;exact h
 rename_i e0;rw[Ai e0]at h;split
 ·rename_i e;rw[Aq e]at h;exact h
 rename_i e1;rw[Ai e1]at h;split
 ·rename_i e;rw[Aq e]at h;exact h
 rename_i e2;rw[Ai e2]at h;split
 ·rename_i e;rw[Aq e]at h;split
  ·rename_i e4;rw[Aq e4]at h;cases ha:Jf d i.left with
   |none=>rw[ha]at h;cases h
   |some a =>
    cases hb:Jf d i.right with
    |none=>rw[ha,hb]at h;cases h
    |some b =>
     rw[ha,hb]at h;rw[Qq ha hp,Qq hb hp];exact h
  ·rename_i e4;rw[Ai e4]at h;cases h
 ·rename_i e;rw[Ai e]at h;cases h
structure Fg(x:List Rl)(roots:List Rq)(s:SS):Prop where
 der:CX x roots s.infs []=some s.drv
 len:s.infs.length≤65536
theorem Fg.dlen{x:List Rl}{roots:List Rq}{s:SS}(h:Fg x roots s):s.drv.length=s.infs.length:=by simpa using IP h.der
theorem Fg.nil(x:List Rl)(roots:List Rq):Fg x roots r9:=⟨rfl,by simp⟩
theorem Fg.at{x:List Rl}{roots:List Rq}{s:SS}(h:Fg x roots s){k:Nat}{i:Nf}(hk:s.infs[k]?=some i):DN x roots s.drv i=some (s.drv.getD k []):=by
 have h1:=MM h.der (k+1);have h0:=MM h.der k;have Dz:=(Ap.1 hk).1;rw[Bi,hk,GI,h0]at h1;have h1:CX x roots [i] (s.drv.take k)=some (s.drv.take (k+1)):=h1;unfold CX at h1;cases hi:DN x roots (s.drv.take k) i with
 |none=>rw[hi]at h1;cases h1
 |some t =>
  rw[hi]at h1;have h1:some (s.drv.take k++[t])=some (s.drv.take (k+1)):=h1;have hd:k<s.drv.length:=by rw[h.dlen];exact Dz
  have:t=s.drv[k]:=by
   have h2:=Cr h1;rw[J9 hd]at h2;exact List.singleton_inj.1 (List.append_cancel_left h2)
  rw[Xb hi (List.take_prefix ..),this];simp[List.getD_eq_getElem?_getD,hd]
structure Grow(s s' : SS):Prop where
 pre:s.drv <+: s'.drv
 preI:s.infs <+: s'.infs
 full:s.full=true→s'.full=true
theorem Grow.refl(s:SS):Grow s s:=⟨MD,MD,id⟩
theorem Grow.trans{a b c:SS}(h:Grow a b)(k:Grow b c):Grow a c:=⟨h.pre.trans k.pre,h.preI.trans k.preI,fun e=>k.full (h.full e)⟩
theorem Grow.at{s s' : SS}(h:Grow s s'){k:Nat}(hk:k<s.drv.length):DF s' k=DF s k:=by
 obtain⟨t,e⟩:=h.pre;unfold DF;rw[←e,BP,BP,AX hk]
theorem Grow.len{s s' : SS}(h:Grow s s'):s.drv.length≤s'.drv.length:=h.pre.length_le
theorem Kf(s:SS)(i:Nf)(l:List Tm):Grow s (D7 s i l).2:=by
 unfold D7;split
 ·exact .refl s
 ·split
  ·exact⟨MD,MD,fun _=>rfl⟩
  ·exact⟨NL ..,NL ..,id⟩
theorem Ke{x:List Rl}{roots:List Rq}{s:SS}(h:Fg x roots s){i:Nf}{l:List Tm}(hi:DN x roots s.drv i=some l) :
  Fg x roots (D7 s i l).2∧(D7 s i l).1<(D7 s i l).2.drv.length∧((D7 s i l).2.full=false→DF (D7 s i l).2 (D7 s i l).1=l):=by
 have hdl:=h.dlen;unfold D7;split
 ·rename_i k hk;obtain⟨j,e,hj⟩:=MA hk
  have:k=j:=by omega
  subst this;have Dz:=(Ap.1 hj).1;refine⟨h,by show k<s.drv.length;omega,fun _=>?_⟩
  have:=h.at hj
  rw[hi]at this;exact(Cr this).symm
 ·rename_i hk;split
  ·rename_i hf;exact⟨⟨h.der,h.len⟩,by show s.infs.length-1<s.drv.length;omega,fun e=>by cases e⟩
  ·rename_i hf;refine⟨⟨?_,by show(s.infs++[i]).length≤65536;rw[Ad];simp;omega⟩,by show s.infs.length<(s.drv++[l]).length;rw[Ad];simp;omega,fun _=>?_⟩
   ·show CX x roots (s.infs++[i]) []=some (s.drv++[l]);rw[GI,h.der];show CX x roots [i] s.drv=_;unfold CX;rw[hi];rfl
   ·show(s.drv++[l]).getD s.infs.length []=l;rw[←hdl];simp[List.getD_eq_getElem?_getD]
theorem RM(S:List Sl):∀{l:List (List Tm)} {i k:Nat},N0 S i l=some k→∃j,k=i+j∧∃t,l[j]?=some t∧Cp t S=true
 | [],_,_,h=>by cases h
 |t::l,i,k,h=>by
  unfold N0 at h;split at h
  ·rename_i e;cases h;exact⟨0,rfl,t,rfl,e⟩
  ·obtain⟨j,h1,t',h2,h3⟩:=RM S h;exact⟨j+1,by omega,t',h2,h3⟩
theorem Kk{d:List (List Tm)}{S:List Sl}{k:Nat}(h:N1 d S=some k):k<d.length∧Cp (d.getD k []) S=true:=by
 obtain⟨j,h1,t,h2,h3⟩:=RM S h
 have:k=j:=by omega
 subst this;refine⟨(Ap.1 h2).1,?_⟩;rw[BP,h2];exact h3
end Go.Eng
