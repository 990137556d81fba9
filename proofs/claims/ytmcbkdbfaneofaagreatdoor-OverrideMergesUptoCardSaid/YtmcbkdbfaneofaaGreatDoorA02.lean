/- Lemmas for the claims of this seat, without a condition: part 2 (P8, P9, P10, P11, P12, P13, P14, Q1). -/
import Derived.Test.YtmcbkdbfaneofaaGreatDoorA01
import Derived.Lib.SplitLaws
import Derived.Lib.IndexBytes
namespace Go.Eng
def CL(l:Bg):Bg:=(l.map Ee).filter fun x=>decide (x.1<x.2)
theorem OV(a b:Bg):CL (a++b)=CL a++CL b:=by unfold CL;rw[AH,DZ]
theorem Vs{l:Bg}{x:Int×Int}(h:x∈CL l):0≤x.1∧x.1<x.2∧x.2≤1000000:=by
 unfold CL at h;rw[Bo,Ar]at h;obtain⟨⟨y,_,rfl⟩,h2⟩:=h;have h2:=BD h2;refine⟨?_,h2,?_⟩<;>simp only[Ee]<;>omega
theorem cP(l:Bg)(p:Int):(CL l).any (BU p)=has l p:=by
 rw[←KQ]
 induction l with
 |nil=>rfl
 |cons x r ih =>
  have e:CL (x::r)=(if(Ee x).1<(Ee x).2 then [Ee x]else [])++CL r:=by
   unfold CL;rw[AS,ED]
   by_cases h:(Ee x).1<(Ee x).2<;>simp[h]
  have ec:canon (x::r)=if(Ee x).1<(Ee x).2 then Ww (Ee x) (canon r)else canon r:=rfl
  rw[e,HQ,ih,ec]
  by_cases h:(Ee x).1<(Ee x).2
  ·rw[Ax h,Ax h,ON _ p (Cv r) h];simp
  ·rw[Ao h,Ao h];simp
theorem NY:∀{l:Bg} {lo:Int},EY lo l↔(∀y∈l,lo≤y.1∧y.1<y.2∧y.2≤1000000)∧l.Pairwise fun a b=>a.2<b.1
 | [],lo=>by simp[EY]
 |y::r,lo=>by
  rw[BP];constructor
  ·intro h;have hl:=h.low;refine⟨hl,fun z hz=>?_,((NY (l:=r)).1 h.2.2.2).2⟩
   have:=h.2.2.2.low z hz;omega
  ·intro⟨h1,h2,h3⟩;have hy:=h1 y (Ac ..);refine⟨hy.1,hy.2.1,hy.2.2,NY.2 ⟨fun z hz=>?_,h3⟩⟩
   have:=h1 z (Af _ hz)
   have:=h2 z hz
   omega
def JY(r:Bg)(x:Int×Int):Bg:=match r with
 | []=>[x]
 |y::t=>if x.1≤y.2 then(y.1,max y.2 x.2)::t else x::y::t
def Bz(s:Bg):Bg:=s.foldl JY []
theorem FB(s:Bg)(i:Nat)(h:i<s.length):Bz (s.take (i+1))=JY (Bz (s.take i)) s[i]:=by
 unfold Bz;rw[BC,AE h,KH];rfl
theorem fb(r:Bg)(x:Int×Int):(JY r x).length≤r.length+1∧r.length≤(JY r x).length∧0<(JY r x).length:=by
 unfold JY;split
 ·simp
 ·split<;>simp
theorem Ok(s:Bg):∀i,i≤s.length→(Bz (s.take i)).length≤i∧(0<i→0<(Bz (s.take i)).length):=by
 intro i
 induction i with
 |zero=>intro _;simp[Bz]
 |succ i ih =>
  intro h;rw[FB s i (by omega)]
  have:=fb (Bz (s.take i)) s[i]
  have:=ih (by omega)
  omega
structure nU(r done:Bg):Prop where
 ok:∀y∈r,0≤y.1∧y.1<y.2∧y.2≤1000000
 pw:r.Pairwise fun a b=>b.2<a.1
 has:∀p,r.any (BU p)=done.any (BU p)
 first:∀y t,r=y::t→∃x∈done,y.1=x.1
theorem eZ{r done:Bg}{x:Int×Int}(h:nU r done)(hx:0≤x.1∧x.1<x.2∧x.2≤1000000)(hs:∀y∈done,y.1≤x.1):nU (JY r x) (done++[x]):=by
 unfold JY;split
 ·refine⟨fun y hy=>?_,by simp,fun p=>?_,fun y t e=>?_⟩
  ·rw[As.1 hy];exact hx
  ·rw[HQ,←h.has];rfl
  ·cases e;exact⟨x,by simp,rfl⟩
 ·rename_i y t;have hy:=h.ok y (Ac ..);obtain⟨pw1,pw2⟩:=BP.1 h.pw;obtain⟨z,hz,e⟩:=h.first y t rfl
  have qD:=hs z hz;split
  ·rename_i Hr;refine⟨fun u hu=>?_,BP.2 ⟨pw1,pw2⟩,fun p=>?_,fun u t' e'=>?_⟩
   ·rcases Av.1 hu with rfl | hu
    ·exact⟨hy.1,by dsimp only;omega,by dsimp only;omega⟩
    ·exact h.ok u (Af _ hu)
   ·rw[HQ,←h.has,Cf,Cf,Cf,List.any_nil,Bool.or_false]
    have:BU p (y.1,max y.2 x.2)=(BU p y||BU p x):=by
     simp only[BU];rw[B1];simp only[Ah,CF,AB];omega
    rw[this];cases BU p y<;>cases BU p x<;>cases t.any (BU p)<;>rfl
   ·cases e';exact⟨z,Br _ hz,e⟩
  ·rename_i Hr;refine⟨fun u hu=>?_,BP.2 ⟨fun u hu=>?_,h.pw⟩,fun p=>?_,fun u t' e'=>?_⟩
   ·rcases Av.1 hu with rfl | hu
    ·exact hx
    ·exact h.ok u hu
   ·rcases Av.1 hu with rfl | hu
    ·omega
    ·have:=pw1 u hu;omega
   ·rw[HQ,←h.has,Cf,Cf,Cf,List.any_nil,Bool.or_false];cases BU p y<;>cases BU p x<;>cases t.any (BU p)<;>rfl
   ·cases e';exact⟨x,by simp,rfl⟩
theorem au{s:Bg}(GW:∀y∈s,0≤y.1∧y.1<y.2∧y.2≤1000000)(hs:s.Pairwise fun a b=>a.1≤b.1):∀i,i≤s.length→nU (Bz (s.take i)) (s.take i):=by
 intro i
 induction i with
 |zero=>intro _;exact⟨fun _ h=>by simp[Bz]at h,by simp[Bz],fun p=>by simp[Bz],fun y t e=>by simp[Bz]at e⟩
 |succ i ih =>
  intro h;have hi:i<s.length:=by omega
  rw[FB s i hi];have e:s.take (i+1)=s.take i++[s[i]]:=by rw[BC,AE hi];rfl
  rw[e];refine eZ (ih (by omega)) (GW _ (Ak hi)) fun y hy=>?_;obtain⟨j,hj,rfl⟩:=BR.1 hy;rw[ES];rw[AC]at hj;exact(A7.1 hs) j i (by omega) hi (by omega)
theorem LP{l s:Bg}(hp:s.Perm (CL l))(hs:s.Pairwise fun a b=>a.1≤b.1):(Bz s).reverse=canon l:=by
 have hi:=au (s:=s) (fun y hy=>Vs (hp.mem_iff.1 hy)) hs s.length (Al _);rw[Dp]at hi;have hc:EQ (Bz s).reverse:=by
  unfold EQ;rw[NY];refine⟨fun y hy=>hi.ok y (List.mem_reverse.1 hy),?_⟩;rw[List.pairwise_reverse];exact hi.pw
 refine S7 hc fun p=>?_;rw[H1 hc,List.any_reverse,hi.has,←cP];rw[B1,Bb,Bb];constructor
 ·rintro⟨y,h1,h2⟩;exact⟨y,hp.mem_iff.1 h1,h2⟩
 ·rintro⟨y,h1,h2⟩;exact⟨y,hp.mem_iff.2 h1,h2⟩
-- maps from numbers to numbers,as lists in the order in which they are met
def FD(m:List (Int×Int))(k:Int):Int:=match m.find? (fun p=>decide (p.1=k))with | some p=>p.2 | none=>0
def LG(m:List (Int×Int))(k v:Int):List (Int×Int):=if m.any (fun p=>decide (p.1=k))then m.map (fun p=>if p.1=k then(k,v)else p)else m++[(k,v)]
theorem HG(p:Int×Int)(m:List (Int×Int))(k:Int):FD (p::m) k=if p.1=k then p.2 else FD m k:=by
 unfold FD;rw[FO];by_cases h:p.1=k<;>simp[h]
theorem PV(m:List (Int×Int))(k v j:Int):FD (LG m k v) j=if j=k then v else FD m j:=by
 unfold LG;split
 ·rename_i h
  induction m with
  |nil=>simp at h
  |cons p m ih =>
   rw[AS,HG,HG]
   by_cases e:p.1=k
   ·rw[Ax e];dsimp only
    by_cases ej:j=k
    ·subst ej;simp
    ·rw[Ao (fun c=>ej c.symm),Ao ej,Ao (fun c=>ej (c.symm.trans e))]
     by_cases hm:(m.any fun p=>decide (p.1=k))=true
     ·rw[ih hm,Ao ej]
     ·have:∀q∈m,q.1≠k:=fun q hq e=>hm (Bb.2 ⟨q,hq,by simp[e]⟩)
      have:m.map (fun p=>if p.1=k then(k,v)else p)=m:=by
       conv=>rhs;rw[←J9 m]
       exact Bn fun q hq=>by simp[this q hq]
      rw[this]
   ·rw[Ao e];have hm:(m.any fun p=>decide (p.1=k))=true:=by simpa[e]using h
    rw[ih hm]
    by_cases ej:j=k
    ·subst ej;simp[e]
    ·simp[ej]
 ·rename_i h;have hn:∀q∈m,q.1≠k:=fun q hq e=>h (Bb.2 ⟨q,hq,by simp[e]⟩)
  induction m with
  |nil =>
   rw[En,HG]
   by_cases ej:j=k
   ·simp[ej]
   ·have:¬k=j:=fun c=>ej c.symm
    simp[ej,this]
  |cons p m ih =>
   rw[D6,HG,HG];have e:=hn p (Ac ..);have ih:=ih (by simpa[e]using h) fun q hq=>hn q (Af _ hq)
   by_cases ep:p.1=j
   ·have:¬j=k:=fun c=>e (ep.trans c)
    simp[ep,this]
   ·simp only[ep,GJ];exact ih
def Fk(m:List (Int×Int)):List Int:=m.map (·.1)
theorem VR(m:List (Int×Int))(k v:Int):Fk (LG m k v)=if k∈Fk m then Fk m else Fk m++[k]:=by
 unfold LG Fk;have e:(m.any fun p=>decide (p.1=k))=decide (k∈m.map (·.1)):=by
  rw[B1];simp only[Bb,AB,Ar]
 rw[e]
 by_cases h:k∈m.map (·.1)
 ·simp only[h,decide_true,RD,BW];apply Bn;intro p _;simp only[Function.comp];split
  ·rename_i e;exact e.symm
  ·rfl
 ·simp[h]
theorem My{m:List (Int×Int)}(h:(Fk m).Nodup)(k v:Int):(Fk (LG m k v)).Nodup:=by
 rw[VR];split
 ·exact h
 ·rename_i hn;rw[ET];exact⟨h,by simp,fun a ha b hb e=>by subst e;rw[As.1 hb]at ha;exact hn ha⟩
theorem Ix(m:List (Int×Int))(k v j:Int):j∈Fk (LG m k v)↔j=k∨j∈Fk m:=by
 rw[VR];split
 ·rename_i h;constructor
  ·exact .inr
  ·rintro(rfl | h')
   ·exact h
   ·exact h'
 ·simp[or_comm]
theorem kb{m:List (Int×Int)}(h:(Fk m).Nodup){p:Int×Int}(hp:p∈m):FD m p.1=p.2:=by
 induction m with
 |nil=>cases hp
 |cons q m ih =>
  rw[HG];unfold Fk at h ih;rw[AS,Db]at h;rcases Av.1 hp with rfl | hp
  ·simp
  ·have:¬q.1=p.1:=fun e=>h.1 (e▸Ar.2 ⟨p,hp,rfl⟩)
   rw[Ao this];exact ih h.2 hp
theorem kc{m:List (Int×Int)}{k:Int}(h:k∉Fk m):FD m k=0:=by
 unfold FD
 have:m.find? (fun p=>decide (p.1=k))=none:=by
  rw[D0];intro p hp;simp only[AB];exact fun e=>h (Ar.2 ⟨p,hp,e⟩)
 rw[this]
-- counting
def cF(S:Bg)(k:Int):Nat:=S.countP fun x=>decide (x.1=k)
def cT(S:Bg)(k:Int):Nat:=S.countP fun x=>decide (x.2=k)
def lF(S:Bg)(k:Int):Nat:=S.countP fun x=>decide (x.1≤k)
def lT(S:Bg)(k:Int):Nat:=S.countP fun x=>decide (x.2≤k)
theorem Jj{α:Type}{p q r:α→Bool}:∀{l:List α},(∀x∈l,(p x=true↔q x=true∨r x=true)∧¬(q x=true∧r x=true))→l.countP p=l.countP q+l.countP r
 | [],_=>rfl
 |x::l,h=>by
  have ih:=Jj fun y hy=>h y (Af _ hy);obtain⟨h1,h2⟩:=h x (Ac ..);rw[I2,I2,I2,ih];cases hp:p x<;>cases hq:q x<;>cases hr:r x<;>simp_all<;>omega
structure IL(m:List (Int×Int))(S:Bg):Prop where
 nd:(Fk m).Nodup
 val:∀k,FD m k=(cF S k:Int)-cT S k
 keys:0∈Fk m∧1000000∈Fk m∧∀x∈S,x.1∈Fk m∧x.2∈Fk m
 rng:∀k∈Fk m,0≤k∧k≤1000000
def ry:List (Int×Int):=[(0,0),(1000000,0)]
theorem kU:IL ry []:=⟨by decide,fun k=>by
  unfold ry;rw[HG,HG];simp[FD,cF,cT],⟨by decide,by decide,fun _ h=>by cases h⟩,fun k hk=>by
  unfold ry Fk at hk;simp at hk;omega⟩
def Zg(m:List (Int×Int))(x:Int×Int):List (Int×Int):=LG (LG m x.1 (FD m x.1+1)) x.2 (FD (LG m x.1 (FD m x.1+1)) x.2-1)
theorem eY{m:List (Int×Int)}{S:Bg}{x:Int×Int}(h:IL m S)(hx:0≤x.1∧x.1<x.2∧x.2≤1000000):IL (Zg m x) (S++[x]):=by
 unfold Zg;refine⟨My (My h.nd _ _) _ _,fun k=>?_,⟨?_,?_,fun y hy=>?_⟩,fun k hk=>?_⟩
 ·rw[PV,PV,PV,h.val,h.val,h.val];unfold cF cT;simp only[List.countP_append,List.countP_singleton,AB]
  by_cases e1:k=x.2
  ·subst e1
   have:¬x.2=x.1:=by omega
   have:¬x.1=x.2:=by omega
   simp[*];omega
  ·by_cases e2:k=x.1
   ·subst e2
    have:¬x.2=x.1:=by omega
    have:¬x.1=x.2:=by omega
    simp[*];omega
   ·have a1:¬x.1=k:=fun c=>e2 c.symm;have a2:¬x.2=k:=fun c=>e1 c.symm;simp[e1,e2,a1,a2]
 ·rw[Ix,Ix];exact .inr (.inr h.keys.1)
 ·rw[Ix,Ix];exact .inr (.inr h.keys.2.1)
 ·simp only[Ix];rcases A6.1 hy with hy | hy
  ·have:=h.keys.2.2 y hy
   exact⟨.inr (.inr this.1),.inr (.inr this.2)⟩
  ·rw[As.1 hy];exact⟨.inr (.inl rfl),.inl rfl⟩
 ·rw[Ix,Ix]at hk;rcases hk with rfl | rfl | hk
  ·omega
  ·omega
  ·exact h.rng k hk
def IY(m:List (Int×Int))(B:List Int):Int:=(B.map (FD m)).foldl (·+·) 0
theorem Rb(m:List (Int×Int))(B:List Int)(i:Nat)(h:i<B.length):IY m (B.take (i+1))=IY m (B.take i)+FD m B[i]:=by
 unfold IY;rw[BC,AE h,AH,KH];simp only[Option.toList_some,AS,Fm,FQ,List.foldl_nil]
structure kz(B:List Int)(m:List (Int×Int)):Prop where
 perm:B.Perm (Fk m)
 srt:B.Pairwise fun a b=>a<b
theorem cj{m:List (Int×Int)}{S:Bg}{B:List Int}(h:IL m S)(hB:kz B m):∀i (hi:i<B.length),IY m (B.take (i+1))=(lF S B[i]:Int)-lT S B[i]:=by
 have mem:∀k,k∈Fk m→∃j,∃hj:j<B.length,B[j]=k:=fun k hk=>by
  have:=hB.perm.mem_iff.2 hk
  obtain⟨j,hj,e⟩:=BR.1 this;exact⟨j,hj,e⟩
 have lt:∀i j (hi:i<B.length) (hj:j<B.length),i<j→B[i]<B[j]:=fun i j hi hj VF=>(A7.1 hB.srt) i j hi hj VF;intro i
 induction i with
 |zero =>
  intro hi;rw[Rb m B 0 hi,h.val]
  have:IY m (B.take 0)=0:=by simp[IY]
  rw[this];have low:∀k∈Fk m,B[0]≤k:=fun k hk=>by
   obtain⟨j,hj,rfl⟩:=mem k hk;cases j with
   |zero=>exact AZ _
   |succ j=>have:=lt 0 (j+1) hi hj (by omega);omega
  have e1:lF S B[0]=cF S B[0]:=by
   unfold lF cF;apply Rj;intro x hx
   have:=low _ (h.keys.2.2 x hx).1
   simp only[AB];omega
  have e2:lT S B[0]=cT S B[0]:=by
   unfold lT cT;apply Rj;intro x hx
   have:=low _ (h.keys.2.2 x hx).2
   simp only[AB];omega
  rw[e1,e2];omega
 |succ i ih =>
  intro hi;rw[Rb m B (i+1) hi,ih (by omega),h.val];have nb:∀k∈Fk m,k≤B[i+1]↔k≤B[i]∨k=B[i+1]:=fun k hk=>by
   obtain⟨j,hj,rfl⟩:=mem k hk;have l0:=lt i (i+1) (by omega) hi (by omega);rcases Nat.lt_trichotomy j (i+1)with c | c | c
   ·have:B[j]≤B[i]:=by
     rcases Ch j i with d | d
     ·have:=lt j i hj (by omega) d;omega
     ·have:j=i:=by omega
      subst this;exact AZ _
    omega
   ·subst c;omega
   ·have:=lt (i+1) j hi hj c;omega
  have l0:=lt i (i+1) (by omega) hi (by omega);have e1:lF S B[i+1]=lF S B[i]+cF S B[i+1]:=by
   unfold lF cF;apply Jj;intro x hx
   have:=nb _ (h.keys.2.2 x hx).1
   simp only[AB];omega
  have e2:lT S B[i+1]=lT S B[i]+cT S B[i+1]:=by
   unfold lT cT;apply Jj;intro x hx
   have:=nb _ (h.keys.2.2 x hx).2
   simp only[AB];omega
  rw[e1,e2];omega
theorem XT{S:Bg}(hS:∀x∈S,x.1<x.2)(p:Int):(lF S p:Int)-lT S p=(S.countP (BU p):Nat):=by
 have:lF S p=S.countP (BU p)+lT S p:=by
  unfold lF lT;apply Jj;intro x hx
  have:=hS x hx
  simp only[BU,Ah,AB];omega
 omega
theorem OW:∀{l:Bg} {lo:Int} (p:Int),EY lo l→l.countP (BU p)=if l.any (BU p)then 1 else 0
 | [],_,_,_=>rfl
 |y::r,lo,p,⟨h1,h2,h3,h4⟩=>by
  rw[I2,OW p h4,Cf];cases hy:BU p y with
  |false=>rw[JD];simp
  |true =>
   have:=DS.1 hy
   have:r.any (BU p)=false:=by
    rw[AF];intro hr;have:=MT h4 hr;omega
   simp[this]
theorem Mi:∀(l:List Bg) (p:Int),((l.map canon).flatten).countP (BU p)=fm l p
 | [],_=>rfl
 |s::l,p=>by
  rw[AS,BJ,List.countP_append,Mi l p,OW p (Cv s),KQ];unfold fm;rw[I2];omega
def EI(keep:Nat→Bool)(m:List (Int×Int))(B:List Int):Nat→Bg
 |0=>[]
 |i+1=>EI keep m B i++(match B[i]?,B[i+1]? with
  |some a,some b=>if keep (IY m (B.take (i+1))).toNat then [(a,b)]else []
  |_,_=>[])
theorem Qz{keep:Nat→Bool}{m:List (Int×Int)}{B:List Int}{x:Int×Int}:∀{n:Nat},x∈EI keep m B n↔∃i,i<n∧∃(h1:i<B.length) (h2:i+1<B.length),keep (IY m (B.take (i+1))).toNat=true∧x=(B[i],B[i+1])
 |0=>by simp[EI]
 |n+1=>by
  unfold EI;rw[A6,Qz (n:=n)];constructor
  ·rintro(⟨i,h1,h2⟩ | h)
   ·exact⟨i,by omega,h2⟩
   ·split at h
    ·rename_i a b ha hb;obtain⟨h1,e1⟩:=Aw.1 ha;obtain⟨h2,e2⟩:=Aw.1 hb;split at h
     ·rename_i hk;refine⟨n,by omega,h1,h2,hk,?_⟩;rw[As.1 h,e1,e2]
     ·cases h
    ·cases h
  ·rintro⟨i,h1,h2,h3,h4,rfl⟩
   by_cases e:i=n
   ·subst e;refine .inr ?_;rw[AE h2,AE h3];simp[h4]
   ·exact .inl ⟨i,by omega,h2,h3,h4,rfl⟩
theorem OS{B:List Int}(hs:B.Pairwise fun a b=>a<b){p:Int}:∀(n:Nat) (h0:0<B.length) (hn:n<B.length),B[0]≤p→p<B[n]→∃i,∃(h1:i<B.length) (h2:i+1<B.length),B[i]≤p∧p<B[i+1]
 |0,h0,hn,h1,h2=>by omega
 |n+1,h0,hn,h1,h2=>by
  by_cases e:B[n]≤p
  ·exact⟨n,by omega,hn,e,h2⟩
  ·exact OS hs n h0 (by omega) h1 (by omega)
theorem iJ{keep:Nat→Bool}{l:List Bg}{m:List (Int×Int)}{B:List Int}(h:IL m (l.map canon).flatten)(hB:kz B m)(p:Int):has (EI keep m B (B.length-1)) p=(L4 p&&keep (fm l p)):=by
 have hS:∀x∈(l.map canon).flatten,x.1<x.2:=fun x hx=>by
  obtain⟨s,hs,hx⟩:=EF.1 hx;obtain⟨t,_,rfl⟩:=Ar.1 hs;exact((Cv t).low x hx).2.1
 have mem:∀k,k∈Fk m→∃j,∃hj:j<B.length,B[j]=k:=fun k hk=>by
  obtain⟨j,hj,e⟩:=BR.1 (hB.perm.mem_iff.2 hk);exact⟨j,hj,e⟩
 have lt:∀i j (hi:i<B.length) (hj:j<B.length),i<j→B[i]<B[j]:=fun i j hi hj VF=>(A7.1 hB.srt) i j hi hj VF;have rng:∀i (hi:i<B.length),0≤B[i]∧B[i]≤1000000:=fun i hi=>h.rng _ (hB.perm.mem_iff.1 (Ak hi))
 -- WD two bounds
 have WD:∀i (h1:i<B.length) (h2:i+1<B.length),B[i]≤p→p<B[i+1]→(IY m (B.take (i+1))).toNat=fm l p:=fun i h1 h2 a b=>by
  have same:∀k∈Fk m,k≤B[i]↔k≤p:=fun k hk=>by
   obtain⟨j,hj,rfl⟩:=mem k hk;constructor
   ·intro c;omega
   ·intro c;rcases Ch i j with d | d
    ·rcases Ch (i+1) j with f | f
     ·have:=lt (i+1) j h2 hj f;omega
     ·have:j=i+1:=by omega
      subst this;omega
    ·rcases Ch j i with f | f
     ·have:=lt j i hj h1 f;omega
     ·have:j=i:=by omega
      subst this;exact AZ _
  have e1:lF (l.map canon).flatten B[i]=lF (l.map canon).flatten p:=by
   unfold lF;apply Rj;intro x hx
   have:=same _ (h.keys.2.2 x hx).1
   simp only[AB];exact this
  have e2:lT (l.map canon).flatten B[i]=lT (l.map canon).flatten p:=by
   unfold lT;apply Rj;intro x hx
   have:=same _ (h.keys.2.2 x hx).2
   simp only[AB];exact this
  rw[cj h hB i h1,e1,e2,XT hS,Mi];simp
 rw[B1];constructor
 ·intro hh;have Zn:=Ms hh;unfold has at hh;simp only[Zn,decide_true,EP]at hh;obtain⟨x,hx,hp⟩:=Bb.1 hh;obtain⟨i,_,h1,h2,hk,rfl⟩:=Qz.1 hx
  have:=DS.1 hp
  dsimp only at this;rw[←WD i h1 h2 this.1 this.2];simp[L4,Zn,hk]
 ·intro hh;simp only[Ah,L4,AB]at hh;obtain⟨⟨p0,p1⟩,hk⟩:=hh;obtain⟨j0,hj0,e0⟩:=mem 0 h.keys.1;obtain⟨j1,hj1,e1⟩:=mem 1000000 h.keys.2.1;have wL:B[0]'(by omega)≤p:=by
   have:B[0]'(by omega)≤0:=by
    cases j0 with
    |zero=>omega
    |succ j=>have:=lt 0 (j+1) (by omega) hj0 (by omega);omega
   omega
  obtain⟨i,h1,h2,a,b⟩:=OS hB.srt j1 (by omega) hj1 wL (by omega);unfold has;simp only[p0,p1,decide_true,EP];exact Bb.2 ⟨(B[i],B[i+1]),Qz.2 ⟨i,by omega,h1,h2,by rw[WD i h1 h2 a b];exact hk,rfl⟩,DS.2 ⟨a,b⟩⟩
theorem jU{l:List Bg}{m:List (Int×Int)}{B:List Int}(h:IL m (l.map canon).flatten)(hB:kz B m)(i:Nat)(hi:i<B.length):0≤IY m (B.take (i+1))∧IY m (B.take (i+1))≤l.length:=by
 have hS:∀x∈(l.map canon).flatten,x.1<x.2:=fun x hx=>by
  obtain⟨s,hs,hx⟩:=EF.1 hx;obtain⟨t,_,rfl⟩:=Ar.1 hs;exact((Cv t).low x hx).2.1
 rw[cj h hB i hi,XT hS,Mi]
 have:fm l B[i]≤l.length:=List.countP_le_length
 omega
def Xh(m:List Tm)(t:Tm):List Tm:=if m.any (fun u=>decide (u.path=t.path))then m.map (fun u=>if u.path=t.path then t else u)else m++[t]
def RT(m:List Tm)(t:Tm):List Tm:=Xh m (Ot (Dy m t.path) t)
def Dh(l:List Tm):List Tm:=l.foldl RT []
theorem c8(t:Tm)(p:ByteArray):∀m:List Tm,Dy (Xh m t) p=if t.path=p then some t else Dy m p:=by
 intro m;unfold Xh
 by_cases h:(m.any fun u=>decide (u.path=t.path))=true
 ·rw[Ax h]
  induction m with
  |nil=>simp at h
  |cons u m ih =>
   rw[AS,CX,CX]
   by_cases e:u.path=t.path
   ·rw[Ax e]
    by_cases ep:t.path=p
    ·simp[ep]
    ·rw[Ao ep,Ao ep,Ao (fun c=>ep (e.symm.trans c))]
     by_cases hm:(m.any fun u=>decide (u.path=t.path))=true
     ·rw[ih hm,Ao ep]
     ·have:∀q∈m,q.path≠t.path:=fun q hq c=>hm (Bb.2 ⟨q,hq,by simp[c]⟩)
      have:m.map (fun u=>if u.path=t.path then t else u)=m:=by
       conv=>rhs;rw[←J9 m]
       exact Bn fun q hq=>by simp[this q hq]
      rw[this]
   ·rw[Ao e];have hm:(m.any fun u=>decide (u.path=t.path))=true:=by simpa[e]using h
    rw[ih hm]
    by_cases ep:t.path=p
    ·subst ep;simp[e]
    ·simp[ep]
 ·rw[Ao h];have hn:∀q∈m,q.path≠t.path:=fun q hq e=>h (Bb.2 ⟨q,hq,by simp[e]⟩)
  clear h
  induction m with
  |nil=>rw[En,CX]
  |cons u m ih =>
   rw[D6,CX,CX,ih fun q hq=>hn q (Af _ hq)]
   have:=hn u (Ac ..)
   by_cases e:u.path=p
   ·have:¬t.path=p:=fun c=>this (e.trans c.symm)
    simp[e,this]
   ·simp[e]
def EJ(m:List Tm):List ByteArray:=m.map (·.path)
open Classical in
theorem aF(m:List Tm)(t:Tm):EJ (Xh m t)=if t.path∈EJ m then EJ m else EJ m++[t.path]:=by
 unfold Xh EJ;have e:(m.any fun u=>decide (u.path=t.path))=true↔t.path∈m.map (·.path):=by
  simp only[Bb,AB,Ar]
 by_cases h:t.path∈m.map (·.path)
 ·rw[Ax (e.2 h),Ax h,BW];apply Bn;intro p _;simp only[Function.comp];split
  ·rename_i e;exact e.symm
  ·rfl
 ·rw[Ao (fun c=>h (e.1 c)),Ao h,AH];rfl
theorem dP{m:List Tm}(h:(EJ m).Nodup)(t:Tm):(EJ (Xh m t)).Nodup:=by
 rw[aF];split
 ·exact h
 ·rename_i hn;rw[ET];exact⟨h,by simp,fun a ha b hb e=>by subst e;rw[As.1 hb]at ha;exact hn ha⟩
theorem RK(l:List Tm)(i:Nat)(h:i<l.length):Dh (l.take (i+1))=RT (Dh (l.take i)) l[i]:=by
 unfold Dh;rw[BC,AE h,KH];rfl
theorem Pj:∀(l m:List Tm),(EJ m).Nodup→(EJ (l.foldl RT m)).Nodup
 | [],_,h=>h
 |_::l,_,h=>Pj l _ (dP h _)
theorem H7(l:List Tm):(EJ (Dh l)).Nodup:=Pj l [] .nil
theorem X6(m:List Tm)(t:Tm)(p:ByteArray):Dy (RT m t) p=Kp p (Dy m p) t:=by
 unfold RT Kp;have hp:(Ot (Dy m t.path) t).path=t.path:=QN _ _ fun u h=>Hq h;rw[c8,hp]
 by_cases e:t.path=p
 ·rw[Ax e,Ax e,e]
 ·rw[Ao e,Ao e]
theorem Pg(p:ByteArray):∀(l m:List Tm),Dy (l.foldl RT m) p=l.foldl (Kp p) (Dy m p)
 | [],_=>rfl
 |t::l,m=>by rw[FQ,FQ,Pg p l,X6]
theorem ZS(l:List Tm)(p:ByteArray):Dy (Dh l) p=Dy (Fd l) p:=by
 unfold Dh;rw[Pg,Jm];rfl
theorem Mn{m:List Tm}(h:(EJ m).Nodup){t:Tm}:t∈m↔Dy m t.path=some t:=by
 constructor
 ·induction m with
  |nil=>intro h;cases h
  |cons u m ih =>
   intro ht;unfold EJ at h ih;rw[AS,Db]at h;rw[CX];rcases Av.1 ht with rfl | ht
   ·rw[Ax rfl]
   ·have:¬u.path=t.path:=fun e=>h.1 (e▸Ar.2 ⟨t,ht,rfl⟩)
    rw[Ao this];exact ih h.2 ht
 ·exact Fs
theorem H9{m:List Tm}(h:(EJ m).Nodup):m.Nodup:=by
 unfold EJ at h
 induction m with
 |nil=>exact .nil
 |cons u m ih =>
  rw[AS,Db]at h;exact Db.2 ⟨fun hu=>h.1 (Ar.2 ⟨u,hu,rfl⟩),ih h.2⟩
theorem Ih{l:List Tm}{lo:Option ByteArray}(h:Cp lo l):(EJ l).Nodup:=by
 unfold EJ
 induction l generalizing lo with
 |nil=>exact .nil
 |cons t l ih =>
  rw[AS,Db];refine⟨fun hm=>?_,ih h.2.2⟩;obtain⟨u,hu,e⟩:=Ar.1 hm
  have:=h.2.2.low u hu
  rw[e,CW]at this;cases this
theorem Jy(l:List Tm)(t:Tm):t∈Dh l↔t∈Fd l:=by
 rw[Mn (H7 l),ZS,←Mn (Ih (EB l))]
theorem PA(l:List Tm):∀t∈Dh l,EQ t.set:=fun t ht=>(EB l).canon t ((Jy l t).1 ht)
theorem fc(m:List Tm)(t:Tm):(RT m t).length≤m.length+1:=by
 unfold RT Xh;split<;>simp
theorem Oj(l:List Tm):∀i,i≤l.length→(Dh (l.take i)).length≤i:=by
 intro i
 induction i with
 |zero=>intro _;simp[Dh]
 |succ i ih =>
  intro h;rw[RK l i (by omega)]
  have:=fc (Dh (l.take i)) l[i]
  have:=ih (by omega)
  omega
theorem aQ{s:List Tm}(hs:s.Pairwise fun x y=>EM x.path y.path=true)(hc:∀t∈s,EQ t.set):Cp none s:=by
 have:∀(s:List Tm) (lo:Option ByteArray),s.Pairwise (fun x y=>EM x.path y.path=true)→(∀t∈s,EQ t.set)→(∀p,lo=some p→∀t∈s,EM p t.path=true)→Cp lo s:=by
  intro s
  induction s with
  |nil=>intro _ _ _ _;trivial
  |cons t s ih =>
   intro lo hs hc hl;obtain⟨h1,h2⟩:=BP.1 hs;exact⟨fun p e=>hl p e t (Ac ..),hc t (Ac ..),ih _ h2 (fun u hu=>hc u (Af _ hu)) fun p e u hu=>by cases e;exact h1 u hu⟩
 exact this s none hs hc fun _ e=>by cases e
theorem Ql{l s:List Tm}(q:Tm→Bool)(hp:s.Perm ((Dh l).filter q))(hs:s.Pairwise fun x y=>EM y.path x.path=false):s=(Fd l).filter q:=by
 have hm:∀t,t∈s↔t∈(Fd l).filter q:=fun t=>by
  rw[hp.mem_iff,Bo,Bo,Jy]
 have Sb:(EJ s).Nodup:=by
  have h1:(EJ ((Dh l).filter q)).Nodup:=by
   unfold EJ;exact List.Nodup.sublist (List.Sublist.map _ List.filter_sublist) (H7 l)
  unfold EJ at h1⊢;exact(hp.map (·.path)).nodup_iff.2 h1
 have JM:s.Pairwise fun x y=>EM x.path y.path=true:=by
  rw[A7]at hs⊢;intro i j hi hj VF;cases hb:EM s[i].path s[j].path with
  |true=>rfl
  |false =>
   have e:=HT hb (hs i j hi hj VF);unfold EJ at Sb
   have:=(A7.1 Sb) i j (by simpa using hi) (by simpa using hj) VF
   simp at this;exact absurd e this
 have z6:Cp none s:=aQ JM fun t ht=>(EB l).canon t (Bo.1 ((hm t).1 ht)).1;have fy:Cp none ((Fd l).filter q):=Cp.filter q (EB l);refine MR z6 fy fun p=>?_;cases h1:Dy s p with
 |some t =>
  have:=(hm t).1 (Fs h1)
  rw[FZ fy,Hq h1]at this;exact this.symm
 |none =>
  cases h2:Dy ((Fd l).filter q) p with
  |none=>rfl
  |some t =>
   have:=(hm t).2 (Fs h2)
   rw[FZ z6,Hq h2,h1]at this;cases this
theorem ZF(t:Tm):Hc t t=LO t:=by unfold Hc LO;rw[aj,Bool.and_self]
theorem bZ(o:Option Tm)(t:Tm):Ot o t=Hc (o.getD t) t:=by cases o with | none=>exact(ZF t).symm | some u=>rfl
theorem cC{t:Tm}(h:EQ t.set):(t.absent&&(Ev t.set).isEmpty)=GT t:=by
 unfold GT
 congr 1
 rw[B1,Gc,AB];have ha:EQ [(0,1000000)]:=⟨AZ _,by dsimp only;omega,AZ _,trivial⟩;constructor
 ·intro e;refine HU h ha fun p=>?_
  have:=F0 t.set p
  rw[e]at this;have h0:has [] p=false:=by simp[has]
  rw[h0]at this;have h1:has [(0,1000000)] p=L4 p:=by simp[has,L4,BU]
  rw[h1];cases hp:L4 p with
  |true=>rw[hp]at this;simpa using this.symm
  |false =>
   rw[AF];intro hh
   have:=Ms hh
   simp[L4,this]at hp
 ·intro e;rw[QI (Hy _)];intro p;rw[F0,e];have h1:has [(0,1000000)] p=L4 p:=by simp[has,L4,BU]
  rw[h1];simp
theorem iX{t:Tm}(h:EQ t.set):(!t.absent&&(canon t.set).isEmpty)=H8 t:=by unfold H8;rw[JG h]
end Go.Eng
namespace Go.Eng
open Go.Lib
theorem QZ(c:UInt8):∀(s:List UInt8) (k:Nat),s.count c≤k→splitK [c] 0 k s=CO c s
 | [],k,_=>by
  cases k with
  |zero=>rfl
  |succ k=>rfl
 |b::r,k,h=>by
  rw[CO]
  by_cases e:b=c
  ·subst e;rw[List.count_cons_self]at h;obtain⟨k',rfl⟩:∃k',k=k'+1:=⟨k-1,by omega⟩;rw[Ax rfl,splitK,index_one,indexByte];simp only[beq_self_eq_true,RD];rw[Ao (by decide)];show []::splitK [b] 0 k' r=_;rw[QZ b r k' (by omega)]
  ·have DL:(b == c)=false:=by simpa using e
   rw[List.count_cons_of_ne (by simpa using e)]at h;have ih:=QZ c r k h;rw[Ao e];cases k with
   |zero =>
    rw[←ih];rfl
   |succ k =>
    rw[←ih,splitK,splitK,index_one,index_one,indexByte,DL]
    by_cases h0:indexByte r c=-1
    ·rw[h0];rfl
    ·have h1:(indexByte r c == -1)=false:=by simpa using h0
     have h2:=indexByte_ge r c;have h3:(indexByte r c+1 == -1)=false:=by rw[beq_eq_false_iff_ne];omega
     simp only[Dz,GJ,h1,h3];obtain⟨i,hi⟩:∃i:Nat,indexByte r c=i:=⟨(indexByte r c).toNat,by omega⟩;rw[hi];show(b::r).take (((i:Int)+1).toNat+0)::_=(b::r.take ((i:Int).toNat+0))::_;rw[show((i:Int)+1).toNat=i+1 by omega,show((i:Nat):Int).toNat=i by omega]
     rfl
theorem XS(c:UInt8):∀(n:Nat) (s:List UInt8),s.length≤n→count s [c]=s.count c
 |n,s,hn=>by
  rcases Int.lt_or_le (indexByte s c) 0 with h | h
  ·have h2:=indexByte_ge s c;have h3:indexByte s c=-1:=by omega
   rw[count_miss (by rw[index_one];exact h3)]
   symm
   rw[List.count_eq_zero];intro hm;obtain⟨k,hk,e⟩:=Cc hm;exact indexByte_none h3 k (by rw[AE hk,e])
  ·obtain⟨i,hi⟩:∃i:Nat,indexByte s c=i:=⟨(indexByte s c).toNat,by omega⟩;obtain⟨h1,h2⟩:=indexByte_some hi;obtain⟨hl,hg⟩:=Aw.1 h1;cases n with
   |zero=>omega
   |succ n =>
    have hc:=count_hit (s:=s) (sub:=[c]) (i:=i) (by simp) (by rw[index_one];exact hi);rw[hc];have ih:=XS c n (s.drop (i+1)) (by rw[Ap];omega);have qB:s=s.take i++c::s.drop (i+1):=by
     rw[←hg,←Be hl,Gp]
    have h0:(s.take i).count c=0:=by
     rw[List.count_eq_zero];intro hm;obtain⟨k,hk,e⟩:=Cc hm;rw[AC]at hk;rw[ES]at e;exact h2 k (by omega) (by rw[AE (by omega),e])
    conv=>rhs;rw[qB]
    rw[List.count_append,h0,List.count_cons_self];show 1+count (s.drop (i+1)) [c]=_;rw[ih];omega
theorem eX(s:ByteArray)(c:UInt8):((splitB ⟨#[c]⟩ 0 (countB s ⟨#[c]⟩) s).map (·.data.toList))=CO c s.data.toList:=by
 rw[splitB_data];refine QZ c _ _ ?_;show _≤count s.data.toList [c];rw[XS c _ _ (Al _)];exact Al _
end Go.Eng
namespace Go.Eng
theorem VZ{α:Type}:∀{l m:List α},l.Nodup→(∀x∈l,x∈m)→l.length≤m.length
 | [],_,_,_=>AG _
 |a::l,m,hn,hs=>by
  obtain⟨h1,h2⟩:=Db.1 hn;obtain⟨s,t,rfl⟩:=List.append_of_mem (hs a (Ac ..))
  have:l.length≤(s++t).length:=VZ h2 fun x hx=>by
   rcases A6.1 (hs x (Af _ hx))with h | h
   ·exact Br _ h
   ·rcases Av.1 h with rfl | h
    ·exact absurd hx h1
    ·exact Bv _ h
  simp only[Ad,Au]at this⊢;omega
theorem LR(p:ByteArray):∀(l:List Tm) (o:Option Tm),(∀u∈l,u.path≠p)→l.foldl (Kp p) o=o
 | [],_,_=>rfl
 |t::l,o,h=>by
  rw[FQ,show Kp p o t=o by unfold Kp;rw[Ao (h t (Ac ..))]];exact LR p l o fun u hu=>h u (Af _ hu)
theorem ax{l:List Tm}{t:Tm}(h:t∈Fd l):∃u∈l,u.path=t.path:=by
 apply Bj;intro hn
 have:∀u∈l,u.path≠t.path:=fun u hu e=>hn ⟨u,hu,e⟩
 have h1:=(FZ (EB l)).1 h;rw[Jm,LR _ _ _ this]at h1;cases h1
def Vb(U:List ByteArray)(t:List Tm):Prop:=Cp none t∧∀u∈t,u.path∈U
theorem Vb.len{U:List ByteArray}{t:List Tm}(h:Vb U t):t.length≤U.length:=by
 have:=VZ (Ih h.1) (m:=U) fun p hp=>by
  obtain⟨u,hu,rfl⟩:=Ar.1 hp;exact h.2 u hu
 unfold EJ at this
 rwa [Bh]at this
theorem ZH{l c:List Tm}(h:C3 l=some c){t:Tm}(ht:t∈c):t∈Fd l:=by
 unfold C3 at h;split at h
 ·cases h
 ·cases h;exact(Bo.1 ht).1
theorem Qk{U:List ByteArray}{l c:List Tm}(h:C3 l=some c)(hu:∀u∈l,u.path∈U):Vb U c :=
 ⟨E2 h,fun t ht=>by
  obtain⟨u,h1,h2⟩:=ax (ZH h ht);rw[←h2];exact hu u h1⟩
theorem Vb.nil(U:List ByteArray):Vb U []:=⟨trivial,fun u hu=>by cases hu⟩
theorem Uh{U:List ByteArray}{l:List Tm}(hu:∀u∈l,u.path∈U):Vb U (QJ l):=by
 unfold QJ;cases h:C3 l with
 |none=>exact .nil U
 |some c=>exact Qk h hu
theorem RQ{U:List ByteArray}{a b:List Tm}{p:ByteArray}(ha:Vb U a)(hb:Vb U b):Vb U (BH a b p).1:=by
 have sp:∀{l r:List Tm} {t:Tm},Vb U l→FF l p=some (t,r)→t.path∈U∧∀u∈r,u.path∈U:=by
  intro l r t hl h;unfold FF at h;cases e:C3 l with
  |none=>rw[e]at h;cases h
  |some c =>
   rw[e]at h;have h:(match Dy c p with | none=>none | some t=>some (t,F6 c p))=some (t,r):=h;have hc:=Qk e hl.2;cases e2:Dy c p with
   |none=>rw[e2]at h;cases h
   |some u =>
    rw[e2]at h;cases h;exact⟨hc.2 _ (Fs e2),fun u hu=>hc.2 u (Bo.1 hu).1⟩
 unfold BH;split
 ·rename_i t r u m e1 e2;obtain⟨a1,a2⟩:=sp ha e1;obtain⟨b1,b2⟩:=sp hb e2;split
  ·rename_i o e3;refine Qk e3 fun v hv=>?_;rcases A6.1 hv with hv | hv
   ·rcases A6.1 hv with hv | hv
    ·exact a2 v hv
    ·exact b2 v hv
   ·rw[As.1 hv];exact a1
  ·exact .nil U
 ·exact .nil U
def KD(x:List Rl)(roots:List Rq)(l:List Nf):List ByteArray:=(x.map (·.path))++((x.map (·.reqs)).flatten.map (·.path)++(roots.map (·.path)++l.map (·.path)))
theorem dx{x:List Rl}{roots:List Rq}{l:List Nf}{d:List (List Tm)}{i:Nf}(hi:i∈l)(hd:∀t∈d,Vb (KD x roots l) t){t:List Tm}(h:DY x roots d i=some t):Vb (KD x roots l) t:=by
 have hp:i.path∈KD x roots l:=by
  unfold KD;exact Bv _ (Bv _ (Bv _ (Ar.2 ⟨i,hi,rfl⟩)))
 have nz:∀{α:Type} {l:List α} {k:Int} {a:α},JS l k=some a→a∈l:=by
  intro α l k a h;unfold JS at h;split at h
  ·cases h
  ·exact AA h
 have n0:∀{a b:List Tm},dJ a=some b→b=a:=by
  intro a b h;unfold dJ at h;split at h
  ·cases h
  ·cases h;rfl
 unfold DY at h;split at h
 ·split at h
  ·cases e:JS roots i.number with
   |none=>rw[e]at h;cases h
   |some q =>
    rw[e]at h;cases h;refine Uh fun u hu=>?_;rw[As.1 hu];unfold KD;exact Bv _ (Bv _ (Br _ (Ar.2 ⟨q,nz e,rfl⟩)))
  ·cases h
 split at h
 ·split at h
  ·cases e:PK x i.path i.place with
   |none=>rw[e]at h;cases h
   |some r =>
    rw[e]at h;have h:(match JS r.reqs i.number with | none=>none | some q=>dJ (Eu i.path i.place q))=some t:=h;cases e2:JS r.reqs i.number with
    |none=>rw[e2]at h;cases h
    |some q =>
     rw[e2]at h;have h:=n0 (show dJ (Eu i.path i.place q)=some t from h);subst h;refine Uh fun u hu=>?_;rcases Av.1 hu with rfl | hu
     ·exact hp
     ·rw[As.1 hu];unfold KD;refine Bv _ (Br _ (Ar.2 ⟨q,?_,rfl⟩));exact EF.2 ⟨r.reqs,Ar.2 ⟨r,CR e,rfl⟩,nz e2⟩
  ·cases h
 split at h
 ·split at h
  ·have h:=n0 h;subst h;refine Uh fun u hu=>?_;rw[As.1 hu];exact hp
  ·cases h
 split at h
 ·split at h
  ·cases e:JS d i.left with
   |none=>rw[e]at h;cases h
   |some a =>
    cases e2:JS d i.right with
    |none=>rw[e,e2]at h;cases h
    |some b =>
     rw[e,e2]at h;have h:(if(BH a b i.path).2=0 then some (BH a b i.path).1 else none)=some t:=h;split at h
     ·cases h;exact RQ (hd a (nz e)) (hd b (nz e2))
     ·cases h
  ·cases h
 ·cases h
def pE:List (List UInt8):=[[97,110,100],[97,110,121],[97,115],[98,111,111,108],[100,101,112,114,101,99,97,116,101,100],[101,108,115,101],[101,120,112,111,114,116],[102,97,108,115,101],[102,110],[102,111,108,100],[102,114,111,109],[105,102],[105,109,112,111,114,116],[105,110],[105,110,116],[108,101,110,103,116,104],[108,101,116],[108,105,115,116],[109,97,116,99,104],[109,111,100,117,108,101],[110,111,110,101],[110,111,116],[111,114],[116,101,120,116],[116,104,101,110],[116,114,117,101],[116,121,112,101],[117,115,101]]
theorem dA:ao=32::pE.flatMap (fun w=>w++[32]):=by decide +kernel
theorem pF:∀w∈pE,∀c∈w,c≠32:=by decide +kernel
theorem V5:∀(s w r:List UInt8),(∀c∈s,c≠32)→(∀c∈w,c≠32)→Nt (s++[32]) (w++32::r)=decide (w=s)
 | [],[],r,_,_=>by simp[Nt]
 | [],b::w,r,_,hw=>by
  have:=hw b (Ac ..)
  simp[Nt,this.symm]
 |a::s,[],r,hs,_=>by
  have:=hs a (Ac ..)
  simp[Nt,this]
 |a::s,b::w,r,hs,hw=>by
  have ih:=V5 s w r (fun c hc=>hs c (Af _ hc)) (fun c hc=>hw c (Af _ hc));rw[D6,D6,Nt,ih]
  by_cases e:a=b
  ·subst e;simp
  ·have e2:¬b=a:=fun h=>e h.symm;simp[e,e2]
theorem Yv(x:List UInt8):∀(w r:List UInt8),(∀c∈w,c≠32)→iC (32::x) (w++r)=iC (32::x) r
 | [],_,_=>rfl
 |b::w,r,h=>by
  have hb:=h b (Ac ..);rw[D6,iC,Yv x w r (fun c hc=>h c (Af _ hc))]
  have:Nt (32::x) (b::(w++r))=false:=by simp[Nt,hb.symm]
  rw[this,JD]
theorem VJ(s:List UInt8)(hs:∀c∈s,c≠32):∀ws:List (List UInt8),(∀w∈ws,∀c∈w,c≠32)→iC (32::(s++[32])) (32::ws.flatMap (fun w=>w++[32]))=ws.any (fun w=>decide (w=s))
 | [],_=>by
  cases s with
  |nil=>simp[iC,Nt]
  |cons a s=>simp[iC,Nt]
 |w::ws,h=>by
  have hw:=h w (Ac ..);have ih:=VJ s hs ws (fun v hv=>h v (Af _ hv));have e:(w::ws).flatMap (fun w=>w++[32])=w++32::ws.flatMap (fun w=>w++[32]):=by simp[List.flatMap_cons]
  rw[e,iC,Nt,V5 s w _ hs hw,Yv _ w _ hw,ih,Cf];simp
theorem mT{s:List UInt8}(h:s.all F7=true):∀c∈s,c≠32:=fun c hc e=>by
 have:=AR.1 h c hc
 rw[e]at this;exact absurd this (by decide)
theorem an{s:List UInt8}(h:s.all F7=true):U4 s=pE.any (fun w=>decide (w=s)):=by
 unfold U4;rw[dA,VJ s (mT h) pE pF]
theorem YA(s:Bg)(x:Int×Int)(k:Nat){t:Bg}(h:s.Perm t):(s.take k++([x]++s.drop k)).Perm (t++[x]):=by
 have h1:(s.take k++([x]++s.drop k)).Perm (x::(s.take k++s.drop k)):=by
  rw[Ik];exact List.perm_middle
 rw[Gp]at h1;exact h1.trans ((List.Perm.cons x h).trans (OJ x t).symm)
theorem TU(s:Bg)(x:Int×Int)(k:Nat)(hs:s.Pairwise fun a b=>a.1≤b.1)(h1:∀j (hj:j<s.length),k≤j→x.1<s[j].1)(h2:k=0∨∃h:k-1<s.length,s[k-1].1≤x.1):(s.take k++([x]++s.drop k)).Pairwise fun a b=>a.1≤b.1:=by
 have pg:∀a∈s.take k,a.1≤x.1:=fun a ha=>by
  obtain⟨j,hj,e⟩:=Cc ha;rw[AC]at hj;rw[ES]at e;rcases h2 with h2 | ⟨hk,h2⟩
  ·omega
  ·rcases Ch j (k-1)with z | z
   ·have:=A7.1 hs j (k-1) (by omega) hk z
    rw[e]at this;omega
   ·have:j=k-1:=by omega
    subst this;rw[←e];exact h2
 have zK:∀b∈s.drop k,x.1≤b.1:=fun b hb=>by
  obtain⟨j,hj,e⟩:=Cc hb;rw[Ap]at hj;rw[FI]at e
  have:=h1 (k+j) (by omega) (by omega)
  rw[e]at this;omega
 rw[List.pairwise_append];refine⟨hs.sublist (List.take_sublist ..),?_,fun a ha b hb=>?_⟩
 ·rw[Ik,BP];exact⟨zK,hs.sublist (List.drop_sublist ..)⟩
 ·rw[Ik]at hb;rcases Av.1 hb with e | hb
  ·rw[e];exact pg a ha
  ·have:=pg a ha
   have:=zK b hb
   omega
structure Cd where
 place:Int
 rel:Rl
structure Nd where
 rq:Rq
 path:ByteArray
 place:Int
 number:Int
structure SS where
 infs:List Nf
 drv:List (List Tm)
 full:Bool
abbrev TW(c:Cd):Sl:=⟨c.rel.path,c.rel.ver⟩
abbrev AO(l:List Cd):List Sl:=l.map TW
def Cw(x:List Rl)(p:ByteArray):List Cd:=(x.filter fun r=>decide (r.path=p)&&!r.yanked).map fun r=>⟨plc r.ver,r⟩
def MG(f:Rq→Nat→Nd):Nat→List Rq→List Nd
 |_,[]=>[]
 |i,q::l=>f q i::MG f (i+1) l
def Zf(roots:List Rq):List Nd:=MG (fun q i=>⟨q,mt,0,i⟩) 0 roots
def QP(c:Cd):List Nd:=MG (fun q i=>⟨q,c.rel.path,c.place,i⟩) 0 c.rel.reqs
def DD(roots:List Rq)(dec:List Cd):List Nd:=Zf roots++(dec.map QP).flatten
def Dt(dec:List Cd)(p:ByteArray):Bool:=dec.any fun c=>decide (c.rel.path=p)
def Et(dec:List Cd)(a:ByteArray×List Nd)(n:Nd):ByteArray×List Nd :=
 if Dt dec n.rq.path=true∨(a.2≠[]∧EM a.1 n.rq.path=true)then a
 else if a.2≠[]∧EM n.rq.path a.1=true then(n.rq.path,[n])else(n.rq.path,a.2++[n])
def G1(roots:List Rq)(dec:List Cd):ByteArray×List Nd:=(DD roots dec).foldl (Et dec) (mt,[])
def bL(l:List Cd)(n:Nd):Bool:=l.any fun d=>decide (d.rel.path=n.rq.path)&&!has n.rq.set d.place
def Ei(dec:List Cd)(c:Cd):Option Nd:=(QP c).find? (bL (dec++[c]))
def OY(s:List Sl):Nat→List (List Tm)→Option Nat
 |_,[]=>none
 |i,t::l=>if CN t s then some i else OY s (i+1) l
def OZ(d:List (List Tm))(s:List Sl):Option Nat:=OY s 0 d
def Dk(l:List Tm)(p:ByteArray):Bool:=l.any fun t=>decide (t.path=p)
instance:DecidableEq Nf:=fun a b=>by
 obtain⟨a1,a2,a3,a4,a5,a6⟩:=a;obtain⟨b1,b2,b3,b4,b5,b6⟩:=b;exact decidable_of_iff (a1=b1∧a2=b2∧a3=b3∧a4=b4∧a5=b5∧a6=b6) ⟨fun⟨h1,h2,h3,h4,h5,h6⟩=>by subst h1 h2 h3 h4 h5 h6;rfl,fun h=>by cases h;exact⟨rfl,rfl,rfl,rfl,rfl,rfl⟩⟩
def L6(i:Nf):Nat→List Nf→Option Nat
 |_,[]=>none
 |k,j::l=>if j=i then some k else L6 i (k+1) l
def El(s:SS)(i:Nf)(l:List Tm):Nat×SS :=
 match L6 i 0 s.infs with
 |some k=>(k,s)
 |none=>if 65536≤s.infs.length then(s.infs.length-1,⟨s.infs,s.drv,true⟩)else(s.infs.length,⟨s.infs++[i],s.drv++[l],s.full⟩)
def TS(n:Nd):Nf:=if n.path=mt then⟨0,mt,0,n.number,0,0⟩else⟨1,n.path,n.place,n.number,0,0⟩
def Jo(n:Nd):List Tm:=if n.path=mt then JV n.rq else Eu n.path n.place n.rq
def Bw(s:SS)(n:Nd):Nat×SS:=El s (TS n) (Jo n)
abbrev DT(s:SS)(k:Nat):List Tm:=s.drv.getD k []
def Cs(p:ByteArray):List Nat→Nat→SS→Nat×SS
 | [],k,s=>(k,s)
 |r::l,k,s =>
  if s.full=true∨Dk (DT s k) p=false then(k,s)
  else if r=k then Cs p l k s
  else if(BH (DT s k) (DT s r) p).2≠0 then Cs p l k s
  else Cs p l (El s ⟨3,p,0,0,k,r⟩ (BH (DT s k) (DT s r) p).1).1 (El s ⟨3,p,0,0,k,r⟩ (BH (DT s k) (DT s r) p).1).2
def Ew(x:List Rl)(p:ByteArray)(s:SS):Nat×SS:=El s ⟨2,p,0,0,0,0⟩ (Ip p (Ci x p))
def Ed(x:List Rl)(p:ByteArray)(n:Nd)(Gg:List Nat)(s:SS):Nat×SS :=
 Cs p ((Ew x p (Bw s n).2).1::Gg) (Bw s n).1 (Ew x p (Bw s n).2).2
structure Ks where
 res:Nat
 found:Bool
 ss:SS
 dec:List Cd
 stack:List (List Sk)
def Eb(rec:List Cd→SS→List (List Sk)→Ks)(x:List Rl)(p:ByteArray)(needs:List Nd)(n0:Nd)(dec:List Cd)(stack:List (List Sk)):List Cd→SS→List Nat→List Sk→Ks
 | [],s,Gg,_=>⟨(Ed x p n0 Gg s).1,false,(Ed x p n0 Gg s).2,dec,stack⟩
 |c::cs,s,Gg,skips =>
  let after (k:Nat) (s:SS):Ks:=if Dk (DT s k) p=false then⟨k,false,s,dec,stack⟩else Eb rec x p needs n0 dec stack cs s (Gg++[k]) (skips++[⟨p,c.place,k⟩])
  if s.full=true then⟨0,false,s,dec,stack⟩
  else match needs.find? fun n=>!has n.rq.set c.place with
   |some n=>Eb rec x p needs n0 dec stack cs (Bw s n).2 (Gg++[(Bw s n).1]) skips
   |none=>match OZ s.drv (AO (dec++[c]))with
    |some k=>after k s
    |none=>match Ei dec c with
     |some n=>after (Bw s n).1 (Bw s n).2
     |none =>
      let o:=rec (dec++[c]) s (stack++[skips])
      if o.found=true then⟨0,true,o.ss,o.dec,o.stack⟩
      else if o.ss.full=true then⟨0,false,o.ss,dec,stack⟩
      else after o.res o.ss
def Dn(x:List Rl)(roots:List Rq):Nat→List Cd→SS→List (List Sk)→Ks
 |0,dec,s,stack=>⟨0,false,s,dec,stack⟩
 |n+1,dec,s,stack=>match(G1 roots dec).2 with
  | []=>⟨0,true,s,dec,stack⟩
  |n0::l=>Eb (Dn x roots n) x (G1 roots dec).1 (n0::l) n0 dec stack (Cw x (G1 roots dec).1) s [] []
abbrev uW:SS:=⟨[],[],false⟩
def Ry(x:List Rl)(dec:List Cd):Nat:=(x.filter fun r=>!r.yanked&&!Dt dec r.path).length
def F4(x:List Rl)(roots:List Rq):Ks:=Dn x roots (x.length+1) [] uW []
end Go.Eng
