/- Lemmas for the claims of this seat, without a condition: part 2 (P8, P9, P10, P11, P12, P13, P14, Q1). -/
import Derived.Test.YtddfphmpfnmknaaGreatDoorGA01
import Derived.Lib.SplitLaws
import Derived.Lib.IndexBytes
namespace Go.Eng
variable {x:Int×Int}{B:List Int}{s:List Tm}(m:List (Int×Int))(S:Bb)(l:List Tm)(r:Bb)(i:Nat)(k:Int)(t:Tm)(v j:Int)
def DF(l:Bb):Bb:=(l.map Et).filter fun x=>decide (x.1<x.2)
theorem PH(a b:Bb):DF (a++b)=DF a++DF b:=by unfold DF;rw[As,DB]
theorem WC{l:Bb}(h:x∈DF l):0≤x.1∧x.1<x.2∧x.2≤1000000:=by
 unfold DF at h;rw[BM,Am]at h;obtain⟨⟨y,_,rfl⟩,h2⟩:=h;have h2:=A4 h2;refine⟨?_,h2,?_⟩<;>simp only[Et]<;>omega
theorem fP(l:Bb)(p:Int):(DF l).any (BS p)=has l p:=by
 rw[←Lp]
 induction l with
 |nil=>rfl
 |cons x r ih =>
  have e:DF (x::r)=(if(Et x).1<(Et x).2 then [Et x]else [])++DF r:=by
   unfold DF;rw[AJ,CE]
   by_cases h:(Et x).1<(Et x).2<;>simp[h]
  have ec:canon (x::r)=if(Et x).1<(Et x).2 then XM (Et x) (canon r)else canon r:=rfl
  rw[e,GR,ih,ec]
  by_cases h:(Et x).1<(Et x).2
  ·rw[Al h,Al h,Pw _ p (Cs r) h];simp
  ·rw[Ae h,Ae h];simp
theorem OB:∀{l:Bb} {lo:Int},Fc lo l↔(∀y∈l,lo≤y.1∧y.1<y.2∧y.2≤1000000)∧l.Pairwise fun a b=>a.2<b.1
 | [],lo=>by simp[Fc]
 |y::r,lo=>by
  rw[Bz];constructor
  ·intro h;have hl:=h.low;refine⟨hl,fun z hz=>?_,((OB (l:=r)).1 h.2.2.2).2⟩
   have:=h.2.2.2.low z hz;omega
  ·intro⟨h1,h2,h3⟩;have hy:=h1 y (Aa ..);refine⟨hy.1,hy.2.1,hy.2.2,OB.2 ⟨fun z hz=>?_,h3⟩⟩
   have:=h1 z (Ah _ hz)
   have:=h2 z hz
   omega
def Ks(x:Int×Int):Bb:=match r with
 | []=>[x]
 |y::t=>if x.1≤y.2 then(y.1,max y.2 x.2)::t else x::y::t
def By(s:Bb):Bb:=s.foldl Ks []
theorem FO(s:Bb)(i:Nat)(h:i<s.length):By (s.take (i+1))=Ks (By (s.take i)) s[i]:=by
 unfold By;rw[Be,AE h,FV];rfl
theorem iM(x:Int×Int):(Ks r x).length≤r.length+1∧r.length≤(Ks r x).length∧0<(Ks r x).length:=by
 unfold Ks;split
 ·simp
 ·split<;>simp
theorem OW(s:Bb):∀i,i≤s.length→(By (s.take i)).length≤i∧(0<i→0<(By (s.take i)).length):=by
 intro i
 induction i with
 |zero=>intro _;simp[By]
 |succ i ih =>
  intro h;rw[FO s i ch]
  have:=iM (By (s.take i)) s[i]
  have:=ih ch
  omega
structure qU(r done:Bb):Prop where
 ok:∀y∈r,0≤y.1∧y.1<y.2∧y.2≤1000000
 pw:r.Pairwise fun a b=>b.2<a.1
 has:∀p,r.any (BS p)=done.any (BS p)
 first:∀y t,r=y::t→∃x∈done,y.1=x.1
theorem iL{r done:Bb}(h:qU r done)(hx:0≤x.1∧x.1<x.2∧x.2≤1000000)(hs:∀y∈done,y.1≤x.1):qU (Ks r x) (done++[x]):=by
 unfold Ks;split
 ·refine⟨fun y hy=>?_,by simp,fun p=>?_,fun y t e=>?_⟩
  ·rw[Ar.1 hy];exact hx
  ·rw[GR,←h.has];rfl
  ·cases e;exact⟨x,by simp,rfl⟩
 ·rename_i y t;have hy:=h.ok y (Aa ..);obtain⟨pw1,pw2⟩:=Bz.1 h.pw;obtain⟨z,hz,e⟩:=h.first y t rfl
  have ub:=hs z hz;split
  ·rename_i HD;refine⟨fun u hu=>?_,Bz.2 ⟨pw1,pw2⟩,fun p=>?_,fun u t' e'=>?_⟩
   ·rcases AF.1 hu with rfl | hu
    ·exact⟨hy.1,by dsimp only;omega,by dsimp only;omega⟩
    ·exact h.ok u (Ah _ hu)
   ·rw[GR,←h.has,BX,BX,BX,List.any_nil,SW]
    have:BS p (y.1,max y.2 x.2)=(BS p y||BS p x):=by
     simp only[BS];rw[B2];simp only[Ai,Cq,Az];omega
    rw[this];cases BS p y<;>cases BS p x<;>cases t.any (BS p)<;>rfl
   ·cases e';exact⟨z,Bp _ hz,e⟩
  ·rename_i HD;refine⟨fun u hu=>?_,Bz.2 ⟨fun u hu=>?_,h.pw⟩,fun p=>?_,fun u t' e'=>?_⟩
   ·rcases AF.1 hu with rfl | hu
    ·exact hx
    ·exact h.ok u hu
   ·rcases AF.1 hu with rfl | hu
    ·omega
    ·have:=pw1 u hu;omega
   ·rw[GR,←h.has,BX,BX,BX,List.any_nil,SW];cases BS p y<;>cases BS p x<;>cases t.any (BS p)<;>rfl
   ·cases e';exact⟨x,by simp,rfl⟩
theorem cE{s:Bb}(Gs:∀y∈s,0≤y.1∧y.1<y.2∧y.2≤1000000)(hs:s.Pairwise fun a b=>a.1≤b.1):∀i,i≤s.length→qU (By (s.take i)) (s.take i):=by
 intro i
 induction i with
 |zero=>intro _;exact⟨fun _ h=>by simp[By]at h,by simp[By],fun p=>by simp[By],fun y t e=>by simp[By]at e⟩
 |succ i ih =>
  intro h;have hi:i<s.length:=by omega
  rw[FO s i hi];have e:s.take (i+1)=s.take i++[s[i]]:=by rw[Be,AE hi];rfl
  rw[e];refine iL (ih ch) (Gs _ (Aj hi)) fun y hy=>?_;obtain⟨j,hj,rfl⟩:=BR.1 hy;rw[E4];rw[AB]at hj;exact(AS.1 hs) j i ch hi ch
theorem Mo{l s:Bb}(hp:s.Perm (DF l))(hs:s.Pairwise fun a b=>a.1≤b.1):(By s).reverse=canon l:=by
 have hi:=cE (s:=s) (fun y hy=>WC (hp.mem_iff.1 hy)) hs s.length (Ao _);rw[Dp]at hi;have hc:E2 (By s).reverse:=by
  unfold E2;rw[OB];refine⟨fun y hy=>hi.ok y (List.mem_reverse.1 hy),?_⟩;rw[List.pairwise_reverse];exact hi.pw
 refine T4 hc fun p=>?_;rw[In hc,List.any_reverse,hi.has,←fP];rw[B2,A5,A5];constructor
 ·rintro⟨y,h1,h2⟩;exact⟨y,hp.mem_iff.1 h1,h2⟩
 ·rintro⟨y,h1,h2⟩;exact⟨y,hp.mem_iff.2 h1,h2⟩
-- maps from numbers to numbers,as lists in the order in which they are met
def FP:Int:=match m.find? (fun p=>decide (p.1=k))with | some p=>p.2 | none=>0
def Md:List (Int×Int):=if m.any (fun p=>decide (p.1=k))then m.map (fun p=>if p.1=k then(k,v)else p)else m++[(k,v)]
theorem H2(p:Int×Int)(m:List (Int×Int))(k:Int):FP (p::m) k=if p.1=k then p.2 else FP m k:=by
 unfold FP;rw[ED];by_cases h:p.1=k<;>simp[h]
theorem QQ:FP (Md m k v) j=if j=k then v else FP m j:=by
 unfold Md;split
 ·rename_i h
  induction m with
  |nil=>simp at h
  |cons p m ih =>
   rw[AJ,H2,H2]
   by_cases e:p.1=k
   ·rw[Al e];dsimp only
    by_cases ej:j=k
    ·subst ej;simp
    ·rw[Ae (fun c=>ej c.symm),Ae ej,Ae (fun c=>ej (c.symm.trans e))]
     by_cases hm:(m.any fun p=>decide (p.1=k))=true
     ·rw[ih hm,Ae ej]
     ·have:∀q∈m,q.1≠k:=fun q hq e=>hm (A5.2 ⟨q,hq,by simp[e]⟩)
      have:m.map (fun p=>if p.1=k then(k,v)else p)=m:=by
       conv=>rhs;rw[←HL m]
       exact Bd fun q hq=>by simp[this q hq]
      rw[this]
   ·rw[Ae e];have hm:(m.any fun p=>decide (p.1=k))=true:=by simpa[e]using h
    rw[ih hm]
    by_cases ej:j=k
    ·subst ej;simp[e]
    ·simp[ej]
 ·rename_i h;have hn:∀q∈m,q.1≠k:=fun q hq e=>h (A5.2 ⟨q,hq,by simp[e]⟩)
  induction m with
  |nil =>
   rw[Fi,H2]
   by_cases ej:j=k
   ·simp[ej]
   ·have:¬k=j:=fun c=>ej c.symm
    simp[ej,this]
  |cons p m ih =>
   rw[Eg,H2,H2];have e:=hn p (Aa ..);have ih:=ih (by simpa[e]using h) fun q hq=>hn q (Ah _ hq)
   by_cases ep:p.1=j
   ·have:¬j=k:=fun c=>e (ep.trans c)
    simp[ep,this]
   ·simp only[ep,GZ];exact ih
def Fz:List Int:=m.map (·.1)
theorem W2:Fz (Md m k v)=if k∈Fz m then Fz m else Fz m++[k]:=by
 unfold Md Fz;have e:(m.any fun p=>decide (p.1=k))=decide (k∈m.map (·.1)):=by
  rw[B2];simp only[A5,Az,Am]
 rw[e]
 by_cases h:k∈m.map (·.1)
 ·simp only[h,decide_true,SA,BE];apply Bd;intro p _;simp only[Function.comp];split
  ·rename_i e;exact e.symm
  ·rfl
 ·simp[h]
theorem Na{m:List (Int×Int)}(h:(Fz m).Nodup)(k v:Int):(Fz (Md m k v)).Nodup:=by
 rw[W2];split
 ·exact h
 ·rename_i hn;rw[GU];exact⟨h,by simp,fun a ha b hb e=>by subst e;rw[Ar.1 hb]at ha;exact hn ha⟩
theorem IX:j∈Fz (Md m k v)↔j=k∨j∈Fz m:=by
 rw[W2];split
 ·rename_i h;constructor
  ·exact .inr
  ·rintro(rfl | h')
   ·exact h
   ·exact h'
 ·simp[or_comm]
theorem mO{m:List (Int×Int)}(h:(Fz m).Nodup){p:Int×Int}(hp:p∈m):FP m p.1=p.2:=by
 induction m with
 |nil=>cases hp
 |cons q m ih =>
  rw[H2];unfold Fz at h ih;rw[AJ,Df]at h;rcases AF.1 hp with rfl | hp
  ·simp
  ·have:¬q.1=p.1:=fun e=>h.1 (e▸Am.2 ⟨p,hp,rfl⟩)
   rw[Ae this];exact ih h.2 hp
theorem mP{m:List (Int×Int)}{k:Int}(h:k∉Fz m):FP m k=0:=by
 unfold FP
 have:m.find? (fun p=>decide (p.1=k))=none:=by
  rw[DC];intro p hp;simp only[Az];exact fun e=>h (Am.2 ⟨p,hp,e⟩)
 rw[this]
-- counting
def cF:Nat:=S.countP fun x=>decide (x.1=k)
def cT:Nat:=S.countP fun x=>decide (x.2=k)
def lF:Nat:=S.countP fun x=>decide (x.1≤k)
def lT:Nat:=S.countP fun x=>decide (x.2≤k)
theorem JP{α:Type}{p q r:α→Bool}:∀{l:List α},(∀x∈l,(p x=true↔q x=true∨r x=true)∧¬(q x=true∧r x=true))→l.countP p=l.countP q+l.countP r
 | [],_=>rfl
 |x::l,h=>by
  have ih:=JP fun y hy=>h y (Ah _ hy);obtain⟨h1,h2⟩:=h x (Aa ..);rw[Jw,Jw,Jw,ih];cases hp:p x<;>cases hq:q x<;>cases hr:r x<;>simp_all<;>omega
structure Jb(m:List (Int×Int))(S:Bb):Prop where
 nd:(Fz m).Nodup
 val:∀k,FP m k=(cF S k:Int)-cT S k
 keys:0∈Fz m∧1000000∈Fz m∧∀x∈S,x.1∈Fz m∧x.2∈Fz m
 rng:∀k∈Fz m,0≤k∧k≤1000000
def uO:List (Int×Int):=[(0,0),(1000000,0)]
theorem nQ:Jb uO []:=⟨by decide,fun k=>by
  unfold uO;rw[H2,H2];simp[FP,cF,cT],⟨by decide,by decide,fun _ h=>by cases h⟩,fun k hk=>by
  unfold uO Fz at hk;simp at hk;omega⟩
def bi(x:Int×Int):List (Int×Int):=Md (Md m x.1 (FP m x.1+1)) x.2 (FP (Md m x.1 (FP m x.1+1)) x.2-1)
theorem iK{m:List (Int×Int)}{S:Bb}(h:Jb m S)(hx:0≤x.1∧x.1<x.2∧x.2≤1000000):Jb (bi m x) (S++[x]):=by
 unfold bi;refine⟨Na (Na h.nd _ _) _ _,fun k=>?_,⟨?_,?_,fun y hy=>?_⟩,fun k hk=>?_⟩
 ·rw[QQ,QQ,QQ,h.val,h.val,h.val];unfold cF cT;simp only[List.countP_append,List.countP_singleton,Az]
  by_cases e1:k=x.2
  ·subst e1
   have:¬x.2=x.1:=by omega
   have:¬x.1=x.2:=by omega
   simp[*];omega
  ·by_cases e2:k=x.1
   ·subst e2
    have:¬x.2=x.1:=by omega
    have:¬x.1=x.2:=by omega
    simp[*];omega
   ·have a1:¬x.1=k:=fun c=>e2 c.symm;have a2:¬x.2=k:=fun c=>e1 c.symm;simp[e1,e2,a1,a2]
 ·rw[IX,IX];exact .inr (.inr h.keys.1)
 ·rw[IX,IX];exact .inr (.inr h.keys.2.1)
 ·simp only[IX];rcases AY.1 hy with hy | hy
  ·have:=h.keys.2.2 y hy
   exact⟨.inr (.inr this.1),.inr (.inr this.2)⟩
  ·rw[Ar.1 hy];exact⟨.inr (.inl rfl),.inl rfl⟩
 ·rw[IX,IX]at hk;rcases hk with rfl | rfl | hk
  ·omega
  ·omega
  ·exact h.rng k hk
def Jr(B:List Int):Int:=(B.map (FP m)).foldl (·+·) 0
theorem RZ(B:List Int)(i:Nat)(h:i<B.length):Jr m (B.take (i+1))=Jr m (B.take i)+FP m B[i]:=by
 unfold Jr;rw[Be,AE h,As,FV];simp only[Option.toList_some,AJ,FA,EE,List.foldl_nil]
structure np(B:List Int)(m:List (Int×Int)):Prop where
 perm:B.Perm (Fz m)
 srt:B.Pairwise fun a b=>a<b
theorem fc{m:List (Int×Int)}{S:Bb}(h:Jb m S)(hB:np B m):∀i (hi:i<B.length),Jr m (B.take (i+1))=(lF S B[i]:Int)-lT S B[i]:=by
 have mem:∀k,k∈Fz m→∃j,∃hj:j<B.length,B[j]=k:=fun k hk=>by
  have:=hB.perm.mem_iff.2 hk
  obtain⟨j,hj,e⟩:=BR.1 this;exact⟨j,hj,e⟩
 have lt:∀i j (hi:i<B.length) (hj:j<B.length),i<j→B[i]<B[j]:=fun i j hi hj QV=>(AS.1 hB.srt) i j hi hj QV;intro i
 induction i with
 |zero =>
  intro hi;rw[RZ m B 0 hi,h.val]
  have:Jr m (B.take 0)=0:=by simp[Jr]
  rw[this];have low:∀k∈Fz m,B[0]≤k:=fun k hk=>by
   obtain⟨j,hj,rfl⟩:=mem k hk;cases j with
   |zero=>exact BK _
   |succ j=>have:=lt 0 (j+1) hi hj ch;omega
  have e1:lF S B[0]=cF S B[0]:=by
   unfold lF cF;apply Sh;intro x hx
   have:=low _ (h.keys.2.2 x hx).1
   simp only[Az];omega
  have e2:lT S B[0]=cT S B[0]:=by
   unfold lT cT;apply Sh;intro x hx
   have:=low _ (h.keys.2.2 x hx).2
   simp only[Az];omega
  rw[e1,e2];omega
 |succ i ih =>
  intro hi;rw[RZ m B (i+1) hi,ih ch,h.val];have nb:∀k∈Fz m,k≤B[i+1]↔k≤B[i]∨k=B[i+1]:=fun k hk=>by
   obtain⟨j,hj,rfl⟩:=mem k hk;have l0:=lt i (i+1) ch hi ch;rcases Sm j (i+1)with c | c | c
   ·have:B[j]≤B[i]:=by
     rcases BY j i with d | d
     ·have:=lt j i hj ch d;omega
     ·have:j=i:=by omega
      subst this;exact BK _
    omega
   ·subst c;omega
   ·have:=lt (i+1) j hi hj c;omega
  have l0:=lt i (i+1) ch hi ch;have e1:lF S B[i+1]=lF S B[i]+cF S B[i+1]:=by
   unfold lF cF;apply JP;intro x hx
   have:=nb _ (h.keys.2.2 x hx).1
   simp only[Az];omega
  have e2:lT S B[i+1]=lT S B[i]+cT S B[i+1]:=by
   unfold lT cT;apply JP;intro x hx
   have:=nb _ (h.keys.2.2 x hx).2
   simp only[Az];omega
  rw[e1,e2];omega
theorem Ze{S:Bb}(hS:∀x∈S,x.1<x.2)(p:Int):(lF S p:Int)-lT S p=(S.countP (BS p):Nat):=by
 have:lF S p=S.countP (BS p)+lT S p:=by
  unfold lF lT;apply JP;intro x hx
  have:=hS x hx
  simp only[BS,Ai,Az];omega
 omega
theorem PK:∀{l:Bb} {lo:Int} (p:Int),Fc lo l→l.countP (BS p)=if l.any (BS p)then 1 else 0
 | [],_,_,_=>rfl
 |y::r,lo,p,⟨h1,h2,h3,h4⟩=>by
  rw[Jw,PK p h4,BX];cases hy:BS p y with
  |false=>rw[J7];simp
  |true =>
   have:=DY.1 hy
   have:r.any (BS p)=false:=by
    rw[AI];intro hr;have:=Nv h4 hr;omega
   simp[this]
theorem MS:∀(l:List Bb) (p:Int),((l.map canon).flatten).countP (BS p)=iV l p
 | [],_=>rfl
 |s::l,p=>by
  rw[AJ,Bm,List.countP_append,MS l p,PK p (Cs s),Lp];unfold iV;rw[Jw];omega
def ET(keep:Nat→Bool)(m:List (Int×Int))(B:List Int):Nat→Bb
 |0=>[]
 |i+1=>ET keep m B i++(match B[i]?,B[i+1]? with
  |some a,some b=>if keep (Jr m (B.take (i+1))).toNat then [(a,b)]else []
  |_,_=>[])
theorem Rx{keep:Nat→Bool}{m:List (Int×Int)}{B:List Int}{x:Int×Int}:∀{n:Nat},x∈ET keep m B n↔∃i,i<n∧∃(h1:i<B.length) (h2:i+1<B.length),keep (Jr m (B.take (i+1))).toNat=true∧x=(B[i],B[i+1])
 |0=>by simp[ET]
 |n+1=>by
  unfold ET;rw[AY,Rx (n:=n)];constructor
  ·rintro(⟨i,h1,h2⟩ | h)
   ·exact⟨i,by omega,h2⟩
   ·split at h
    ·rename_i a b ha hb;obtain⟨h1,e1⟩:=Aw.1 ha;obtain⟨h2,e2⟩:=Aw.1 hb;split at h
     ·rename_i hk;refine⟨n,by omega,h1,h2,hk,?_⟩;rw[Ar.1 h,e1,e2]
     ·cases h
    ·cases h
  ·rintro⟨i,h1,h2,h3,h4,rfl⟩
   by_cases e:i=n
   ·subst e;refine .inr ?_;rw[AE h2,AE h3];simp[h4]
   ·exact .inl ⟨i,by omega,h2,h3,h4,rfl⟩
theorem PB{B:List Int}(hs:B.Pairwise fun a b=>a<b){p:Int}:∀(n:Nat) (h0:0<B.length) (hn:n<B.length),B[0]≤p→p<B[n]→∃i,∃(h1:i<B.length) (h2:i+1<B.length),B[i]≤p∧p<B[i+1]
 |0,h0,hn,h1,h2=>by omega
 |n+1,h0,hn,h1,h2=>by
  by_cases e:B[n]≤p
  ·exact⟨n,by omega,hn,e,h2⟩
  ·exact PB hs n h0 ch h1 ch
theorem lk{keep:Nat→Bool}{l:List Bb}{m:List (Int×Int)}(h:Jb m (l.map canon).flatten)(hB:np B m)(p:Int):has (ET keep m B (B.length-1)) p=(MG p&&keep (iV l p)):=by
 have hS:∀x∈(l.map canon).flatten,x.1<x.2:=fun x hx=>by
  obtain⟨s,hs,hx⟩:=Eh.1 hx;obtain⟨t,_,rfl⟩:=Am.1 hs;exact((Cs t).low x hx).2.1
 have mem:∀k,k∈Fz m→∃j,∃hj:j<B.length,B[j]=k:=fun k hk=>by
  obtain⟨j,hj,e⟩:=BR.1 (hB.perm.mem_iff.2 hk);exact⟨j,hj,e⟩
 have lt:∀i j (hi:i<B.length) (hj:j<B.length),i<j→B[i]<B[j]:=fun i j hi hj QV=>(AS.1 hB.srt) i j hi hj QV;have rng:∀i (hi:i<B.length),0≤B[i]∧B[i]≤1000000:=fun i hi=>h.rng _ (hB.perm.mem_iff.1 (Aj hi))
 -- XV two bounds
 have XV:∀i (h1:i<B.length) (h2:i+1<B.length),B[i]≤p→p<B[i+1]→(Jr m (B.take (i+1))).toNat=iV l p:=fun i h1 h2 a b=>by
  have same:∀k∈Fz m,k≤B[i]↔k≤p:=fun k hk=>by
   obtain⟨j,hj,rfl⟩:=mem k hk;constructor
   ·intro c;omega
   ·intro c;rcases BY i j with d | d
    ·rcases BY (i+1) j with f | f
     ·have:=lt (i+1) j h2 hj f;omega
     ·have:j=i+1:=by omega
      subst this;omega
    ·rcases BY j i with f | f
     ·have:=lt j i hj h1 f;omega
     ·have:j=i:=by omega
      subst this;exact BK _
  have e1:lF (l.map canon).flatten B[i]=lF (l.map canon).flatten p:=by
   unfold lF;apply Sh;intro x hx
   have:=same _ (h.keys.2.2 x hx).1
   simp only[Az];exact this
  have e2:lT (l.map canon).flatten B[i]=lT (l.map canon).flatten p:=by
   unfold lT;apply Sh;intro x hx
   have:=same _ (h.keys.2.2 x hx).2
   simp only[Az];exact this
  rw[fc h hB i h1,e1,e2,Ze hS,MS];simp
 rw[B2];constructor
 ·intro hh;have bt:=M2 hh;unfold has at hh;simp only[bt,decide_true,EB]at hh;obtain⟨x,hx,hp⟩:=A5.1 hh;obtain⟨i,_,h1,h2,hk,rfl⟩:=Rx.1 hx
  have:=DY.1 hp
  dsimp only at this;rw[←XV i h1 h2 this.1 this.2];simp[MG,bt,hk]
 ·intro hh;simp only[Ai,MG,Az]at hh;obtain⟨⟨p0,p1⟩,hk⟩:=hh;obtain⟨j0,hj0,e0⟩:=mem 0 h.keys.1;obtain⟨j1,hj1,e1⟩:=mem 1000000 h.keys.2.1;have hb0:B[0]' ch≤p:=by
   have:B[0]' ch≤0:=by
    cases j0 with
    |zero=>omega
    |succ j=>have:=lt 0 (j+1) ch hj0 ch;omega
   omega
  obtain⟨i,h1,h2,a,b⟩:=PB hB.srt j1 ch hj1 hb0 ch;unfold has;simp only[p0,p1,decide_true,EB];exact A5.2 ⟨(B[i],B[i+1]),Rx.2 ⟨i,by omega,h1,h2,by rw[XV i h1 h2 a b];exact hk,rfl⟩,DY.2 ⟨a,b⟩⟩
theorem mD{l:List Bb}{m:List (Int×Int)}(h:Jb m (l.map canon).flatten)(hB:np B m)(i:Nat)(hi:i<B.length):0≤Jr m (B.take (i+1))∧Jr m (B.take (i+1))≤l.length:=by
 have hS:∀x∈(l.map canon).flatten,x.1<x.2:=fun x hx=>by
  obtain⟨s,hs,hx⟩:=Eh.1 hx;obtain⟨t,_,rfl⟩:=Am.1 hs;exact((Cs t).low x hx).2.1
 rw[fc h hB i hi,Ze hS,MS]
 have:iV l B[i]≤l.length:=List.countP_le_length
 omega
def YA(m:List Tm)(t:Tm):List Tm:=if m.any (fun u=>decide (u.path=t.path))then m.map (fun u=>if u.path=t.path then t else u)else m++[t]
def SU(m:List Tm)(t:Tm):List Tm:=YA m (Pb (Dz m t.path) t)
def DH:List Tm:=l.foldl SU []
theorem ge(p:ByteArray):∀m:List Tm,Dz (YA m t) p=if t.path=p then some t else Dz m p:=by
 intro m;unfold YA
 by_cases h:(m.any fun u=>decide (u.path=t.path))=true
 ·rw[Al h]
  induction m with
  |nil=>simp at h
  |cons u m ih =>
   rw[AJ,CZ,CZ]
   by_cases e:u.path=t.path
   ·rw[Al e]
    by_cases ep:t.path=p
    ·simp[ep]
    ·rw[Ae ep,Ae ep,Ae (fun c=>ep (e.symm.trans c))]
     by_cases hm:(m.any fun u=>decide (u.path=t.path))=true
     ·rw[ih hm,Ae ep]
     ·have:∀q∈m,q.path≠t.path:=fun q hq c=>hm (A5.2 ⟨q,hq,by simp[c]⟩)
      have:m.map (fun u=>if u.path=t.path then t else u)=m:=by
       conv=>rhs;rw[←HL m]
       exact Bd fun q hq=>by simp[this q hq]
      rw[this]
   ·rw[Ae e];have hm:(m.any fun u=>decide (u.path=t.path))=true:=by simpa[e]using h
    rw[ih hm]
    by_cases ep:t.path=p
    ·subst ep;simp[e]
    ·simp[ep]
 ·rw[Ae h];have hn:∀q∈m,q.path≠t.path:=fun q hq e=>h (A5.2 ⟨q,hq,by simp[e]⟩)
  clear h
  induction m with
  |nil=>rw[Fi,CZ]
  |cons u m ih =>
   rw[Eg,CZ,CZ,ih fun q hq=>hn q (Ah _ hq)]
   have:=hn u (Aa ..)
   by_cases e:u.path=p
   ·have:¬t.path=p:=fun c=>this (e.trans c.symm)
    simp[e,this]
   ·simp[e]
def EV(m:List Tm):List ByteArray:=m.map (·.path)
open Classical in
theorem cS(m:List Tm)(t:Tm):EV (YA m t)=if t.path∈EV m then EV m else EV m++[t.path]:=by
 unfold YA EV;have e:(m.any fun u=>decide (u.path=t.path))=true↔t.path∈m.map (·.path):=by
  simp only[A5,Az,Am]
 by_cases h:t.path∈m.map (·.path)
 ·rw[Al (e.2 h),Al h,BE];apply Bd;intro p _;simp only[Function.comp];split
  ·rename_i e;exact e.symm
  ·rfl
 ·rw[Ae (fun c=>h (e.1 c)),Ae h,As];rfl
theorem ie{m:List Tm}(h:(EV m).Nodup)(t:Tm):(EV (YA m t)).Nodup:=by
 rw[cS];split
 ·exact h
 ·rename_i hn;rw[GU];exact⟨h,by simp,fun a ha b hb e=>by subst e;rw[Ar.1 hb]at ha;exact hn ha⟩
theorem SH(h:i<l.length):DH (l.take (i+1))=SU (DH (l.take i)) l[i]:=by
 unfold DH;rw[Be,AE h,FV];rfl
theorem PX:∀(l m:List Tm),(EV m).Nodup→(EV (l.foldl SU m)).Nodup
 | [],_,h=>h
 |_::l,_,h=>PX l _ (ie h _)
theorem Iu:(EV (DH l)).Nodup:=PX l [] .nil
theorem Zs(m:List Tm)(t:Tm)(p:ByteArray):Dz (SU m t) p=KR p (Dz m p) t:=by
 unfold SU KR;have hp:(Pb (Dz m t.path) t).path=t.path:=RL _ _ fun u h=>HC h;rw[ge,hp]
 by_cases e:t.path=p
 ·rw[Al e,Al e,e]
 ·rw[Ae e,Ae e]
theorem PU(p:ByteArray):∀(l m:List Tm),Dz (l.foldl SU m) p=l.foldl (KR p) (Dz m p)
 | [],_=>rfl
 |t::l,m=>by rw[EE,EE,PU p l,Zs]
theorem bX(p:ByteArray):Dz (DH l) p=Dz (Fv l) p:=by
 unfold DH;rw[PU,JS];rfl
theorem MX{m:List Tm}(h:(EV m).Nodup){t:Tm}:t∈m↔Dz m t.path=some t:=by
 constructor
 ·induction m with
  |nil=>intro h;cases h
  |cons u m ih =>
   intro ht;unfold EV at h ih;rw[AJ,Df]at h;rw[CZ];rcases AF.1 ht with rfl | ht
   ·rw[Al rfl]
   ·have:¬u.path=t.path:=fun e=>h.1 (e▸Am.2 ⟨t,ht,rfl⟩)
    rw[Ae this];exact ih h.2 ht
 ·exact FG
theorem IA{m:List Tm}(h:(EV m).Nodup):m.Nodup:=by
 unfold EV at h
 induction m with
 |nil=>exact .nil
 |cons u m ih =>
  rw[AJ,Df]at h;exact Df.2 ⟨fun hu=>h.1 (Am.2 ⟨u,hu,rfl⟩),ih h.2⟩
theorem IH{l:List Tm}{lo:Option ByteArray}(h:Ch lo l):(EV l).Nodup:=by
 unfold EV
 induction l generalizing lo with
 |nil=>exact .nil
 |cons t l ih =>
  rw[AJ,Df];refine⟨fun hm=>?_,ih h.2.2⟩;obtain⟨u,hu,e⟩:=Am.1 hm
  have:=h.2.2.low u hu
  rw[e,CO]at this;cases this
theorem J0:t∈DH l↔t∈Fv l:=by
 rw[MX (Iu l),bX,←MX (IH (EN l))]
theorem Qq:∀t∈DH l,E2 t.set:=fun t ht=>(EN l).canon t ((J0 l t).1 ht)
theorem iN(m:List Tm)(t:Tm):(SU m t).length≤m.length+1:=by
 unfold SU YA;split<;>simp
theorem OV:∀i,i≤l.length→(DH (l.take i)).length≤i:=by
 intro i
 induction i with
 |zero=>intro _;simp[DH]
 |succ i ih =>
  intro h;rw[SH l i ch]
  have:=iN (DH (l.take i)) l[i]
  have:=ih ch
  omega
theorem di(hs:s.Pairwise fun x y=>DL x.path y.path=true)(hc:∀t∈s,E2 t.set):Ch none s:=by
 have:∀(s:List Tm) (lo:Option ByteArray),s.Pairwise (fun x y=>DL x.path y.path=true)→(∀t∈s,E2 t.set)→(∀p,lo=some p→∀t∈s,DL p t.path=true)→Ch lo s:=by
  intro s
  induction s with
  |nil=>intro _ _ _ _;trivial
  |cons t s ih =>
   intro lo hs hc hl;obtain⟨h1,h2⟩:=Bz.1 hs;exact⟨fun p e=>hl p e t (Aa ..),hc t (Aa ..),ih _ h2 (fun u hu=>hc u (Ah _ hu)) fun p e u hu=>by cases e;exact h1 u hu⟩
 exact this s none hs hc fun _ e=>by cases e
theorem Rh{l:List Tm}(q:Tm→Bool)(hp:s.Perm ((DH l).filter q))(hs:s.Pairwise fun x y=>DL y.path x.path=false):s=(Fv l).filter q:=by
 have hm:∀t,t∈s↔t∈(Fv l).filter q:=fun t=>by
  rw[hp.mem_iff,BM,BM,J0]
 have Oh:(EV s).Nodup:=by
  have h1:(EV ((DH l).filter q)).Nodup:=by
   unfold EV;exact List.Nodup.sublist (List.Sublist.map _ List.filter_sublist) (Iu l)
  unfold EV at h1⊢;exact(hp.map (·.path)).nodup_iff.2 h1
 have JU:s.Pairwise fun x y=>DL x.path y.path=true:=by
  rw[AS]at hs⊢;intro i j hi hj QV;cases hb:DL s[i].path s[j].path with
  |true=>rfl
  |false =>
   have e:=G6 hb (hs i j hi hj QV);unfold EV at Oh
   have:=(AS.1 Oh) i j (by simpa using hi) (by simpa using hj) QV
   simp at this;exact absurd e this
 have hss:Ch none s:=di JU fun t ht=>(EN l).canon t (BM.1 ((hm t).1 ht)).1;have jd:Ch none ((Fv l).filter q):=Ch.filter q (EN l);refine Nt hss jd fun p=>?_;cases h1:Dz s p with
 |some t =>
  have:=(hm t).1 (FG h1)
  rw[F9 jd,HC h1]at this;exact this.symm
 |none =>
  cases h2:Dz ((Fv l).filter q) p with
  |none=>rfl
  |some t =>
   have:=(hm t).2 (FG h2)
   rw[F9 hss,HC h2,h1]at this;cases this
theorem bM:Hr t t=Mn t:=by unfold Hr Mn;rw[ct,Bool.and_self]
theorem eT(o:Option Tm)(t:Tm):Pb o t=Hr (o.getD t) t:=by cases o with | none=>exact(bM t).symm | some u=>rfl
theorem fC{t:Tm}(h:E2 t.set):(t.absent&&(EJ t.set).isEmpty)=G5 t:=by
 unfold G5
 congr 1
 rw[B2,Gp,Az];have ha:E2 [(0,1000000)]:=⟨BK _,by dsimp only;omega,BK _,trivial⟩;constructor
 ·intro e;refine Ig h ha fun p=>?_
  have:=Ga t.set p
  rw[e]at this;have h0:has [] p=false:=by simp[has]
  rw[h0]at this;have h1:has [(0,1000000)] p=MG p:=by simp[has,MG,BS]
  rw[h1];cases hp:MG p with
  |true=>rw[hp]at this;simpa using this.symm
  |false =>
   rw[AI];intro hh
   have:=M2 hh
   simp[MG,this]at hp
 ·intro e;rw[RF (HP _)];intro p;rw[Ga,e];have h1:has [(0,1000000)] p=MG p:=by simp[has,MG,BS]
  rw[h1];simp
theorem lD{t:Tm}(h:E2 t.set):(!t.absent&&(canon t.set).isEmpty)=Ix t:=by unfold Ix;rw[Kb h]
end Go.Eng
namespace Go.Eng
open Go.Lib
theorem RW(c:UInt8):∀(s:List UInt8) (k:Nat),s.count c≤k→splitK [c] 0 k s=CT c s
 | [],k,_=>by
  cases k with
  |zero=>rfl
  |succ k=>rfl
 |b::r,k,h=>by
  rw[CT]
  by_cases e:b=c
  ·subst e;rw[List.count_cons_self]at h;obtain⟨k',rfl⟩:∃k',k=k'+1:=⟨k-1,by omega⟩;rw[Al rfl,splitK,index_one,indexByte];simp only[beq_self_eq_true,SA];rw[Ae Cl];show []::splitK [b] 0 k' r=_;rw[RW b r k' ch]
  ·have DM:(b == c)=false:=by simpa using e
   rw[List.count_cons_of_ne (by simpa using e)]at h;have ih:=RW c r k h;rw[Ae e];cases k with
   |zero =>
    rw[←ih];rfl
   |succ k =>
    rw[←ih,splitK,splitK,index_one,index_one,indexByte,DM]
    by_cases h0:indexByte r c=-1
    ·rw[h0];rfl
    ·have h1:(indexByte r c == -1)=false:=by simpa using h0
     have h2:=indexByte_ge r c;have h3:(indexByte r c+1 == -1)=false:=by rw[beq_eq_false_iff_ne];omega
     simp only[DA,GZ,h1,h3];obtain⟨i,hi⟩:∃i:Nat,indexByte r c=i:=⟨(indexByte r c).toNat,by omega⟩;rw[hi];show(b::r).take (((i:Int)+1).toNat+0)::_=(b::r.take ((i:Int).toNat+0))::_;rw[show((i:Int)+1).toNat=i+1 by omega,show((i:Nat):Int).toNat=i by omega]
     rfl
theorem Zd(c:UInt8):∀(n:Nat) (s:List UInt8),s.length≤n→count s [c]=s.count c
 |n,s,hn=>by
  rcases Int.lt_or_le (indexByte s c) 0 with h | h
  ·have h2:=indexByte_ge s c;have h3:indexByte s c=-1:=by omega
   rw[count_miss (by rw[index_one];exact h3)]
   symm
   rw[List.count_eq_zero];intro hm;obtain⟨k,hk,e⟩:=BZ hm;exact indexByte_none h3 k (by rw[AE hk,e])
  ·obtain⟨i,hi⟩:∃i:Nat,indexByte s c=i:=⟨(indexByte s c).toNat,by omega⟩;obtain⟨h1,h2⟩:=indexByte_some hi;obtain⟨hl,hg⟩:=Aw.1 h1;cases n with
   |zero=>omega
   |succ n =>
    have hc:=count_hit (s:=s) (sub:=[c]) (i:=i) B0 (by rw[index_one];exact hi);rw[hc];have ih:=Zd c n (s.drop (i+1)) (by rw[B3];omega);have wv:s=s.take i++c::s.drop (i+1):=by
     rw[←hg,←AP hl,Fr]
    have h0:(s.take i).count c=0:=by
     rw[List.count_eq_zero];intro hm;obtain⟨k,hk,e⟩:=BZ hm;rw[AB]at hk;rw[E4]at e;exact h2 k ch (by rw[AE ch,e])
    conv=>rhs;rw[wv]
    rw[List.count_append,h0,List.count_cons_self];show 1+count (s.drop (i+1)) [c]=_;rw[ih];omega
theorem iJ(s:ByteArray)(c:UInt8):((splitB ⟨#[c]⟩ 0 (countB s ⟨#[c]⟩) s).map (·.data.toList))=CT c s.data.toList:=by
 rw[splitB_data];refine RW c _ _ ?_;show _≤count s.data.toList [c];rw[Zd c _ _ (Ao _)];exact Ao _
end Go.Eng
namespace Go.Eng
variable {U:List ByteArray}{l:List Tm}{s:List UInt8}{t c:List Tm}(x:List Rl)(p:ByteArray)(roots:List Rq)
theorem RG{α:Type}:∀{l m:List α},l.Nodup→(∀x∈l,x∈m)→l.length≤m.length
 | [],_,_,_=>AA _
 |a::l,m,hn,hs=>by
  obtain⟨h1,h2⟩:=Df.1 hn;obtain⟨s,t,rfl⟩:=List.append_of_mem (hs a (Aa ..))
  have:l.length≤(s++t).length:=RG h2 fun x hx=>by
   rcases AY.1 (hs x (Ah _ hx))with h | h
   ·exact Bp _ h
   ·rcases AF.1 h with rfl | h
    ·exact absurd hx h1
    ·exact Bj _ h
  simp only[Ad,Av]at this⊢;omega
theorem Mq(p:ByteArray):∀(l:List Tm) (o:Option Tm),(∀u∈l,u.path≠p)→l.foldl (KR p) o=o
 | [],_,_=>rfl
 |t::l,o,h=>by
  rw[EE,show KR p o t=o by unfold KR;rw[Ae (h t (Aa ..))]];exact Mq p l o fun u hu=>h u (Ah _ hu)
theorem cG{t:Tm}(h:t∈Fv l):∃u∈l,u.path=t.path:=by
 apply AC;intro hn
 have:∀u∈l,u.path≠t.path:=fun u hu e=>hn ⟨u,hu,e⟩
 have h1:=(F9 (EN l)).1 h;rw[JS,Mq _ _ _ this]at h1;cases h1
def Wf(U:List ByteArray)(t:List Tm):Prop:=Ch none t∧∀u∈t,u.path∈U
theorem Wf.len(h:Wf U t):t.length≤U.length:=by
 have:=RG (IH h.1) (m:=U) fun p hp=>by
  obtain⟨u,hu,rfl⟩:=Am.1 hp;exact h.2 u hu
 unfold EV at this
 rwa [A8]at this
theorem bO(h:Db l=some c){t:Tm}(ht:t∈c):t∈Fv l:=by
 unfold Db at h;split at h
 ·cases h
 ·cases h;exact(BM.1 ht).1
theorem Rg(h:Db l=some c)(hu:∀u∈l,u.path∈U):Wf U c :=
 ⟨Fk h,fun t ht=>by
  obtain⟨u,h1,h2⟩:=cG (bO h ht);rw[←h2];exact hu u h1⟩
theorem Wf.nil(U:List ByteArray):Wf U []:=⟨trivial,fun u hu=>by cases hu⟩
theorem U7(hu:∀u∈l,u.path∈U):Wf U (RH l):=by
 unfold RH;cases h:Db l with
 |none=>exact .nil U
 |some c=>exact Rg h hu
theorem SO{a b:List Tm}{p:ByteArray}(ha:Wf U a)(hb:Wf U b):Wf U (BO a b p).1:=by
 have sp:∀{l r:List Tm} {t:Tm},Wf U l→FS l p=some (t,r)→t.path∈U∧∀u∈r,u.path∈U:=by
  intro l r t hl h;unfold FS at h;cases e:Db l with
  |none=>rw[e]at h;cases h
  |some c =>
   rw[e]at h;have h:(match Dz c p with | none=>none | some t=>some (t,Gf c p))=some (t,r):=h;have hc:=Rg e hl.2;cases e2:Dz c p with
   |none=>rw[e2]at h;cases h
   |some u =>
    rw[e2]at h;cases h;exact⟨hc.2 _ (FG e2),fun u hu=>hc.2 u (BM.1 hu).1⟩
 unfold BO;split
 ·rename_i t r u m e1 e2;obtain⟨a1,a2⟩:=sp ha e1;obtain⟨b1,b2⟩:=sp hb e2;split
  ·rename_i o e3;refine Rg e3 fun v hv=>?_;rcases AY.1 hv with hv | hv
   ·rcases AY.1 hv with hv | hv
    ·exact a2 v hv
    ·exact b2 v hv
   ·rw[Ar.1 hv];exact a1
  ·exact .nil U
 ·exact .nil U
def K8(l:List Nf):List ByteArray:=(x.map (·.path))++((x.map (·.reqs)).flatten.map (·.path)++(roots.map (·.path)++l.map (·.path)))
theorem gM{x:List Rl}{roots:List Rq}{l:List Nf}{d:List (List Tm)}{i:Nf}(hi:i∈l)(hd:∀t∈d,Wf (K8 x roots l) t)(h:Eb x roots d i=some t):Wf (K8 x roots l) t:=by
 have hp:i.path∈K8 x roots l:=by
  unfold K8;exact Bj _ (Bj _ (Bj _ (Am.2 ⟨i,hi,rfl⟩)))
 have nz:∀{α:Type} {l:List α} {k:Int} {a:α},Km l k=some a→a∈l:=by
  intro α l k a h;unfold Km at h;split at h
  ·cases h
  ·exact Ay h
 have n0:∀{a b:List Tm},gX a=some b→b=a:=by
  intro a b h;unfold gX at h;split at h
  ·cases h
  ·cases h;rfl
 unfold Eb at h;split at h
 ·split at h
  ·cases e:Km roots i.number with
   |none=>rw[e]at h;cases h
   |some q =>
    rw[e]at h;cases h;refine U7 fun u hu=>?_;rw[Ar.1 hu];unfold K8;exact Bj _ (Bj _ (Bp _ (Am.2 ⟨q,nz e,rfl⟩)))
  ·cases h
 split at h
 ·split at h
  ·cases e:QB x i.path i.place with
   |none=>rw[e]at h;cases h
   |some r =>
    rw[e]at h;have h:(match Km r.reqs i.number with | none=>none | some q=>gX (EI i.path i.place q))=some t:=h;cases e2:Km r.reqs i.number with
    |none=>rw[e2]at h;cases h
    |some q =>
     rw[e2]at h;have h:=n0 (show gX (EI i.path i.place q)=some t from h);subst h;refine U7 fun u hu=>?_;rcases AF.1 hu with rfl | hu
     ·exact hp
     ·rw[Ar.1 hu];unfold K8;refine Bj _ (Bp _ (Am.2 ⟨q,?_,rfl⟩));exact Eh.2 ⟨r.reqs,Am.2 ⟨r,Cw e,rfl⟩,nz e2⟩
  ·cases h
 split at h
 ·split at h
  ·have h:=n0 h;subst h;refine U7 fun u hu=>?_;rw[Ar.1 hu];exact hp
  ·cases h
 split at h
 ·split at h
  ·cases e:Km d i.left with
   |none=>rw[e]at h;cases h
   |some a =>
    cases e2:Km d i.right with
    |none=>rw[e,e2]at h;cases h
    |some b =>
     rw[e,e2]at h;have h:(if(BO a b i.path).2=0 then some (BO a b i.path).1 else none)=some t:=h;split at h
     ·cases h;exact SO (hd a (nz e)) (hd b (nz e2))
     ·cases h
  ·cases h
 ·cases h
def sF:List (List UInt8):=[[97,110,100],[97,110,121],[97,115],[98,111,111,108],[100,101,112,114,101,99,97,116,101,100],[101,108,115,101],[101,120,112,111,114,116],[102,97,108,115,101],[102,110],[102,111,108,100],[102,114,111,109],[105,102],[105,109,112,111,114,116],[105,110],[105,110,116],[108,101,110,103,116,104],[108,101,116],[108,105,115,116],[109,97,116,99,104],[109,111,100,117,108,101],[110,111,110,101],[110,111,116],[111,114],[116,101,120,116],[116,104,101,110],[116,114,117,101],[116,121,112,101],[117,115,101]]
theorem gP:cy=32::sF.flatMap (fun w=>w++[32]):=by decide +kernel
theorem sG:∀w∈sF,∀c∈w,c≠32:=by decide +kernel
theorem Xf:∀(s w r:List UInt8),(∀c∈s,c≠32)→(∀c∈w,c≠32)→N2 (s++[32]) (w++32::r)=decide (w=s)
 | [],[],r,_,_=>by simp[N2]
 | [],b::w,r,_,hw=>by
  have:=hw b (Aa ..)
  simp[N2,this.symm]
 |a::s,[],r,hs,_=>by
  have:=hs a (Aa ..)
  simp[N2,this]
 |a::s,b::w,r,hs,hw=>by
  have ih:=Xf s w r (fun c hc=>hs c (Ah _ hc)) (fun c hc=>hw c (Ah _ hc));rw[Eg,Eg,N2,ih]
  by_cases e:a=b
  ·subst e;simp
  ·have e2:¬b=a:=fun h=>e h.symm;simp[e,e2]
theorem ZW(x:List UInt8):∀(w r:List UInt8),(∀c∈w,c≠32)→kY (32::x) (w++r)=kY (32::x) r
 | [],_,_=>rfl
 |b::w,r,h=>by
  have hb:=h b (Aa ..);rw[Eg,kY,ZW x w r (fun c hc=>h c (Ah _ hc))]
  have:N2 (32::x) (b::(w++r))=false:=by simp[N2,hb.symm]
  rw[this,J7]
theorem WT(s:List UInt8)(hs:∀c∈s,c≠32):∀ws:List (List UInt8),(∀w∈ws,∀c∈w,c≠32)→kY (32::(s++[32])) (32::ws.flatMap (fun w=>w++[32]))=ws.any (fun w=>decide (w=s))
 | [],_=>by
  cases s with
  |nil=>simp[kY,N2]
  |cons a s=>simp[kY,N2]
 |w::ws,h=>by
  have hw:=h w (Aa ..);have ih:=WT s hs ws (fun v hv=>h v (Ah _ hv));have e:(w::ws).flatMap (fun w=>w++[32])=w++32::ws.flatMap (fun w=>w++[32]):=by simp[List.flatMap_cons]
  rw[e,kY,N2,Xf s w _ hs hw,ZW _ w _ hw,ih,BX];simp
theorem p6(h:s.all Gg=true):∀c∈s,c≠32:=fun c hc e=>by
 have:=AZ.1 h c hc
 rw[e]at this;exact absurd this Cl
theorem cw(h:s.all Gg=true):Wb s=sF.any (fun w=>decide (w=s)):=by
 unfold Wb;rw[gP,WT s (p6 h) sF sG]
theorem aa(s:Bb)(x:Int×Int)(k:Nat){t:Bb}(h:s.Perm t):(s.take k++([x]++s.drop k)).Perm (t++[x]):=by
 have h1:(s.take k++([x]++s.drop k)).Perm (x::(s.take k++s.drop k)):=by
  rw[IK];exact List.perm_middle
 rw[Fr]at h1;exact h1.trans ((List.Perm.cons x h).trans (Pr x t).symm)
theorem UL(s:Bb)(x:Int×Int)(k:Nat)(hs:s.Pairwise fun a b=>a.1≤b.1)(h1:∀j (hj:j<s.length),k≤j→x.1<s[j].1)(h2:k=0∨∃h:k-1<s.length,s[k-1].1≤x.1):(s.take k++([x]++s.drop k)).Pairwise fun a b=>a.1≤b.1:=by
 have r8:∀a∈s.take k,a.1≤x.1:=fun a ha=>by
  obtain⟨j,hj,e⟩:=BZ ha;rw[AB]at hj;rw[E4]at e;rcases h2 with h2 | ⟨hk,h2⟩
  ·omega
  ·rcases BY j (k-1)with z | z
   ·have:=AS.1 hs j (k-1) ch hk z
    rw[e]at this;omega
   ·have:j=k-1:=by omega
    subst this;rw[←e];exact h2
 have hhi:∀b∈s.drop k,x.1≤b.1:=fun b hb=>by
  obtain⟨j,hj,e⟩:=BZ hb;rw[B3]at hj;rw[List.getElem_drop]at e
  have:=h1 (k+j) ch ch
  rw[e]at this;omega
 rw[List.pairwise_append];refine⟨hs.sublist (List.take_sublist ..),?_,fun a ha b hb=>?_⟩
 ·rw[IK,Bz];exact⟨hhi,hs.sublist (List.drop_sublist ..)⟩
 ·rw[IK]at hb;rcases AF.1 hb with e | hb
  ·rw[e];exact r8 a ha
  ·have:=r8 a ha
   have:=hhi b hb
   omega
structure Cd where
 place:Int
 rel:Rl
structure Nd where
 rq:Rq
 path:ByteArray
 place:Int
 number:Int
variable (n:Nd)
structure SS where
 infs:List Nf
 drv:List (List Tm)
 full:Bool
abbrev N1(c:Cd):Sl:=⟨c.rel.path,c.rel.ver⟩
abbrev AD(l:List Cd):List Sl:=l.map N1
def BJ:List Cd:=(x.filter fun r=>decide (r.path=p)&&!r.yanked).map fun r=>⟨plc r.ver,r⟩
def Ma(f:Rq→Nat→Nd):Nat→List Rq→List Nd
 |_,[]=>[]
 |i,q::l=>f q i::Ma f (i+1) l
def aX:List Nd:=Ma (fun q i=>⟨q,mt,0,i⟩) 0 roots
def QA(c:Cd):List Nd:=Ma (fun q i=>⟨q,c.rel.path,c.place,i⟩) 0 c.rel.reqs
def DI(dec:List Cd):List Nd:=aX roots++(dec.map QA).flatten
def CV(dec:List Cd)(p:ByteArray):Bool:=dec.any fun c=>decide (c.rel.path=p)
def EH(dec:List Cd)(a:ByteArray×List Nd)(n:Nd):ByteArray×List Nd :=
 if CV dec n.rq.path=true∨(a.2≠[]∧DL a.1 n.rq.path=true)then a
 else if a.2≠[]∧DL n.rq.path a.1=true then(n.rq.path,[n])else(n.rq.path,a.2++[n])
def Em(dec:List Cd):ByteArray×List Nd:=(DI roots dec).foldl (EH dec) (mt,[])
def UW(l:List Cd)(n:Nd):Bool:=l.any fun d=>decide (d.rel.path=n.rq.path)&&!has n.rq.set d.place
def Dc(dec:List Cd)(c:Cd):Option Nd:=(QA c).find? (UW (dec++[c]))
def PM(s:List Sl):Nat→List (List Tm)→Option Nat
 |_,[]=>none
 |i,t::l=>if CQ t s then some i else PM s (i+1) l
def OG(d:List (List Tm))(s:List Sl):Option Nat:=PM s 0 d
def Dm(l:List Tm)(p:ByteArray):Bool:=l.any fun t=>decide (t.path=p)
instance:DecidableEq Nf:=fun a b=>by
 obtain⟨a1,a2,a3,a4,a5,a6⟩:=a;obtain⟨b1,b2,b3,b4,b5,b6⟩:=b;exact decidable_of_iff (a1=b1∧a2=b2∧a3=b3∧a4=b4∧a5=b5∧a6=b6) ⟨fun⟨h1,h2,h3,h4,h5,h6⟩=>by subst h1 h2 h3 h4 h5 h6;rfl,fun h=>by cases h;exact⟨rfl,rfl,rfl,rfl,rfl,rfl⟩⟩
def MI(i:Nf):Nat→List Nf→Option Nat
 |_,[]=>none
 |k,j::l=>if j=i then some k else MI i (k+1) l
def Es(s:SS)(i:Nf)(l:List Tm):Nat×SS :=
 match MI i 0 s.infs with
 |some k=>(k,s)
 |none=>if 65536≤s.infs.length then(s.infs.length-1,⟨s.infs,s.drv,true⟩)else(s.infs.length,⟨s.infs++[i],s.drv++[l],s.full⟩)
def N0:Nf:=if n.path=mt then⟨0,mt,0,n.number,0,0⟩else⟨1,n.path,n.place,n.number,0,0⟩
def Ir:List Tm:=if n.path=mt then Ko n.rq else EI n.path n.place n.rq
def BH(s:SS)(n:Nd):Nat×SS:=Es s (N0 n) (Ir n)
abbrev D7(s:SS)(k:Nat):List Tm:=s.drv.getD k []
def Cc(p:ByteArray):List Nat→Nat→SS→Nat×SS
 | [],k,s=>(k,s)
 |r::l,k,s =>
  if s.full=true∨Dm (D7 s k) p=false then(k,s)
  else if r=k then Cc p l k s
  else if(BO (D7 s k) (D7 s r) p).2≠0 then Cc p l k s
  else Cc p l (Es s ⟨3,p,0,0,k,r⟩ (BO (D7 s k) (D7 s r) p).1).1 (Es s ⟨3,p,0,0,k,r⟩ (BO (D7 s k) (D7 s r) p).1).2
def En(s:SS):Nat×SS:=Es s ⟨2,p,0,0,0,0⟩ (IB p (Ca x p))
def DZ(reasons:List Nat)(s:SS):Nat×SS :=
 Cc p ((En x p (BH s n).2).1::reasons) (BH s n).1 (En x p (BH s n).2).2
structure Kx where
 res:Nat
 found:Bool
 ss:SS
 dec:List Cd
 stack:List (List Sk)
def DX(rec:List Cd→SS→List (List Sk)→Kx)(x:List Rl)(p:ByteArray)(needs:List Nd)(n0:Nd)(dec:List Cd)(stack:List (List Sk)):List Cd→SS→List Nat→List Sk→Kx
 | [],s,reasons,_=>⟨(DZ x p n0 reasons s).1,false,(DZ x p n0 reasons s).2,dec,stack⟩
 |c::cs,s,reasons,skips =>
  let after (k:Nat) (s:SS):Kx:=if Dm (D7 s k) p=false then⟨k,false,s,dec,stack⟩else DX rec x p needs n0 dec stack cs s (reasons++[k]) (skips++[⟨p,c.place,k⟩])
  if s.full=true then⟨0,false,s,dec,stack⟩
  else match needs.find? fun n=>!has n.rq.set c.place with
   |some n=>DX rec x p needs n0 dec stack cs (BH s n).2 (reasons++[(BH s n).1]) skips
   |none=>match OG s.drv (AD (dec++[c]))with
    |some k=>after k s
    |none=>match Dc dec c with
     |some n=>after (BH s n).1 (BH s n).2
     |none =>
      let o:=rec (dec++[c]) s (stack++[skips])
      if o.found=true then⟨0,true,o.ss,o.dec,o.stack⟩
      else if o.ss.full=true then⟨0,false,o.ss,dec,stack⟩
      else after o.res o.ss
def C3(x:List Rl)(roots:List Rq):Nat→List Cd→SS→List (List Sk)→Kx
 |0,dec,s,stack=>⟨0,false,s,dec,stack⟩
 |n+1,dec,s,stack=>match(Em roots dec).2 with
  | []=>⟨0,true,s,dec,stack⟩
  |n0::l=>DX (C3 x roots n) x (Em roots dec).1 (n0::l) n0 dec stack (BJ x (Em roots dec).1) s [] []
abbrev xk:SS:=⟨[],[],false⟩
def FM(dec:List Cd):Nat:=(x.filter fun r=>!r.yanked&&!CV dec r.path).length
def DU:Kx:=C3 x roots (x.length+1) [] xk []
end Go.Eng
