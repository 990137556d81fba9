/- Lemmas 2. -/
import Derived.Test.YtjhkbdgingfbaaaGreatDoorHA01
import Derived.Lib.SplitLaws
import Derived.Lib.IndexBytes
namespace Go.Eng
variable {x:Int×Int}{B:List Int}{s:List Tm}(m:List (Int×Int))(S:Bl)(l:List Tm)(r:Bl)(i:Nat)(k:Int)(t:Tm)(v j:Int)
def DM(l:Bl):Bl:=(l.map I1).filter fun x=>decide (x.1<x.2)
theorem Pm(a b:Bl):DM (a++b)=DM a++DM b:=by unfold DM;rw[Az,ED]
theorem Wk{l:Bl}(h:x∈DM l):0<=x.1/\x.1<x.2/\x.2<=1000000:=by
 unfold DM at h;rw[BG,Ak]at h;obtain⟨⟨y,_,rfl⟩,h2⟩:=h;have h2:=BO h2;refine⟨?_,h2,?_⟩<;>simp only[I1]<;>omega
theorem gL(l:Bl)(p:Int):(DM l).any (BN p)=has l p:=by
 rw[<-Ll]
 induction l with
 |nil=>rfl
 |cons x r ih=>
  have e:DM (x::r)=(if(I1 x).1<(I1 x).2 then [I1 x]else [])++DM r:=by
   unfold DM;rw[AK,DB]
   by_cases h:(I1 x).1<(I1 x).2<;>simp[h]
  have ec:canon (x::r)=if(I1 x).1<(I1 x).2 then XD (I1 x) (canon r)else canon r:=rfl
  rw[e,GF,ih,ec]
  by_cases h:(I1 x).1<(I1 x).2
  .rw[As h,As h,Pd _ p (Cv r) h];simp
  .rw[Ah h,Ah h];simp
theorem On:∀{l:Bl} {lo:Int},E2 lo l↔(∀y∈l,lo<=y.1/\y.1<y.2/\y.2<=1000000)/\l.Pairwise fun a b=>a.2<b.1
 | [],lo=>by simp[E2]
 |y::r,lo=>by
  rw[Ds];constructor
  .intro h;have hl:=h.low;refine⟨hl,fun z hz=>?_,((On (l:=r)).1 h.2.2.2).2⟩
   have:=h.2.2.2.low z hz;omega
  .intro⟨h1,h2,h3⟩;have hy:=h1 y (Ab ..);refine⟨hy.1,hy.2.1,hy.2.2,On.2 ⟨fun z hz=>?_,h3⟩⟩
   have:=h1 z (Ae _ hz)
   have:=h2 z hz
   omega
def LK(x:Int×Int):Bl:=match r with
 | []=>[x]
 |y::t=>if x.1<=y.2 then(y.1,max y.2 x.2)::t else x::y::t
def BH(s:Bl):Bl:=s.foldl LK []
theorem GO(s:Bl)(i:Nat)(h:i<s.length):BH (s.take (i+1))=LK (BH (s.take i)) s[i]:=by
 unfold BH;rw[AZ,At h,Ir];rfl
theorem jR(x:Int×Int):(LK r x).length<=r.length+1/\r.length<=(LK r x).length/\0<(LK r x).length:=by
 unfold LK;split
 .simp
 .split<;>simp
theorem UH(s:Bl):∀i,i<=s.length->(BH (s.take i)).length<=i/\(0<i->0<(BH (s.take i)).length):=by
 intro i
 induction i with
 |zero=>intro _;simp[BH]
 |succ i ih=>
  intro h;rw[GO s i ch]
  have:=jR (BH (s.take i)) s[i]
  have:=ih ch
  omega
structure sx(r done:Bl):Prop where
 ok:∀y∈r,0<=y.1/\y.1<y.2/\y.2<=1000000
 pw:r.Pairwise fun a b=>b.2<a.1
 has:∀p,r.any (BN p)=done.any (BN p)
 first:∀y t,r=y::t->∃x∈done,y.1=x.1
theorem jQ{r done:Bl}(h:sx r done)(hx:0<=x.1/\x.1<x.2/\x.2<=1000000)(hs:∀y∈done,y.1<=x.1):sx (LK r x) (done++[x]):=by
 unfold LK;split
 .refine⟨fun y hy=>?_,by simp,fun p=>?_,fun y t e=>?_⟩
  .rw[Aj.1 hy];exact hx
  .rw[GF,<-h.has];rfl
  .cases e;exact⟨x,by simp,rfl⟩
 .rename_i y t;have hy:=h.ok y (Ab ..);obtain⟨pw1,pw2⟩:=Ds.1 h.pw;obtain⟨z,hz,e⟩:=h.first y t rfl
  have vS:=hs z hz;split
  .rename_i Hp;refine⟨fun u hu=>?_,Ds.2 ⟨pw1,pw2⟩,fun p=>?_,fun u t' e'=>?_⟩
   .rcases Ay.1 hu with rfl | hu
    .exact⟨hy.1,by dsimp only;omega,by dsimp only;omega⟩
    .exact h.ok u (Ae _ hu)
   .rw[GF,<-h.has,Cb,Cb,Cb,List.any_nil,Sz]
    have:BN p (y.1,max y.2 x.2)=(BN p y||BN p x):=by
     simp only[BN];rw[BV];simp only[Af,CD,Au];omega
    rw[this];cases BN p y<;>cases BN p x<;>cases t.any (BN p)<;>rfl
   .cases e';exact⟨z,Bn _ hz,e⟩
  .rename_i Hp;refine⟨fun u hu=>?_,Ds.2 ⟨fun u hu=>?_,h.pw⟩,fun p=>?_,fun u t' e'=>?_⟩
   .rcases Ay.1 hu with rfl | hu
    .exact hx
    .exact h.ok u hu
   .rcases Ay.1 hu with rfl | hu
    .omega
    .have:=pw1 u hu;omega
   .rw[GF,<-h.has,Cb,Cb,Cb,List.any_nil,Sz];cases BN p y<;>cases BN p x<;>cases t.any (BN p)<;>rfl
   .cases e';exact⟨x,by simp,rfl⟩
theorem db{s:Bl}(FY:∀y∈s,0<=y.1/\y.1<y.2/\y.2<=1000000)(hs:s.Pairwise fun a b=>a.1<=b.1):∀i,i<=s.length->sx (BH (s.take i)) (s.take i):=by
 intro i
 induction i with
 |zero=>intro _;exact⟨fun _ h=>by simp[BH]at h,by simp[BH],fun p=>by simp[BH],fun y t e=>by simp[BH]at e⟩
 |succ i ih=>
  intro h;have hi:i<s.length:=by omega
  rw[GO s i hi];have e:s.take (i+1)=s.take i++[s[i]]:=by rw[AZ,At hi];rfl
  rw[e];refine jQ (ih ch) (FY _ (Aq hi)) fun y hy=>?_;obtain⟨j,hj,rfl⟩:=B1.1 hy;rw[K6];rw[AA]at hj;exact(A8.1 hs) j i ch hi ch
theorem SB{l s:Bl}(hp:s.Perm (DM l))(hs:s.Pairwise fun a b=>a.1<=b.1):(BH s).reverse=canon l:=by
 have hi:=db (s:=s) (fun y hy=>Wk (hp.mem_iff.1 hy)) hs s.length (Ai _);rw[CK]at hi;have hc:ET (BH s).reverse:=by
  unfold ET;rw[On];refine⟨fun y hy=>hi.ok y (List.mem_reverse.1 hy),?_⟩;rw[List.pairwise_reverse];exact hi.pw
 refine TK hc fun p=>?_;rw[H7 hc,List.any_reverse,hi.has,<-gL];rw[BV,AX,AX];constructor
 .rintro⟨y,h1,h2⟩;exact⟨y,hp.mem_iff.1 h1,h2⟩
 .rintro⟨y,h1,h2⟩;exact⟨y,hp.mem_iff.2 h1,h2⟩
-- maps from numbers to numbers,as lists in the order in which they are met
def FE:Int:=match m.find? (fun p=>decide (p.1=k))with | some p=>p.2 | none=>0
def Mf:List (Int×Int):=if m.any (fun p=>decide (p.1=k))then m.map (fun p=>if p.1=k then(k,v)else p)else m++[(k,v)]
theorem HR(p:Int×Int)(m:List (Int×Int))(k:Int):FE (p::m) k=if p.1=k then p.2 else FE m k:=by
 unfold FE;rw[D7];by_cases h:p.1=k<;>simp[h]
theorem Qk:FE (Mf m k v) j=if j=k then v else FE m j:=by
 unfold Mf;split
 .rename_i h
  induction m with
  |nil=>simp at h
  |cons p m ih=>
   rw[AK,HR,HR]
   by_cases e:p.1=k
   .rw[As e];dsimp only
    by_cases ej:j=k
    .subst ej;simp
    .rw[Ah (fun c=>ej c.symm),Ah ej,Ah (fun c=>ej (c.symm.trans e))]
     by_cases hm:(m.any fun p=>decide (p.1=k))=true
     .rw[ih hm,Ah ej]
     .have:∀q∈m,q.1≠k:=fun q hq e=>hm (AX.2 ⟨q,hq,by simp[e]⟩)
      have:m.map (fun p=>if p.1=k then(k,v)else p)=m:=by
       conv=>rhs;rw[<-MM m]
       exact Ba fun q hq=>by simp[this q hq]
      rw[this]
   .rw[Ah e];have hm:(m.any fun p=>decide (p.1=k))=true:=by simpa[e]using h
    rw[ih hm]
    by_cases ej:j=k
    .subst ej;simp[e]
    .simp[ej]
 .rename_i h;have hn:∀q∈m,q.1≠k:=fun q hq e=>h (AX.2 ⟨q,hq,by simp[e]⟩)
  induction m with
  |nil=>
   rw[E7,HR]
   by_cases ej:j=k
   .simp[ej]
   .have:¬k=j:=fun c=>ej c.symm
    simp[ej,this]
  |cons p m ih=>
   rw[DA,HR,HR];have e:=hn p (Ab ..);have ih:=ih (by simpa[e]using h) fun q hq=>hn q (Ae _ hq)
   by_cases ep:p.1=j
   .have:¬j=k:=fun c=>e (ep.trans c)
    simp[ep,this]
   .simp only[ep,FZ];exact ih
def Fu:List Int:=m.map (·.1)
theorem WG:Fu (Mf m k v)=if k∈Fu m then Fu m else Fu m++[k]:=by
 unfold Mf Fu;have e:(m.any fun p=>decide (p.1=k))=decide (k∈m.map (·.1)):=by
  rw[BV];simp only[AX,Au,Ak]
 rw[e]
 by_cases h:k∈m.map (·.1)
 .simp only[h,decide_true,OD,Bw];apply Ba;intro p _;simp only[Function.comp];split
  .rename_i e;exact e.symm
  .rfl
 .simp[h]
theorem M7{m:List (Int×Int)}(h:(Fu m).Nodup)(k v:Int):(Fu (Mf m k v)).Nodup:=by
 rw[WG];split
 .exact h
 .rename_i hn;rw[GK];exact⟨h,by simp,fun a ha b hb e=>by subst e;rw[Aj.1 hb]at ha;exact hn ha⟩
theorem IC:j∈Fu (Mf m k v)↔j=k\/j∈Fu m:=by
 rw[WG];split
 .rename_i h;constructor
  .exact .inr
  .rintro(rfl | h')
   .exact h
   .exact h'
 .simp[or_comm]
theorem ot{m:List (Int×Int)}(h:(Fu m).Nodup){p:Int×Int}(hp:p∈m):FE m p.1=p.2:=by
 induction m with
 |nil=>cases hp
 |cons q m ih=>
  rw[HR];unfold Fu at h ih;rw[AK,CN]at h;rcases Ay.1 hp with rfl | hp
  .simp
  .have:¬q.1=p.1:=fun e=>h.1 (e▸Ak.2 ⟨p,hp,rfl⟩)
   rw[Ah this];exact ih h.2 hp
theorem ov{m:List (Int×Int)}{k:Int}(h:k∉Fu m):FE m k=0:=by
 unfold FE
 have:m.find? (fun p=>decide (p.1=k))=none:=by
  rw[EE];intro p hp;simp only[Au];exact fun e=>h (Ak.2 ⟨p,hp,e⟩)
 rw[this]
-- counting
def cF:Nat:=S.countP fun x=>decide (x.1=k)
def cT:Nat:=S.countP fun x=>decide (x.2=k)
def lF:Nat:=S.countP fun x=>decide (x.1<=k)
def lT:Nat:=S.countP fun x=>decide (x.2<=k)
theorem JA{α:Type}{p q r:α->Bool}:∀{l:List α},(∀x∈l,(p x=true↔q x=true\/r x=true)/\¬(q x=true/\r x=true))->l.countP p=l.countP q+l.countP r
 | [],_=>rfl
 |x::l,h=>by
  have ih:=JA fun y hy=>h y (Ae _ hy);obtain⟨h1,h2⟩:=h x (Ab ..);rw[Je,Je,Je,ih];cases hp:p x<;>cases hq:q x<;>cases hr:r x<;>simp_all<;>omega
structure Jp(m:List (Int×Int))(S:Bl):Prop where
 nd:(Fu m).Nodup
 val:∀k,FE m k=(cF S k:Int)-cT S k
 keys:0∈Fu m/\1000000∈Fu m/\∀x∈S,x.1∈Fu m/\x.2∈Fu m
 rng:∀k∈Fu m,0<=k/\k<=1000000
def wX:List (Int×Int):=[(0,0),(1000000,0)]
theorem pD:Jp wX []:=⟨by decide,fun k=>by
  unfold wX;rw[HR,HR];simp[FE,cF,cT],⟨by decide,by decide,fun _ h=>by cases h⟩,fun k hk=>by
  unfold wX Fu at hk;simp at hk;omega⟩
def bx(x:Int×Int):List (Int×Int):=Mf (Mf m x.1 (FE m x.1+1)) x.2 (FE (Mf m x.1 (FE m x.1+1)) x.2-1)
theorem jP{m:List (Int×Int)}{S:Bl}(h:Jp m S)(hx:0<=x.1/\x.1<x.2/\x.2<=1000000):Jp (bx m x) (S++[x]):=by
 unfold bx;refine⟨M7 (M7 h.nd _ _) _ _,fun k=>?_,⟨?_,?_,fun y hy=>?_⟩,fun k hk=>?_⟩
 .rw[Qk,Qk,Qk,h.val,h.val,h.val];unfold cF cT;simp only[List.countP_append,List.countP_singleton,Au]
  by_cases e1:k=x.2
  .subst e1
   have:¬x.2=x.1:=by omega
   have:¬x.1=x.2:=by omega
   simp[*];omega
  .by_cases e2:k=x.1
   .subst e2
    have:¬x.2=x.1:=by omega
    have:¬x.1=x.2:=by omega
    simp[*];omega
   .have a1:¬x.1=k:=fun c=>e2 c.symm;have a2:¬x.2=k:=fun c=>e1 c.symm;simp[e1,e2,a1,a2]
 .rw[IC,IC];exact .inr (.inr h.keys.1)
 .rw[IC,IC];exact .inr (.inr h.keys.2.1)
 .simp only[IC];rcases AT.1 hy with hy | hy
  .have:=h.keys.2.2 y hy
   exact⟨.inr (.inr this.1),.inr (.inr this.2)⟩
  .rw[Aj.1 hy];exact⟨.inr (.inl rfl),.inl rfl⟩
 .rw[IC,IC]at hk;rcases hk with rfl | rfl | hk
  .omega
  .omega
  .exact h.rng k hk
def I9(B:List Int):Int:=(B.map (FE m)).foldl (·+·) 0
theorem RB(B:List Int)(i:Nat)(h:i<B.length):I9 m (B.take (i+1))=I9 m (B.take i)+FE m B[i]:=by
 unfold I9;rw[AZ,At h,Az,Ir];simp only[Pb,AK,Eb,FK,List.foldl_nil]
structure o7(B:List Int)(m:List (Int×Int)):Prop where
 perm:B.Perm (Fu m)
 srt:B.Pairwise fun a b=>a<b
theorem fM{m:List (Int×Int)}{S:Bl}(h:Jp m S)(hB:o7 B m):∀i (hi:i<B.length),I9 m (B.take (i+1))=(lF S B[i]:Int)-lT S B[i]:=by
 have mem:∀k,k∈Fu m->∃j,∃hj:j<B.length,B[j]=k:=fun k hk=>by
  have:=hB.perm.mem_iff.2 hk
  obtain⟨j,hj,e⟩:=B1.1 this;exact⟨j,hj,e⟩
 have lt:∀i j (hi:i<B.length) (hj:j<B.length),i<j->B[i]<B[j]:=fun i j hi hj QM=>(A8.1 hB.srt) i j hi hj QM;intro i
 induction i with
 |zero=>
  intro hi;rw[RB m B 0 hi,h.val]
  have:I9 m (B.take 0)=0:=by simp[I9]
  rw[this];have low:∀k∈Fu m,B[0]<=k:=fun k hk=>by
   obtain⟨j,hj,rfl⟩:=mem k hk;cases j with
   |zero=>exact By _
   |succ j=>have:=lt 0 (j+1) hi hj ch;omega
  have e1:lF S B[0]=cF S B[0]:=by
   unfold lF cF;apply RM;intro x hx
   have:=low _ (h.keys.2.2 x hx).1
   simp only[Au];omega
  have e2:lT S B[0]=cT S B[0]:=by
   unfold lT cT;apply RM;intro x hx
   have:=low _ (h.keys.2.2 x hx).2
   simp only[Au];omega
  rw[e1,e2];omega
 |succ i ih=>
  intro hi;rw[RB m B (i+1) hi,ih ch,h.val];have nb:∀k∈Fu m,k<=B[i+1]↔k<=B[i]\/k=B[i+1]:=fun k hk=>by
   obtain⟨j,hj,rfl⟩:=mem k hk;have l0:=lt i (i+1) ch hi ch;rcases Lb j (i+1)with c | c | c
   .have:B[j]<=B[i]:=by
     rcases BT j i with d | d
     .have:=lt j i hj ch d;omega
     .have:j=i:=by omega
      subst this;exact By _
    omega
   .subst c;omega
   .have:=lt (i+1) j hi hj c;omega
  have l0:=lt i (i+1) ch hi ch;have e1:lF S B[i+1]=lF S B[i]+cF S B[i+1]:=by
   unfold lF cF;apply JA;intro x hx
   have:=nb _ (h.keys.2.2 x hx).1
   simp only[Au];omega
  have e2:lT S B[i+1]=lT S B[i]+cT S B[i+1]:=by
   unfold lT cT;apply JA;intro x hx
   have:=nb _ (h.keys.2.2 x hx).2
   simp only[Au];omega
  rw[e1,e2];omega
theorem Zu{S:Bl}(hS:∀x∈S,x.1<x.2)(p:Int):(lF S p:Int)-lT S p=(S.countP (BN p):Nat):=by
 have:lF S p=S.countP (BN p)+lT S p:=by
  unfold lF lT;apply JA;intro x hx
  have:=hS x hx
  simp only[BN,Af,Au];omega
 omega
theorem Pn:∀{l:Bl} {lo:Int} (p:Int),E2 lo l->l.countP (BN p)=if l.any (BN p)then 1 else 0
 | [],_,_,_=>rfl
 |y::r,lo,p,⟨h1,h2,h3,h4⟩=>by
  rw[Je,Pn p h4,Cb];cases hy:BN p y with
  |false=>rw[JP];simp
  |true=>
   have:=DS.1 hy
   have:r.any (BN p)=false:=by
    rw[AH];intro hr;have:=Ns h4 hr;omega
   simp[this]
theorem MR:∀(l:List Bl) (p:Int),((l.map canon).flatten).countP (BN p)=kc l p
 | [],_=>rfl
 |s::l,p=>by
  rw[AK,Bu,List.countP_append,MR l p,Pn p (Cv s),Ll];unfold kc;rw[Je];omega
def EJ(keep:Nat->Bool)(m:List (Int×Int))(B:List Int):Nat->Bl
 |0=>[]
 |i+1=>EJ keep m B i++(match B[i]?,B[i+1]? with
  |some a,some b=>if keep (I9 m (B.take (i+1))).toNat then [(a,b)]else []
  |_,_=>[])
theorem QV{keep:Nat->Bool}{m:List (Int×Int)}{B:List Int}{x:Int×Int}:∀{n:Nat},x∈EJ keep m B n↔∃i,i<n/\∃(h1:i<B.length) (h2:i+1<B.length),keep (I9 m (B.take (i+1))).toNat=true/\x=(B[i],B[i+1])
 |0=>by simp[EJ]
 |n+1=>by
  unfold EJ;rw[AT,QV (n:=n)];constructor
  .rintro(⟨i,h1,h2⟩ | h)
   .exact⟨i,by omega,h2⟩
   .split at h
    .rename_i a b ha hb;obtain⟨h1,e1⟩:=Ar.1 ha;obtain⟨h2,e2⟩:=Ar.1 hb;split at h
     .rename_i hk;refine⟨n,by omega,h1,h2,hk,?_⟩;rw[Aj.1 h,e1,e2]
     .cases h
    .cases h
  .rintro⟨i,h1,h2,h3,h4,rfl⟩
   by_cases e:i=n
   .subst e;refine .inr ?_;rw[At h2,At h3];simp[h4]
   .exact .inl ⟨i,by omega,h2,h3,h4,rfl⟩
theorem Pk{B:List Int}(hs:B.Pairwise fun a b=>a<b){p:Int}:∀(n:Nat) (h0:0<B.length) (hn:n<B.length),B[0]<=p->p<B[n]->∃i,∃(h1:i<B.length) (h2:i+1<B.length),B[i]<=p/\p<B[i+1]
 |0,h0,hn,h1,h2=>by omega
 |n+1,h0,hn,h1,h2=>by
  by_cases e:B[n]<=p
  .exact⟨n,by omega,hn,e,h2⟩
  .exact Pk hs n h0 ch h1 ch
theorem mI{keep:Nat->Bool}{l:List Bl}{m:List (Int×Int)}(h:Jp m (l.map canon).flatten)(hB:o7 B m)(p:Int):has (EJ keep m B (B.length-1)) p=(MF p&&keep (kc l p)):=by
 have hS:∀x∈(l.map canon).flatten,x.1<x.2:=fun x hx=>by
  obtain⟨s,hs,hx⟩:=DQ.1 hx;obtain⟨t,_,rfl⟩:=Ak.1 hs;exact((Cv t).low x hx).2.1
 have mem:∀k,k∈Fu m->∃j,∃hj:j<B.length,B[j]=k:=fun k hk=>by
  obtain⟨j,hj,e⟩:=B1.1 (hB.perm.mem_iff.2 hk);exact⟨j,hj,e⟩
 have lt:∀i j (hi:i<B.length) (hj:j<B.length),i<j->B[i]<B[j]:=fun i j hi hj QM=>(A8.1 hB.srt) i j hi hj QM;have rng:∀i (hi:i<B.length),0<=B[i]/\B[i]<=1000000:=fun i hi=>h.rng _ (hB.perm.mem_iff.1 (Aq hi))
 -- XN two bounds
 have XN:∀i (h1:i<B.length) (h2:i+1<B.length),B[i]<=p->p<B[i+1]->(I9 m (B.take (i+1))).toNat=kc l p:=fun i h1 h2 a b=>by
  have same:∀k∈Fu m,k<=B[i]↔k<=p:=fun k hk=>by
   obtain⟨j,hj,rfl⟩:=mem k hk;constructor
   .intro c;omega
   .intro c;rcases BT i j with d | d
    .rcases BT (i+1) j with f | f
     .have:=lt (i+1) j h2 hj f;omega
     .have:j=i+1:=by omega
      subst this;omega
    .rcases BT j i with f | f
     .have:=lt j i hj h1 f;omega
     .have:j=i:=by omega
      subst this;exact By _
  have e1:lF (l.map canon).flatten B[i]=lF (l.map canon).flatten p:=by
   unfold lF;apply RM;intro x hx
   have:=same _ (h.keys.2.2 x hx).1
   simp only[Au];exact this
  have e2:lT (l.map canon).flatten B[i]=lT (l.map canon).flatten p:=by
   unfold lT;apply RM;intro x hx
   have:=same _ (h.keys.2.2 x hx).2
   simp only[Au];exact this
  rw[fM h hB i h1,e1,e2,Zu hS,MR];simp
 rw[BV];constructor
 .intro hh;have kk:=M2 hh;unfold has at hh;simp only[kk,decide_true,Ep]at hh;obtain⟨x,hx,hp⟩:=AX.1 hh;obtain⟨i,_,h1,h2,hk,rfl⟩:=QV.1 hx
  have:=DS.1 hp
  dsimp only at this;rw[<-XN i h1 h2 this.1 this.2];simp[MF,kk,hk]
 .intro hh;simp only[Af,MF,Au]at hh;obtain⟨⟨p0,p1⟩,hk⟩:=hh;obtain⟨j0,hj0,e0⟩:=mem 0 h.keys.1;obtain⟨j1,hj1,e1⟩:=mem 1000000 h.keys.2.1;have xy:B[0]' ch<=p:=by
   have:B[0]' ch<=0:=by
    cases j0 with
    |zero=>omega
    |succ j=>have:=lt 0 (j+1) ch hj0 ch;omega
   omega
  obtain⟨i,h1,h2,a,b⟩:=Pk hB.srt j1 ch hj1 xy ch;unfold has;simp only[p0,p1,decide_true,Ep];exact AX.2 ⟨(B[i],B[i+1]),QV.2 ⟨i,by omega,h1,h2,by rw[XN i h1 h2 a b];exact hk,rfl⟩,DS.2 ⟨a,b⟩⟩
theorem oa{l:List Bl}{m:List (Int×Int)}(h:Jp m (l.map canon).flatten)(hB:o7 B m)(i:Nat)(hi:i<B.length):0<=I9 m (B.take (i+1))/\I9 m (B.take (i+1))<=l.length:=by
 have hS:∀x∈(l.map canon).flatten,x.1<x.2:=fun x hx=>by
  obtain⟨s,hs,hx⟩:=DQ.1 hx;obtain⟨t,_,rfl⟩:=Ak.1 hs;exact((Cv t).low x hx).2.1
 rw[fM h hB i hi,Zu hS,MR]
 have:kc l B[i]<=l.length:=List.countP_le_length
 omega
def YJ(m:List Tm)(t:Tm):List Tm:=if m.any (fun u=>decide (u.path=t.path))then m.map (fun u=>if u.path=t.path then t else u)else m++[t]
def stepT(m:List Tm)(t:Tm):List Tm:=YJ m (OL (Dq m t.path) t)
def Dy:List Tm:=l.foldl stepT []
theorem gY(p:ByteArray):∀m:List Tm,Dq (YJ m t) p=if t.path=p then some t else Dq m p:=by
 intro m;unfold YJ
 by_cases h:(m.any fun u=>decide (u.path=t.path))=true
 .rw[As h]
  induction m with
  |nil=>simp at h
  |cons u m ih=>
   rw[AK,CT,CT]
   by_cases e:u.path=t.path
   .rw[As e]
    by_cases ep:t.path=p
    .simp[ep]
    .rw[Ah ep,Ah ep,Ah (fun c=>ep (e.symm.trans c))]
     by_cases hm:(m.any fun u=>decide (u.path=t.path))=true
     .rw[ih hm,Ah ep]
     .have:∀q∈m,q.path≠t.path:=fun q hq c=>hm (AX.2 ⟨q,hq,by simp[c]⟩)
      have:m.map (fun u=>if u.path=t.path then t else u)=m:=by
       conv=>rhs;rw[<-MM m]
       exact Ba fun q hq=>by simp[this q hq]
      rw[this]
   .rw[Ah e];have hm:(m.any fun u=>decide (u.path=t.path))=true:=by simpa[e]using h
    rw[ih hm]
    by_cases ep:t.path=p
    .subst ep;simp[e]
    .simp[ep]
 .rw[Ah h];have hn:∀q∈m,q.path≠t.path:=fun q hq e=>h (AX.2 ⟨q,hq,by simp[e]⟩)
  clear h
  induction m with
  |nil=>rw[E7,CT]
  |cons u m ih=>
   rw[DA,CT,CT,ih fun q hq=>hn q (Ae _ hq)]
   have:=hn u (Ab ..)
   by_cases e:u.path=p
   .have:¬t.path=p:=fun c=>this (e.trans c.symm)
    simp[e,this]
   .simp[e]
def EK(m:List Tm):List ByteArray:=m.map (·.path)
open Classical in
theorem dq(m:List Tm)(t:Tm):EK (YJ m t)=if t.path∈EK m then EK m else EK m++[t.path]:=by
 unfold YJ EK;have e:(m.any fun u=>decide (u.path=t.path))=true↔t.path∈m.map (·.path):=by
  simp only[AX,Au,Ak]
 by_cases h:t.path∈m.map (·.path)
 .rw[As (e.2 h),As h,Bw];apply Ba;intro p _;simp only[Function.comp];split
  .rename_i e;exact e.symm
  .rfl
 .rw[Ah (fun c=>h (e.1 c)),Ah h,Az];rfl
theorem ja{m:List Tm}(h:(EK m).Nodup)(t:Tm):(EK (YJ m t)).Nodup:=by
 rw[dq];split
 .exact h
 .rename_i hn;rw[GK];exact⟨h,by simp,fun a ha b hb e=>by subst e;rw[Aj.1 hb]at ha;exact hn ha⟩
theorem Sm(h:i<l.length):Dy (l.take (i+1))=stepT (Dy (l.take i)) l[i]:=by
 unfold Dy;rw[AZ,At h,Ir];rfl
theorem Pz:∀(l m:List Tm),(EK m).Nodup->(EK (l.foldl stepT m)).Nodup
 | [],_,h=>h
 |_::l,_,h=>Pz l _ (ja h _)
theorem Ib:(EK (Dy l)).Nodup:=Pz l [] .nil
theorem ZH(m:List Tm)(t:Tm)(p:ByteArray):Dq (stepT m t) p=KH p (Dq m p) t:=by
 unfold stepT KH;have hp:(OL (Dq m t.path) t).path=t.path:=Rm _ _ fun u h=>HA h;rw[gY,hp]
 by_cases e:t.path=p
 .rw[As e,As e,e]
 .rw[Ah e,Ah e]
theorem Pw(p:ByteArray):∀(l m:List Tm),Dq (l.foldl stepT m) p=l.foldl (KH p) (Dq m p)
 | [],_=>rfl
 |t::l,m=>by rw[FK,FK,Pw p l,ZH]
theorem cy(p:ByteArray):Dq (Dy l) p=Dq (Fm l) p:=by
 unfold Dy;rw[Pw,JE];rfl
theorem MX{m:List Tm}(h:(EK m).Nodup){t:Tm}:t∈m↔Dq m t.path=some t:=by
 constructor
 .induction m with
  |nil=>intro h;cases h
  |cons u m ih=>
   intro ht;unfold EK at h ih;rw[AK,CN]at h;rw[CT];rcases Ay.1 ht with rfl | ht
   .rw[As rfl]
   .have:¬u.path=t.path:=fun e=>h.1 (e▸Ak.2 ⟨t,ht,rfl⟩)
    rw[Ah this];exact ih h.2 ht
 .exact Fx
theorem Ie{m:List Tm}(h:(EK m).Nodup):m.Nodup:=by
 unfold EK at h
 induction m with
 |nil=>exact .nil
 |cons u m ih=>
  rw[AK,CN]at h;exact CN.2 ⟨fun hu=>h.1 (Ak.2 ⟨u,hu,rfl⟩),ih h.2⟩
theorem Ik{l:List Tm}{lo:Option ByteArray}(h:Ch lo l):(EK l).Nodup:=by
 unfold EK
 induction l generalizing lo with
 |nil=>exact .nil
 |cons t l ih=>
  rw[AK,CN];refine⟨fun hm=>?_,ih h.2.2⟩;obtain⟨u,hu,e⟩:=Ak.1 hm
  have:=h.2.2.low u hu
  rw[e,Dn]at this;cases this
theorem JK:t∈Dy l↔t∈Fm l:=by
 rw[MX (Ib l),cy,<-MX (Ik (EF l))]
theorem PP:∀t∈Dy l,ET t.set:=fun t ht=>(EF l).canon t ((JK l t).1 ht)
theorem jS(m:List Tm)(t:Tm):(stepT m t).length<=m.length+1:=by
 unfold stepT YJ;split<;>simp
theorem OG:∀i,i<=l.length->(Dy (l.take i)).length<=i:=by
 intro i
 induction i with
 |zero=>intro _;simp[Dy]
 |succ i ih=>
  intro h;rw[Sm l i ch]
  have:=jS (Dy (l.take i)) l[i]
  have:=ih ch
  omega
theorem dH(hs:s.Pairwise fun x y=>FQ x.path y.path=true)(hc:∀t∈s,ET t.set):Ch none s:=by
 have:∀(s:List Tm) (lo:Option ByteArray),s.Pairwise (fun x y=>FQ x.path y.path=true)->(∀t∈s,ET t.set)->(∀p,lo=some p->∀t∈s,FQ p t.path=true)->Ch lo s:=by
  intro s
  induction s with
  |nil=>intro _ _ _ _;trivial
  |cons t s ih=>
   intro lo hs hc hl;obtain⟨h1,h2⟩:=Ds.1 hs;exact⟨fun p e=>hl p e t (Ab ..),hc t (Ab ..),ih _ h2 (fun u hu=>hc u (Ae _ hu)) fun p e u hu=>by cases e;exact h1 u hu⟩
 exact this s none hs hc fun _ e=>by cases e
theorem QC{l:List Tm}(q:Tm->Bool)(hp:s.Perm ((Dy l).filter q))(hs:s.Pairwise fun x y=>FQ y.path x.path=false):s=(Fm l).filter q:=by
 have hm:∀t,t∈s↔t∈(Fm l).filter q:=fun t=>by
  rw[hp.mem_iff,BG,BG,JK]
 have PI:(EK s).Nodup:=by
  have h1:(EK ((Dy l).filter q)).Nodup:=by
   unfold EK;exact List.Nodup.sublist (List.Sublist.map _ List.filter_sublist) (Ib l)
  unfold EK at h1⊢;exact(hp.map (·.path)).nodup_iff.2 h1
 have Il:s.Pairwise fun x y=>FQ x.path y.path=true:=by
  rw[A8]at hs⊢;intro i j hi hj QM;cases hb:FQ s[i].path s[j].path with
  |true=>rfl
  |false=>
   have e:=Kp hb (hs i j hi hj QM);unfold EK at PI
   have:=(A8.1 PI) i j (by simpa using hi) (by simpa using hj) QM
   simp at this;exact absurd e this
 have hss:Ch none s:=dH Il fun t ht=>(EF l).canon t (BG.1 ((hm t).1 ht)).1;have ko:Ch none ((Fm l).filter q):=Ch.filter q (EF l);refine Np hss ko fun p=>?_;cases h1:Dq s p with
 |some t=>
  have:=(hm t).1 (Fx h1)
  rw[FW ko,HA h1]at this;exact this.symm
 |none=>
  cases h2:Dq ((Fm l).filter q) p with
  |none=>rfl
  |some t=>
   have:=(hm t).2 (Fx h2)
   rw[FW hss,HA h2,h1]at this;cases this
theorem ca:Hj t t=Mq t:=by unfold Hj Mq;rw[cS,Bool.and_self]
theorem fD(o:Option Tm)(t:Tm):OL o t=Hj (o.getD t) t:=by cases o with | none=>exact(ca t).symm | some u=>rfl
theorem gl{t:Tm}(h:ET t.set):(t.absent&&(EC t.set).isEmpty)=GY t:=by
 unfold GY
 congr 1
 rw[BV,Hf,Au];have ha:ET [(0,1000000)]:=⟨By _,by dsimp only;omega,By _,trivial⟩;constructor
 .intro e;refine H2 h ha fun p=>?_
  have:=FX t.set p
  rw[e]at this;have h0:has [] p=false:=by simp[has]
  rw[h0]at this;have h1:has [(0,1000000)] p=MF p:=by simp[has,MF,BN]
  rw[h1];cases hp:MF p with
  |true=>rw[hp]at this;simpa using this.symm
  |false=>
   rw[AH];intro hh
   have:=M2 hh
   simp[MF,this]at hp
 .intro e;rw[Re (HG _)];intro p;rw[FX,e];have h1:has [(0,1000000)] p=MF p:=by simp[has,MF,BN]
  rw[h1];simp
theorem mZ{t:Tm}(h:ET t.set):(!t.absent&&(canon t.set).isEmpty)=IE t:=by unfold IE;rw[JR h]
end Go.Eng
namespace Go.Eng
open Go.Lib
theorem Ry(c:UInt8):∀(s:List UInt8) (k:Nat),s.count c<=k->splitK [c] 0 k s=B2 c s
 | [],k,_=>by
  cases k with
  |zero=>rfl
  |succ k=>rfl
 |b::r,k,h=>by
  rw[B2]
  by_cases e:b=c
  .subst e;rw[List.count_cons_self]at h;obtain⟨k',rfl⟩:∃k',k=k'+1:=⟨k-1,by omega⟩;rw[As rfl,splitK,index_one,indexByte];simp only[beq_self_eq_true,OD];rw[Ah Cl];show []::splitK [b] 0 k' r=_;rw[Ry b r k' ch]
  .have Dv:(b == c)=false:=by simpa using e
   rw[List.count_cons_of_ne (by simpa using e)]at h;have ih:=Ry c r k h;rw[Ah e];cases k with
   |zero=>
    rw[<-ih];rfl
   |succ k=>
    rw[<-ih,splitK,splitK,index_one,index_one,indexByte,Dv]
    by_cases h0:indexByte r c=-1
    .rw[h0];rfl
    .have h1:(indexByte r c == -1)=false:=by simpa using h0
     have h2:=indexByte_ge r c;have h3:(indexByte r c+1 == -1)=false:=by rw[Jz];omega
     simp only[CM,FZ,h1,h3];obtain⟨i,hi⟩:∃i:Nat,indexByte r c=i:=⟨(indexByte r c).toNat,by omega⟩;rw[hi];show(b::r).take (((i:Int)+1).toNat+0)::_=(b::r.take ((i:Int).toNat+0))::_;rw[show((i:Int)+1).toNat=i+1 by omega,show((i:Nat):Int).toNat=i by omega]
     rfl
theorem Zt(c:UInt8):∀(n:Nat) (s:List UInt8),s.length<=n->count s [c]=s.count c
 |n,s,hn=>by
  rcases Int.lt_or_le (indexByte s c) 0 with h | h
  .have h2:=indexByte_ge s c;have h3:indexByte s c=-1:=by omega
   rw[count_miss (by rw[index_one];exact h3)]
   symm
   rw[List.count_eq_zero];intro hm;obtain⟨k,hk,e⟩:=CE hm;exact indexByte_none h3 k (by rw[At hk,e])
  .obtain⟨i,hi⟩:∃i:Nat,indexByte s c=i:=⟨(indexByte s c).toNat,by omega⟩;obtain⟨h1,h2⟩:=indexByte_some hi;obtain⟨hl,hg⟩:=Ar.1 h1;cases n with
   |zero=>omega
   |succ n=>
    have hc:=count_hit (s:=s) (sub:=[c]) (i:=i) B0 (by rw[index_one];exact hi);rw[hc];have ih:=Zt c n (s.drop (i+1)) (by rw[DP];omega);have qm:s=s.take i++c::s.drop (i+1):=by
     rw[<-hg,<-AY hl,Fi]
    have h0:(s.take i).count c=0:=by
     rw[List.count_eq_zero];intro hm;obtain⟨k,hk,e⟩:=CE hm;rw[AA]at hk;rw[K6]at e;exact h2 k ch (by rw[At ch,e])
    conv=>rhs;rw[qm]
    rw[List.count_append,h0,List.count_cons_self];show 1+count (s.drop (i+1)) [c]=_;rw[ih];omega
theorem Xf(s:ByteArray)(c:UInt8):((splitB ⟨#[c]⟩ 0 (countB s ⟨#[c]⟩) s).map (·.data.toList))=B2 c s.data.toList:=by
 rw[splitB_data];refine Ry c _ _ ?_;show _<=count s.data.toList [c];rw[Zt c _ _ (Ai _)];exact Ai _
end Go.Eng
namespace Go.Eng
variable {U:List ByteArray}{d:List (List Tm)}{l t c:List Tm}{k:Nat}(x:List Rl)(p:ByteArray)(roots:List Rq)
theorem WQ{α:Type}:∀{l m:List α},l.Nodup->(∀x∈l,x∈m)->l.length<=m.length
 | [],_,_,_=>AE _
 |a::l,m,hn,hs=>by
  obtain⟨h1,h2⟩:=CN.1 hn;obtain⟨s,t,rfl⟩:=List.append_of_mem (hs a (Ab ..))
  have:l.length<=(s++t).length:=WQ h2 fun x hx=>by
   rcases AT.1 (hs x (Ae _ hx))with h | h
   .exact Bn _ h
   .rcases Ay.1 h with rfl | h
    .exact absurd hx h1
    .exact Bg _ h
  simp only[Ac,Al]at this⊢;omega
theorem Ms(p:ByteArray):∀(l:List Tm) (o:Option Tm),(∀u∈l,u.path≠p)->l.foldl (KH p) o=o
 | [],_,_=>rfl
 |t::l,o,h=>by
  rw[FK,show KH p o t=o by unfold KH;rw[Ah (h t (Ab ..))]];exact Ms p l o fun u hu=>h u (Ae _ hu)
theorem de{t:Tm}(h:t∈Fm l):∃u∈l,u.path=t.path:=by
 apply Bc;intro hn
 have:∀u∈l,u.path≠t.path:=fun u hu e=>hn ⟨u,hu,e⟩
 have h1:=(FW (EF l)).1 h;rw[JE,Ms _ _ _ this]at h1;cases h1
def VY(U:List ByteArray)(t:List Tm):Prop:=Ch none t/\∀u∈t,u.path∈U
theorem VY.len(h:VY U t):t.length<=U.length:=by
 have:=WQ (Ik h.1) (m:=U) fun p hp=>by
  obtain⟨u,hu,rfl⟩:=Ak.1 hp;exact h.2 u hu
 unfold EK at this
 rwa [AS]at this
theorem cc(h:CW l=some c){t:Tm}(ht:t∈c):t∈Fm l:=by
 unfold CW at h;split at h
 .cases h
 .cases h;exact(BG.1 ht).1
theorem QB(h:CW l=some c)(hu:∀u∈l,u.path∈U):VY U c:=
 ⟨E9 h,fun t ht=>by
  obtain⟨u,h1,h2⟩:=de (cc h ht);rw[<-h2];exact hu u h1⟩
theorem VY.nil(U:List ByteArray):VY U []:=⟨trivial,fun u hu=>by cases hu⟩
theorem UP(hu:∀u∈l,u.path∈U):VY U (Rg l):=by
 unfold Rg;cases h:CW l with
 |none=>exact .nil U
 |some c=>exact QB h hu
theorem Su{a b:List Tm}{p:ByteArray}(ha:VY U a)(hb:VY U b):VY U (BK a b p).1:=by
 have sp:∀{l r:List Tm} {t:Tm},VY U l->FF l p=some (t,r)->t.path∈U/\∀u∈r,u.path∈U:=by
  intro l r t hl h;unfold FF at h;cases e:CW l with
  |none=>rw[e]at h;cases h
  |some c=>
   rw[e]at h;have h:(match Dq c p with | none=>none | some t=>some (t,F4 c p))=some (t,r):=h;have hc:=QB e hl.2;cases e2:Dq c p with
   |none=>rw[e2]at h;cases h
   |some u=>
    rw[e2]at h;cases h;exact⟨hc.2 _ (Fx e2),fun u hu=>hc.2 u (BG.1 hu).1⟩
 unfold BK;split
 .rename_i t r u m e1 e2;obtain⟨a1,a2⟩:=sp ha e1;obtain⟨b1,b2⟩:=sp hb e2;split
  .rename_i o e3;refine QB e3 fun v hv=>?_;rcases AT.1 hv with hv | hv
   .rcases AT.1 hv with hv | hv
    .exact a2 v hv
    .exact b2 v hv
   .rw[Aj.1 hv];exact a1
  .exact .nil U
 .exact .nil U
def KY(l:List Nf):List ByteArray:=(x.map (·.path))++((x.map (·.reqs)).flatten.map (·.path)++(roots.map (·.path)++l.map (·.path)))
theorem iG{x:List Rl}{roots:List Rq}{l:List Nf}{i:Nf}(hi:i∈l)(hd:∀t∈d,VY (KY x roots l) t)(h:D4 x roots d i=some t):VY (KY x roots l) t:=by
 have hp:i.path∈KY x roots l:=by
  unfold KY;exact Bg _ (Bg _ (Bg _ (Ak.2 ⟨i,hi,rfl⟩)))
 have nz:∀{α:Type} {l:List α} {k:Int} {a:α},J5 l k=some a->a∈l:=by
  intro α l k a h;unfold J5 at h;split at h
  .cases h
  .exact Av h
 have n0:∀{a b:List Tm},iW a=some b->b=a:=by
  intro a b h;unfold iW at h;split at h
  .cases h
  .cases h;rfl
 unfold D4 at h;split at h
 .split at h
  .cases e:J5 roots i.number with
   |none=>rw[e]at h;cases h
   |some q=>
    rw[e]at h;cases h;refine UP fun u hu=>?_;rw[Aj.1 hu];unfold KY;exact Bg _ (Bg _ (Bn _ (Ak.2 ⟨q,nz e,rfl⟩)))
  .cases h
 split at h
 .split at h
  .cases e:P0 x i.path i.place with
   |none=>rw[e]at h;cases h
   |some r=>
    rw[e]at h;have h:(match J5 r.reqs i.number with | none=>none | some q=>iW (EA i.path i.place q))=some t:=h;cases e2:J5 r.reqs i.number with
    |none=>rw[e2]at h;cases h
    |some q=>
     rw[e2]at h;have h:=n0 (show iW (EA i.path i.place q)=some t from h);subst h;refine UP fun u hu=>?_;rcases Ay.1 hu with rfl | hu
     .exact hp
     .rw[Aj.1 hu];unfold KY;refine Bg _ (Bn _ (Ak.2 ⟨q,?_,rfl⟩));exact DQ.2 ⟨r.reqs,Ak.2 ⟨r,BP e,rfl⟩,nz e2⟩
  .cases h
 split at h
 .split at h
  .have h:=n0 h;subst h;refine UP fun u hu=>?_;rw[Aj.1 hu];exact hp
  .cases h
 split at h
 .split at h
  .cases e:J5 d i.left with
   |none=>rw[e]at h;cases h
   |some a=>
    cases e2:J5 d i.right with
    |none=>rw[e,e2]at h;cases h
    |some b=>
     rw[e,e2]at h;have h:(if(BK a b i.path).2=0 then some (BK a b i.path).1 else none)=some t:=h;split at h
     .cases h;exact Su (hd a (nz e)) (hd b (nz e2))
     .cases h
  .cases h
 .cases h
structure Cd where
 place:Int
 rel:Rl
structure Nd where
 rq:Rq
 path:ByteArray
 place:Int
 number:Int
variable (n:Nd)
structure SS where
 infs:List Nf
 drv:List (List Tm)
 full:Bool
variable {s':SS}(s:SS)
abbrev QY(c:Cd):Sl:=⟨c.rel.path,c.rel.ver⟩
abbrev AG(l:List Cd):List Sl:=l.map QY
def Bo:List Cd:=(x.filter fun r=>decide (r.path=p)&&!r.yanked).map fun r=>⟨plc r.ver,r⟩
def Nc(f:Rq->Nat->Nd):Nat->List Rq->List Nd
 |_,[]=>[]
 |i,q::l=>f q i::Nc f (i+1) l
def bv:List Nd:=Nc (fun q i=>⟨q,mt,0,i⟩) 0 roots
def Rn(c:Cd):List Nd:=Nc (fun q i=>⟨q,c.rel.path,c.place,i⟩) 0 c.rel.reqs
def Dh(dec:List Cd):List Nd:=bv roots++(dec.map Rn).flatten
def Da(dec:List Cd)(p:ByteArray):Bool:=dec.any fun c=>decide (c.rel.path=p)
def Ey(dec:List Cd)(a:ByteArray×List Nd)(n:Nd):ByteArray×List Nd:=
 if Da dec n.rq.path=true\/(a.2≠[]/\FQ a.1 n.rq.path=true)then a
 else if a.2≠[]/\FQ n.rq.path a.1=true then(n.rq.path,[n])else(n.rq.path,a.2++[n])
def D6(dec:List Cd):ByteArray×List Nd:=(Dh roots dec).foldl (Ey dec) (mt,[])
def fc(l:List Cd)(n:Nd):Bool:=l.any fun d=>decide (d.rel.path=n.rq.path)&&!has n.rq.set d.place
def DI(dec:List Cd)(c:Cd):Option Nd:=(Rn c).find? (fc (dec++[c]))
def Pq(s:List Sl):Nat->List (List Tm)->Option Nat
 |_,[]=>none
 |i,t::l=>if CY t s then some i else Pq s (i+1) l
def Ov(d:List (List Tm))(s:List Sl):Option Nat:=Pq s 0 d
def DZ(l:List Tm)(p:ByteArray):Bool:=l.any fun t=>decide (t.path=p)
instance:DecidableEq Nf:=fun a b=>by
 obtain⟨a1,a2,a3,a4,a5,a6⟩:=a;obtain⟨b1,b2,b3,b4,b5,b6⟩:=b;exact decidable_of_iff (a1=b1/\a2=b2/\a3=b3/\a4=b4/\a5=b5/\a6=b6) ⟨fun⟨h1,h2,h3,h4,h5,h6⟩=>by subst h1 h2 h3 h4 h5 h6;rfl,fun h=>by cases h;exact⟨rfl,rfl,rfl,rfl,rfl,rfl⟩⟩
def MI(i:Nf):Nat->List Nf->Option Nat
 |_,[]=>none
 |k,j::l=>if j=i then some k else MI i (k+1) l
def Eg(i:Nf)(l:List Tm):Nat×SS:=
 match MI i 0 s.infs with
 |some k=>(k,s)
 |none=>if 65536<=s.infs.length then(s.infs.length-1,⟨s.infs,s.drv,true⟩)else(s.infs.length,⟨s.infs++[i],s.drv++[l],s.full⟩)
def NT:Nf:=if n.path=mt then⟨0,mt,0,n.number,0,0⟩else⟨1,n.path,n.place,n.number,0,0⟩
def H9:List Tm:=if n.path=mt then J9 n.rq else EA n.path n.place n.rq
def BD(n:Nd):Nat×SS:=Eg s (NT n) (H9 n)
abbrev Eo(k:Nat):List Tm:=s.drv.getD k []
def Cj(p:ByteArray):List Nat->Nat->SS->Nat×SS
 | [],k,s=>(k,s)
 |r::l,k,s=>
  if s.full=true\/DZ (Eo s k) p=false then(k,s)
  else if r=k then Cj p l k s
  else if(BK (Eo s k) (Eo s r) p).2≠0 then Cj p l k s
  else Cj p l (Eg s ⟨3,p,0,0,k,r⟩ (BK (Eo s k) (Eo s r) p).1).1 (Eg s ⟨3,p,0,0,k,r⟩ (BK (Eo s k) (Eo s r) p).1).2
def Ej:Nat×SS:=Eg s ⟨2,p,0,0,0,0⟩ (If p (B8 x p))
def DT(reasons:List Nat)(s:SS):Nat×SS:=
 Cj p ((Ej x p (BD s n).2).1::reasons) (BD s n).1 (Ej x p (BD s n).2).2
structure Kg where
 res:Nat
 found:Bool
 ss:SS
 dec:List Cd
 stack:List (List Sk)
def D3(rec:List Cd->SS->List (List Sk)->Kg)(x:List Rl)(p:ByteArray)(needs:List Nd)(n0:Nd)(dec:List Cd)(stack:List (List Sk)):List Cd->SS->List Nat->List Sk->Kg
 | [],s,reasons,_=>⟨(DT x p n0 reasons s).1,false,(DT x p n0 reasons s).2,dec,stack⟩
 |c::cs,s,reasons,skips=>
  let after (k:Nat) (s:SS):Kg:=if DZ (Eo s k) p=false then⟨k,false,s,dec,stack⟩else D3 rec x p needs n0 dec stack cs s (reasons++[k]) (skips++[⟨p,c.place,k⟩])
  if s.full=true then⟨0,false,s,dec,stack⟩
  else match needs.find? fun n=>!has n.rq.set c.place with
   |some n=>D3 rec x p needs n0 dec stack cs (BD s n).2 (reasons++[(BD s n).1]) skips
   |none=>match Ov s.drv (AG (dec++[c]))with
    |some k=>after k s
    |none=>match DI dec c with
     |some n=>after (BD s n).1 (BD s n).2
     |none=>
      let o:=rec (dec++[c]) s (stack++[skips])
      if o.found=true then⟨0,true,o.ss,o.dec,o.stack⟩
      else if o.ss.full=true then⟨0,false,o.ss,dec,stack⟩
      else after o.res o.ss
def C3(x:List Rl)(roots:List Rq):Nat->List Cd->SS->List (List Sk)->Kg
 |0,dec,s,stack=>⟨0,false,s,dec,stack⟩
 |n+1,dec,s,stack=>match(D6 roots dec).2 with
  | []=>⟨0,true,s,dec,stack⟩
  |n0::l=>D3 (C3 x roots n) x (D6 roots dec).1 (n0::l) n0 dec stack (Bo x (D6 roots dec).1) s [] []
abbrev Kl:SS:=⟨[],[],false⟩
def FI(dec:List Cd):Nat:=(x.filter fun r=>!r.yanked&&!Da dec r.path).length
def E6:Kg:=C3 x roots (x.length+1) [] Kl []
theorem PU(f:Rq->Nat->Nd):∀(l:List Rq) (i k:Nat),(Nc f i l)[k]?=(l[k]?).map fun q=>f q (i+k)
 | [],i,k=>by simp[Nc]
 |q::l,i,0=>by simp[Nc]
 |q::l,i,k+1=>by
  have h:=PU f l (i+1) k;simp only[Nc,EH,h];rw[show i+1+k=i+(k+1) by omega]
theorem LC(f:Rq->Nat->Nd):∀(l:List Rq) (i:Nat),(Nc f i l).length=l.length
 | [],_=>rfl
 |_::l,i=>by simp[Nc,LC f l (i+1)]
theorem aX{f:Rq->Nat->Nd}{l:List Rq}{n:Nd}(h:n∈Nc f 0 l):∃k q,l[k]?=some q/\n=f q k:=by
 obtain⟨k,hk⟩:=Cg.1 h;rw[PU,AD]at hk;obtain⟨q,h1,h2⟩:=hk;exact⟨k,q,h1,by rw[<-h2,A7]⟩
theorem Tg{f:Rq->Nat->Nd}(hf:∀q i,(f q i).rq=q):∀(l:List Rq) (i:Nat),(Nc f i l).map (·.rq)=l
 | [],_=>rfl
 |q::l,i=>by simp[Nc,hf,Tg hf l (i+1)]
abbrev Hr(dec:List Cd):List Rq:=roots++(dec.map fun c=>c.rel.reqs).flatten
theorem Ly(dec:List Cd):(Dh roots dec).map (·.rq)=Hr roots dec:=by
 unfold Dh bv;rw[Az,Tg (fun _ _=>rfl),Tr,Bw]
 congr 2
 exact Ba fun c _=>Tg (fun _ _=>rfl) _ _
theorem Gi(dec:List Cd)(p:ByteArray):CO (AG dec) p=Da dec p:=by
 unfold CO Da AG;rw[List.any_map];rfl
theorem J3(before:List Sl):∀{l:List Rq} {a p:ByteArray},Dz before l (some a)=some p->p=a\/FQ p a=true
 | [],a,p,h=>by cases h;exact .inl rfl
 |q::l,a,p,h=>by
  unfold Dz at h;split at h
  .exact J3 before h
  .dsimp only at h;split at h
   .rename_i hb;rcases J3 before h with e | e
    .exact .inr (by rw[e];exact hb)
    .exact .inr (Fe e hb)
   .exact J3 before h
theorem I6(before:List Sl):∀{l:List Rq} {a:ByteArray},Dz before l (some a)≠none
 | [],a=>by simp[Dz]
 |q::l,a=>by
  unfold Dz;split
  .exact I6 before
  .dsimp only;split<;>exact I6 before
theorem Pv{n:Nd}{p:ByteArray}(e:n.rq.path≠p)(L:List Nd):((n::L).filter fun n=>decide (n.rq.path=p))=L.filter fun n=>decide (n.rq.path=p):=by rw[DB,Ah (by simpa using e)]
theorem Yc{n:Nd}{p:ByteArray}(e:n.rq.path=p)(L:List Nd):((n::L).filter fun n=>decide (n.rq.path=p))=n::L.filter fun n=>decide (n.rq.path=p):=by rw[DB,As (by simpa using e)]
theorem NH(dec:List Cd):∀(L:List Nd) (a:ByteArray×List Nd),(a.2≠[]->Da dec a.1=false) ->
  L.foldl (Ey dec) a=match Dz (AG dec) (L.map (·.rq)) (if a.2=[]then none else some a.1)with
   |none=>a
   |some p=>(p,(if a.2≠[]/\a.1=p then a.2 else [])++L.filter fun n=>decide (n.rq.path=p))
 | [],a,h=>by
  obtain⟨p,o⟩:=a;cases o with
  |nil=>simp[Dz]
  |cons n o=>simp[Dz]
 |n::L,a,h=>by
  obtain⟨p0,o⟩:=a;rw[FK,AK];have yo:∀(acc:Option ByteArray) (l:List Rq),(∀p,acc=some p->Da dec p=false)->∀p,Dz (AG dec) l acc=some p->Da dec p=false:=fun acc l ha p hp=>by
   have:=((KC (AG dec) (l:=l) (acc:=acc) (fun p e=>by rw[Gi];exact ha p e)).1 p hp).1
   rw[Gi]at this;exact this
  cases hd:Da dec n.rq.path with
  |true=>
   have e1:Ey dec (p0,o) n=(p0,o):=by unfold Ey;rw[As (.inl hd)]
   have e2:Dz (AG dec) (n.rq::L.map (·.rq)) (if o=[]then none else some p0)=Dz (AG dec) (L.map (·.rq)) (if o=[]then none else some p0):=by
    conv=>lhs;unfold Dz
    rw[As (by rw[Gi];exact hd)]
   rw[e1,e2,NH dec L (p0,o) h];dsimp only;cases hg:Dz (AG dec) (L.map (·.rq)) (if o=[]then none else some p0)with
   |none=>rfl
   |some p=>
    dsimp only;have hp:=yo _ _ (fun q e=>by
     split at e
     .cases e
     .rename_i ho;cases e;exact h ho) p hg
    have Dv:n.rq.path≠p:=fun e=>by rw[e,hp]at hd;cases hd
    rw[Pv Dv]
  |false=>
   have PI:CO (AG dec) n.rq.path=false:=by rw[Gi];exact hd
   by_cases ho:o=[]
   .subst ho;have e1:Ey dec (p0,[]) n=(n.rq.path,[n]):=by
     unfold Ey;rw[Ah (by simp[hd]),Ah B0];rfl
    have e2:Dz (AG dec) (n.rq::L.map (·.rq)) none=Dz (AG dec) (L.map (·.rq)) (some n.rq.path):=by
     conv=>lhs;unfold Dz
     rw[Ah (by rw[PI];decide)]
    rw[e1,NH dec L (n.rq.path,[n]) (fun _=>hd),As rfl,e2];rw[Ah B0];cases hg:Dz (AG dec) (L.map (·.rq)) (some n.rq.path)with
    |none=>exact absurd hg (I6 _)
    |some p=>
     dsimp only;rw[Ah (show ¬(([]:List Nd)≠[]/\p0=p)from fun h=>h.1 rfl)]
     by_cases e:n.rq.path=p
     .rw[Yc e,As ⟨by simp,e⟩];rfl
     .rw[Pv e,Ah (fun h=>e h.2)]
   .have hif:(if o=[]then none else some p0)=some p0:=Ah ho;rw[hif];cases hb:FQ p0 n.rq.path with
    |true=>
     have e1:Ey dec (p0,o) n=(p0,o):=by unfold Ey;rw[As (.inr ⟨ho,hb⟩)]
     have RZ:FQ n.rq.path p0=false:=Qy hb;have e2:Dz (AG dec) (n.rq::L.map (·.rq)) (some p0)=Dz (AG dec) (L.map (·.rq)) (some p0):=by
      conv=>lhs;unfold Dz
      rw[Ah (by rw[PI];decide)];dsimp only;rw[Ah (by rw[RZ];decide)]
     rw[e1,e2,NH dec L (p0,o) h];dsimp only;rw[hif];cases hg:Dz (AG dec) (L.map (·.rq)) (some p0)with
     |none=>rfl
     |some p=>
      dsimp only;have Dv:n.rq.path≠p:=fun e=>by
       rcases J3 _ hg with e3 | e3
       .rw[e,e3,Dn]at hb;cases hb
       .rw[e,Qy e3]at hb;cases hb
      rw[Pv Dv]
    |false=>
     cases RZ:FQ n.rq.path p0 with
     |true=>
      have e1:Ey dec (p0,o) n=(n.rq.path,[n]):=by
       unfold Ey;rw[Ah (by simp[hd,hb]),As ⟨ho,RZ⟩]
      have e2:Dz (AG dec) (n.rq::L.map (·.rq)) (some p0)=Dz (AG dec) (L.map (·.rq)) (some n.rq.path):=by
       conv=>lhs;unfold Dz
       rw[Ah (by rw[PI];decide)];dsimp only;rw[As RZ]
      rw[e1,e2,NH dec L (n.rq.path,[n]) (fun _=>hd),Ah B0];cases hg:Dz (AG dec) (L.map (·.rq)) (some n.rq.path)with
      |none=>exact absurd hg (I6 _)
      |some p=>
       dsimp only;have Dv:p0≠p:=fun e=>by
        rcases J3 _ hg with e3 | e3
        .rw[e,e3,Dn]at RZ;cases RZ
        .rw[e]at RZ;rw[Qy e3]at RZ;cases RZ
       rw[Ah (show ¬(o≠[]/\p0=p)from fun h=>Dv h.2)]
       by_cases e:n.rq.path=p
       .rw[Yc e,As ⟨by simp,e⟩];rfl
       .rw[Pv e,Ah (fun h=>e h.2)]
     |false=>
      have e0:n.rq.path=p0:=Kp RZ hb;have e1:Ey dec (p0,o) n=(p0,o++[n]):=by
       unfold Ey;rw[Ah (by simp[hd,hb]),Ah (by simp[RZ]),e0]
      have e2:Dz (AG dec) (n.rq::L.map (·.rq)) (some p0)=Dz (AG dec) (L.map (·.rq)) (some p0):=by
       conv=>lhs;unfold Dz
       rw[Ah (by rw[PI];decide)];dsimp only;rw[Ah (by rw[RZ];decide)]
      rw[e1,e2,NH dec L (p0,o++[n]) (fun _=>by rw[<-e0];exact hd),Ah B0];cases hg:Dz (AG dec) (L.map (·.rq)) (some p0)with
      |none=>exact absurd hg (I6 _)
      |some p=>
       dsimp only
       by_cases e:p0=p
       .rw[Yc (e0.trans e),As ⟨by simp,e⟩,As ⟨ho,e⟩,Bm];rfl
       .rw[Pv (fun h=>e (e0.symm.trans h)),Ah (fun h=>e h.2),Ah (fun h=>e h.2)]
theorem UJ(dec:List Cd):D6 roots dec=match Lz (Hr roots dec) (AG dec)with
  |none=>(mt,[])
  |some p=>(p,(Dh roots dec).filter fun n=>decide (n.rq.path=p)):=by
 unfold D6 Lz;rw[NH dec _ (mt,[]) (fun h=>absurd rfl h),As rfl,Ly];cases Dz (AG dec) (Hr roots dec) none with
 |none=>rfl
 |some p=>dsimp only;rw[Ah B0];rfl
theorem UK{roots:List Rq}{dec:List Cd}:(D6 roots dec).2=[]↔Lz (Hr roots dec) (AG dec)=none:=by
 rw[UJ];cases h:Lz (Hr roots dec) (AG dec)with
 |none=>simp
 |some p=>
  simp only[reduceCtorEq,iff_false];obtain⟨_,q,hq,e⟩:=UL h;rw[<-Ly]at hq;obtain⟨n,hn,rfl⟩:=Ak.1 hq;exact List.ne_nil_of_mem (BG.2 ⟨hn,by simpa using e⟩)
structure vt(roots:List Rq)(dec:List Cd)(p:ByteArray)(l:List Nd):Prop where
 next:Lz (Hr roots dec) (AG dec)=some p
 undone:Da dec p=false
 mem:∀n,n∈l↔n∈Dh roots dec/\n.rq.path=p
theorem J4{roots:List Rq}{dec:List Cd}{n0:Nd}{l:List Nd}(h:(D6 roots dec).2=n0::l):vt roots dec (D6 roots dec).1 (n0::l):=by
 rw[<-h];rw[UJ]at *
 cases hp:Lz (Hr roots dec) (AG dec)with
 |none=>rw[hp]at h;cases h
 |some p=>
  dsimp only;refine⟨hp,by rw[<-Gi];exact(UL hp).1,fun n=>?_⟩;rw[BG];simp
theorem LW{x:List Rl}{p:ByteArray}{c:Cd}:c∈Bo x p↔∃r∈x,r.path=p/\r.yanked=false/\c=⟨plc r.ver,r⟩:=by
 unfold Bo;simp only[Ak,BG,Af,Au,Co];constructor
 .rintro⟨r,⟨h1,h2,h3⟩,rfl⟩;exact⟨r,h1,h2,h3,rfl⟩
 .rintro⟨r,h1,h2,h3,rfl⟩;exact⟨r,⟨h1,h2,h3⟩,rfl⟩
theorem NN{i:Nf}:∀{l:List Nf} {k m:Nat},MI i k l=some m->∃j,m=k+j/\l[j]?=some i
 | [],_,_,h=>by cases h
 |y::l,k,m,h=>by
  unfold MI at h;split at h
  .rename_i e;cases h;exact⟨0,rfl,by rw[<-e];rfl⟩
  .obtain⟨j,h1,h2⟩:=NN h;exact⟨j+1,by omega,h2⟩
theorem Rk{i:Nf}:∀{l:List Nf} {k:Nat},MI i k l=none->i∉l
 | [],_,_=>by simp
 |y::l,k,h=>by
  unfold MI at h;split at h
  .cases h
  .rename_i e
   have:=Rk h
   simp only[Ay,not_or];exact⟨fun e'=>e e'.symm,this⟩
theorem Sp{α:Type}{d d' : List α}{i:Int}{a:α}(h:J5 d i=some a)(hp:d <+: d'):J5 d' i=some a:=by
 unfold J5 at *
 split at h
 .cases h
 .rename_i hi;rw[Ah hi];obtain⟨t,rfl⟩:=hp;rw[AU (Ar.1 h).1];exact h
theorem ay{x:List Rl}{roots:List Rq}{d':List (List Tm)}{i:Nf}{o:List Tm}(h:D4 x roots d i=some o)(hp:d <+: d'):D4 x roots d' i=some o:=by
 unfold D4 at *
 split
 .rename_i e;rw[As e]at h;exact h
 rename_i e0;rw[Ah e0]at h;split
 .rename_i e;rw[As e]at h;exact h
 rename_i e1;rw[Ah e1]at h;split
 .rename_i e;rw[As e]at h;exact h
 rename_i e2;rw[Ah e2]at h;split
 .rename_i e;rw[As e]at h;split
  .rename_i e4;rw[As e4]at h;cases ha:J5 d i.left with
   |none=>rw[ha]at h;cases h
   |some a=>
    cases hb:J5 d i.right with
    |none=>rw[ha,hb]at h;cases h
    |some b=>
     rw[ha,hb]at h;rw[Sp ha hp,Sp hb hp];exact h
  .rename_i e4;rw[Ah e4]at h;cases h
 .rename_i e;rw[Ah e]at h;cases h
structure FG(x:List Rl)(roots:List Rq)(s:SS):Prop where
 der:Dj x roots s.infs []=some s.drv
 len:s.infs.length<=65536
theorem FG.dlen{x:List Rl}{roots:List Rq}{s:SS}(h:FG x roots s):s.drv.length=s.infs.length:=by simpa using JB h.der
theorem FG.nil:FG x roots Kl:=⟨rfl,by simp⟩
theorem FG.at{x:List Rl}{roots:List Rq}{s:SS}(h:FG x roots s){k:Nat}{i:Nf}(hk:s.infs[k]?=some i):D4 x roots s.drv i=some (s.drv.getD k []):=by
 have h1:=N2 h.der (k+1);have h0:=N2 h.der k;have Dx:=(Ar.1 hk).1;rw[AZ,hk,Hv,h0]at h1;have h1:Dj x roots [i] (s.drv.take k)=some (s.drv.take (k+1)):=h1;unfold Dj at h1;cases hi:D4 x roots (s.drv.take k) i with
 |none=>rw[hi]at h1;cases h1
 |some t=>
  rw[hi]at h1;have h1:some (s.drv.take k++[t])=some (s.drv.take (k+1)):=h1;have hd:k<s.drv.length:=by rw[h.dlen];exact Dx
  have:t=s.drv[k]:=by
   have h2:=BW h1;rw[K9 hd]at h2;exact List.singleton_inj.1 (List.append_cancel_left h2)
  rw[ay hi (List.take_prefix ..),this];simp[List.getD_eq_getElem?_getD,hd]
structure Grow(s s' : SS):Prop where
 pre:s.drv <+: s'.drv
 preI:s.infs <+: s'.infs
 full:s.full=true->s'.full=true
theorem Grow.refl:Grow s s:=⟨NR,NR,id⟩
theorem Grow.trans{a b c:SS}(h:Grow a b)(k:Grow b c):Grow a c:=⟨h.pre.trans k.pre,h.preI.trans k.preI,fun e=>k.full (h.full e)⟩
theorem Grow.at{s:SS}(h:Grow s s')(hk:k<s.drv.length):Eo s' k=Eo s k:=by
 obtain⟨t,e⟩:=h.pre;unfold Eo;rw[<-e,BU,BU,AU hk]
theorem Grow.len{s:SS}(h:Grow s s'):s.drv.length<=s'.drv.length:=h.pre.length_le
theorem Li(i:Nf)(l:List Tm):Grow s (Eg s i l).2:=by
 unfold Eg;split
 .exact .refl s
 .split
  .exact⟨NR,NR,fun _=>rfl⟩
  .exact⟨Kf ..,Kf ..,id⟩
theorem Lh{x:List Rl}{roots:List Rq}{s:SS}(h:FG x roots s){i:Nf}(hi:D4 x roots s.drv i=some l) :
  FG x roots (Eg s i l).2/\(Eg s i l).1<(Eg s i l).2.drv.length/\((Eg s i l).2.full=false->Eo (Eg s i l).2 (Eg s i l).1=l):=by
 have hdl:=h.dlen;unfold Eg;split
 .rename_i k hk;obtain⟨j,e,hj⟩:=NN hk
  have:k=j:=by omega
  subst this;have Dx:=(Ar.1 hj).1;refine⟨h,by show k<s.drv.length;omega,fun _=>?_⟩
  have:=h.at hj
  rw[hi]at this;exact(BW this).symm
 .rename_i hk;split
  .rename_i hf;exact⟨⟨h.der,h.len⟩,by show s.infs.length-1<s.drv.length;omega,fun e=>by cases e⟩
  .rename_i hf;refine⟨⟨?_,by show(s.infs++[i]).length<=65536;rw[Ac];simp;omega⟩,by show s.infs.length<(s.drv++[l]).length;rw[Ac];simp;omega,fun _=>?_⟩
   .show Dj x roots (s.infs++[i]) []=some (s.drv++[l]);rw[Hv,h.der];show Dj x roots [i] s.drv=_;unfold Dj;rw[hi];rfl
   .show(s.drv++[l]).getD s.infs.length []=l;rw[<-hdl];simp[List.getD_eq_getElem?_getD]
theorem bP(i:Nf)(l:List Tm):(Eg s i l).2.infs.length<=s.infs.length+1:=by
 unfold Eg;split
 .simp
 .split<;>simp
theorem Zd{s:SS}(i:Nf)(l:List Tm)(hf:s.full=false)(hc:s.infs.length<65536):(Eg s i l).2.full=false:=by
 unfold Eg;split
 .exact hf
 .split
  .omega
  .exact hf
theorem TW(S:List Sl):∀{l:List (List Tm)} {i k:Nat},Pq S i l=some k->∃j,k=i+j/\∃t,l[j]?=some t/\CY t S=true
 | [],_,_,h=>by cases h
 |t::l,i,k,h=>by
  unfold Pq at h;split at h
  .rename_i e;cases h;exact⟨0,rfl,t,rfl,e⟩
  .obtain⟨j,h1,t',h2,h3⟩:=TW S h;exact⟨j+1,by omega,t',h2,h3⟩
theorem Lq{S:List Sl}(h:Ov d S=some k):k<d.length/\CY (d.getD k []) S=true:=by
 obtain⟨j,h1,t,h2,h3⟩:=TW S h
 have:k=j:=by omega
 subst this;refine⟨(Ar.1 h2).1,?_⟩;rw[BU,h2];exact h3
end Go.Eng
