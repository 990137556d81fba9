/- Lemmas 2. -/
import Derived.Test.YtkjhcikodmiceaaGreatDoorMA01
import Derived.Lib.SplitLaws
import Derived.Lib.IndexBytes
namespace Go.Eng
variable {d:List (List Tm)}{x:List Rl}{roots:List Rq}{B:List Int}{o s:List Tm}(m:List (Int×Int))(S:AN)(l:List Tm)(r:AN)(i:Nat)(k:Int)(t:Tm)(v j:Int)
-- right answers
theorem Xc{x:List Rl}{d:List (List Tm)}:∀{vs:List WH} {a:Bool×List Sk},(vs.foldl (Cf x d) a).1=true->a.1=true/\∀v∈vs,(∃k k',DM d v x k=(k',true))/\v.rel.yanked=false
 | [],a,h=>⟨h,fun _ h=>by cases h⟩
 |v::vs,a,h=>by
  rw[FJ]at h;obtain⟨i1,i2⟩:=Xc h<;>grind [Cf]
structure yK(x:List Rl)(roots:List Rq)(a:An)(l:List Rl):Prop where
 d0:(A5 x roots a.infs).2=0
 sol0:KY x roots a.sel l
 sol:lS x roots a.sel
 skip:∀v∈(visits x roots a.sel).1,∃k k',DM (A5 x roots a.infs).1 v x k=(k',true)
theorem WZ{a:An}(h:Di x roots a=0) :
  (A5 x roots a.infs).2=0/\((a.found=false/\a.sel=[]/\a.skips=[]/\EN (A5 x roots a.infs).1=true) \/
   (a.found=true/\(∃l,yK x roots a l)/\Do x roots a.sel=0/\(visits x roots a.sel).1.foldl (Cf x (A5 x roots a.infs).1) (true,a.skips)=(true,[]))):=by
 unfold Di at h;split at h
 .omega
 .rename_i h1;have h1:=BV.1 h1;refine⟨h1,?_⟩;split at h
  .simp_all
  .rename_i h2;have h2:a.found=true:=aa0
   split at h
   .cases h
   .rename_i h3;have h3:=BV.1 h3;split at h
    .rename_i h4;simp only[Aq,Jh]at h4;obtain⟨l,hl⟩:=VW h3;have hf:=Xc h4.1;refine .inr ⟨h2,⟨l,h1,hl,hl.sol fun y hy r hr=>?_,fun v hv=>(hf.2 v hv).1⟩,h3,Prod.ext h4.1 h4.2⟩
     grind [IS,KY.all,qN.mem,KY.visits]
    omega
-- the first decision that differs
-- prefixes
theorem Il{x:List Rl}{roots:List Rq}:∀{l:List Nf} {d d' : List (List Tm)},BI x roots l d=some d'->d'.length=d.length+l.length
 | [],d,d',h=>by cases h;rfl
 |i::l,d,d',h=>by
  unfold BI at h;split at h
  .cases h
  .have:=Il h
   grind
theorem Ft{x:List Rl}{roots:List Rq}:∀(l m:List Nf) (d:List (List Tm)),BI x roots (l++m) d=match BI x roots l d with | none=>none | some d'=>BI x roots m d'
 | [],_,_=>rfl
 |i::l,m,d=>by
  show(match AR x roots d i with | none=>none | some t=>BI x roots (l++m) (d++[t]))=(match(match AR x roots d i with | none=>none | some t=>BI x roots l (d++[t]))with | none=>none | some d'=>BI x roots m d');cases AR x roots d i with
  |none=>rfl
  |some t=>exact Ft l m _
theorem Mg{x:List Rl}{roots:List Rq}:∀{l:List Nf} {d d' : List (List Tm)},BI x roots l d=some d'->d <+: d'
 | [],d,d',h=>by cases h<;>simp_all
 |i::l,d,d',h=>by
  unfold BI at h;split at h
  .cases h
  .exact(List.prefix_append _ _).trans (Mg h)
theorem KN{l:List Nf}(h:BI x roots l []=some d)(k:Nat):BI x roots (l.take k) []=some (d.take k):=by
 rw[<-List.take_append_drop k l,Ft]at h;cases e:BI x roots (l.take k) []with
 |none=>simp_all
 |some f=>
  rw[e]at h;dsimp only at h;have h1:=Il e;have h2:=Il h;have h3:=Mg h
  congr 1
  simp only[If,BX,TT]at h1 h2;obtain⟨z,rfl⟩:=h3
  by_cases hk:k<=l.length
  .simp_all
  .rw[AD]at h2
   have:z=[]:=Az Wk
   grind [List.take_of_length_le]
def Form:Prop:=Bj l=some l
theorem lp{l:List Tm}:∀(l2:List Tm),BL none (l2++l)->l.foldl (fun acc t=>HJ t acc) l2=l2++l:=by
 induction l with
 |nil=>simp_all
 |cons t r ih=>
  intro l2 h;have hi:HJ t l2=l2++[t]:=by
   have:∀(m:List Tm) (lo:Option ByteArray),BL lo (m++t::r)->HJ t m=m++[t]:=by
    intro m
    induction m with
    |nil=>
     intro lo hm;have hc:ED t.set:=hm.2.1;unfold HJ;rw[show Dp t=t from xO rfl rfl (J4 hc)];rfl
    |cons u m ihm=>
     grind [BL,BL.low,HJ]
   grind
  simp_all
theorem RD{l:List Tm}(h:BL none l):Ds l=l:=by
 grind [lp,Ds]
theorem Sp{l c:List Tm}(h:Bj l=some c):Form c:=by
 grind [E7,Form,Bj,RD,List.filter_filter]
theorem UE:Form []:=rfl
theorem M8:Form (H l):=by
 grind [H,Bj,UE,Sp]
theorem Ow(a b:List Tm)(p:ByteArray):Form (AU a b p).1:=by
 grind [AU,Sp,UE]
theorem bV{l:List Tm}(h:Ph l=some o):o=l:=by grind [Ph]
theorem bu{i:Nf}(h:AR x roots d i=some o):Form o:=by
 unfold AR at h;split at h
 .split at h
  .rw[B6]at h;obtain⟨q,_,rfl⟩:=h;exact M8 _
  simp_all
 .split at h
  .split at h
   .split at h
    .cases h
    .split at h
     .cases h
     .rw[bV h];exact M8 _
   simp_all
  .split at h
   .split at h
    .rw[bV h];exact M8 _
    simp_all
   grind [Ow]
theorem Of{x:List Rl}{roots:List Rq}:∀{l:List Nf} {d d' : List (List Tm)},(∀t∈d,Form t)->BI x roots l d=some d'->∀t∈d',Form t
 | [],d,d',hd,h=>by cases h;exact hd
 |i::l,d,d',hd,h=>by
  unfold BI at h;split at h
  .cases h
  .rename_i o ho;refine Of (fun t ht=>?_) h
   grind [bu]
theorem J5{l:List Nf}(h:(A5 x roots l).2=0):Aw x=0/\AK roots=0/\l.length<=65536/\BI x roots l []=some (A5 x roots l).1:=by
 grind [A5]
theorem Uk{l:List Nf}(h1:Aw x=0)(h2:AK roots=0)(h3:l.length<=65536)(h:BI x roots l []=some d):A5 x roots l=(d,0):=by
 grind [A5]
-- tampering
def D8(l:AN):AN:=(l.map Hm).filter fun x=>decide (x.1<x.2)
theorem W0{l:AN}{x:Int×Int}(h:x∈D8 l):0<=x.1/\x.1<x.2/\x.2<=1000000:=by
 grind [D8,Hm]
theorem jz(l:AN)(p:Int):(D8 l).any (BM p)=has l p:=by
 rw[<-K4]
 induction l<;>grind [D8,canon,PF,BE]
theorem OJ:∀{l:AN} {lo:Int},EU lo l↔(∀y∈l,lo<=y.1/\y.1<y.2/\y.2<=1000000)/\l.Pairwise fun a b=>a.2<b.1
 | [],lo=>by simp[EU]
 |y::r,lo=>by
  rw[EF];constructor
  .intro h;have hl:=h.low;refine⟨hl,fun z hz=>?_,((OJ (l:=r)).1 h.2.2.2).2⟩
   have:=h.2.2.2.low z hz;omega
  .intro⟨h1,h2,h3⟩;have hy:=h1 y (Ah ..);refine⟨hy.1,hy.2.1,hy.2.2,OJ.2 ⟨fun z hz=>?_,h3⟩⟩
   grind
def Ki(x:Int×Int):AN:=match r with
 | []=>[x]
 |y::t=>if x.1<=y.2 then(y.1,max y.2 x.2)::t else x::y::t
def BD(s:AN):AN:=s.foldl Ki []
theorem FB(s:AN)(i:Nat)(h:i<s.length):BD (s.take (i+1))=Ki (BD (s.take i)) s[i]:=by
 grind [BD,List.take_add_one]
theorem lJ(x:Int×Int):(Ki r x).length<=r.length+1/\r.length<=(Ki r x).length/\0<(Ki r x).length:=by
 unfold Ki
 grind
theorem Pf(s:AN):∀i,i<=s.length->(BD (s.take i)).length<=i/\(0<i->0<(BD (s.take i)).length):=by
 intro i
 induction i<;>grind [BD,FB,lJ]
structure ja(r done:AN):Prop where
 ok:∀y∈r,0<=y.1/\y.1<y.2/\y.2<=1000000
 pw:r.Pairwise fun a b=>b.2<a.1
 has:∀p,r.any (BM p)=done.any (BM p)
 first:∀y t,r=y::t->∃x∈done,y.1=x.1
theorem lI{r done:AN}{x:Int×Int}(h:ja r done)(hx:0<=x.1/\x.1<x.2/\x.2<=1000000)(hs:∀y∈done,y.1<=x.1):ja (Ki r x) (done++[x]):=by
 unfold Ki;split
 .refine⟨fun y hy=>?_,by simp,fun p=>?_,fun y t e=>?_⟩
  all_goals grind [ja.has]
 .rename_i y t;have hy:=h.ok y (Ah ..);obtain⟨pw1,pw2⟩:=EF.1 h.pw;obtain⟨z,hz,e⟩:=h.first y t rfl
  have hyx:=hs z hz;split
  .rename_i JP;refine⟨fun u hu=>?_,EF.2 ⟨pw1,pw2⟩,fun p=>?_,fun u t' e'=>?_⟩
   .rcases AM.1 hu with rfl | hu
    .omega
    .exact h.ok u (Aj _ hu)
   .rw[List.any_append,<-h.has,EX,EX,EX,List.any_nil,Bool.or_false]
    grind [BM]
   grind
  .rename_i JP;refine⟨fun u hu=>?_,EF.2 ⟨fun u hu=>?_,h.pw⟩,fun p=>?_,fun u t' e'=>?_⟩
   .rcases AM.1 hu with rfl | hu
    .exact hx
    .exact h.ok u hu
   all_goals grind [ja.has]
theorem fw{s:AN}(GJ:∀y∈s,0<=y.1/\y.1<y.2/\y.2<=1000000)(hs:s.Pairwise fun a b=>a.1<=b.1):∀i,i<=s.length->ja (BD (s.take i)) (s.take i):=by
 intro i
 induction i with
 |zero=>intro _;exact⟨fun _ h=>by grind [BD],by simp[BD],fun p=>by simp[BD],fun y t e=>by grind [BD]⟩
 |succ i ih=>
  grind [FB,List.take_add_one,lI,List.mem_iff_getElem,List.pairwise_iff_getElem]
theorem Mf{l s:AN}(hp:s.Perm (D8 l))(hs:s.Pairwise fun a b=>a.1<=b.1):(BD s).reverse=canon l:=by
 have hi:=fw (s:=s) (fun y hy=>W0 (hp.mem_iff.1 hy)) hs s.length (Ao _);rw[Hu]at hi;have hc:ED (BD s).reverse:=by
  unfold ED;rw[OJ];refine⟨fun y hy=>hi.ok y (List.mem_reverse.1 hy),?_⟩
  grind [ja.pw]
 refine Ua hc fun p=>?_;rw[Iq hc,List.any_reverse,hi.has,<-jz]
 grind
-- maps from numbers to numbers,as lists in the order in which they are met
def FN:Int:=match m.find? (fun p=>decide (p.1=k))with | some p=>p.2 | none=>0
def L5:List (Int×Int):=if m.any (fun p=>decide (p.1=k))then m.map (fun p=>if p.1=k then(k,v)else p)else m++[(k,v)]
theorem N2(p:Int×Int)(m:List (Int×Int))(k:Int):FN (p::m) k=if p.1=k then p.2 else FN m k:=by
 grind [FN]
theorem Q0:FN (L5 m k v) j=if j=k then v else FN m j:=by
 unfold L5;split
 .rename_i h
  induction m with
  |nil=>simp_all
  |cons p m ih=>
   rw[Bo,N2,N2]
   by_cases e:p.1=k
   .rw[A1 e];dsimp only
    by_cases ej:j=k
    .omega
    .rw[AL (fun c=>ej c.symm),AL ej,AL (fun c=>ej (c.symm.trans e))]
     by_cases hm:(m.any fun p=>decide (p.1=k))=true
     .simp_all
     .have:∀q∈m,q.1≠k:=fun q hq e=>hm (Bs.2 ⟨q,hq,by simp[e]⟩)
      have:m.map (fun p=>if p.1=k then(k,v)else p)=m:=by
       conv=>rhs;rw[<-Ks m]
       grind [List.map_congr_left]
      simp_all
   grind
 .rename_i h;have hn:∀q∈m,q.1≠k:=fun q hq e=>h (Bs.2 ⟨q,hq,by simp[e]⟩)
  induction m<;>grind [N2]
def Fr:List Int:=m.map (·.1)
theorem Xt:Fr (L5 m k v)=if k∈Fr m then Fr m else Fr m++[k]:=by
 grind [L5,Fr,List.map_congr_left]
theorem M0{m:List (Int×Int)}(h:(Fr m).Nodup)(k v:Int):(Fr (L5 m k v)).Nodup:=by
 grind [Xt]
theorem Lb:j∈Fr (L5 m k v)↔j=k\/j∈Fr m:=by
 grind [Xt]
theorem qj{m:List (Int×Int)}(h:(Fr m).Nodup){p:Int×Int}(hp:p∈m):FN m p.1=p.2:=by
 induction m<;>grind [N2,Fr]
theorem qk{m:List (Int×Int)}{k:Int}(h:k∉Fr m):FN m k=0:=by
 unfold FN
 have:m.find? (fun p=>decide (p.1=k))=none:=by
  rw[List.find?_eq_none];intro p hp;simp only[A4];exact fun e=>h (Ar.2 ⟨p,hp,e⟩)
 grind
-- counting
def cF:Nat:=S.countP fun x=>decide (x.1=k)
def cT:Nat:=S.countP fun x=>decide (x.2=k)
def lF:Nat:=S.countP fun x=>decide (x.1<=k)
def lT:Nat:=S.countP fun x=>decide (x.2<=k)
theorem JJ{α:Type}{p q r:α->Bool}:∀{l:List α},(∀x∈l,(p x=true↔q x=true\/r x=true)/\¬(q x=true/\r x=true))->l.countP p=l.countP q+l.countP r
 | [],_=>rfl
 |x::l,h=>by
  have ih:=JJ fun y hy=>h y (Aj _ hy)
  grind
structure Gc(m:List (Int×Int))(S:AN):Prop where
 nd:(Fr m).Nodup
 val:∀k,FN m k=(cF S k:Int)-cT S k
 keys:0∈Fr m/\1000000∈Fr m/\∀x∈S,x.1∈Fr m/\x.2∈Fr m
 rng:∀k∈Fr m,0<=k/\k<=1000000
def zv:List (Int×Int):=[(0,0),(1000000,0)]
theorem rg:Gc zv []:=⟨by decide,fun k=>by
  grind [zv,FN,cF,cT],⟨by decide,by decide,fun _ h=>by cases h⟩,fun k hk=>by
  grind [zv,Fr]⟩
def cL(x:Int×Int):List (Int×Int):=L5 (L5 m x.1 (FN m x.1+1)) x.2 (FN (L5 m x.1 (FN m x.1+1)) x.2-1)
theorem lH{m:List (Int×Int)}{S:AN}{x:Int×Int}(h:Gc m S)(hx:0<=x.1/\x.1<x.2/\x.2<=1000000):Gc (cL m x) (S++[x]):=by
 unfold cL;refine⟨M0 (M0 h.nd _ _) _ _,fun k=>?_,⟨?_,?_,fun y hy=>?_⟩,fun k hk=>?_⟩
 .rw[Q0,Q0,Q0,h.val,h.val,h.val];unfold cF cT;simp only[List.countP_append,List.countP_singleton,A4]
  grind
 .grind [Lb,Gc.keys]
 .grind [Lb,Gc.keys]
 .grind [Lb,Gc.keys]
 .rw[Lb,Lb]at hk;rcases hk with rfl | rfl | hk
  .omega
  .omega
  .exact h.rng k hk
def Jp(B:List Int):Int:=(B.map (FN m)).foldl (·+·) 0
theorem Sc(B:List Int)(i:Nat)(h:i<B.length):Jp m (B.take (i+1))=Jp m (B.take i)+FN m B[i]:=by
 grind [Jp,List.take_add_one]
structure qI(B:List Int)(m:List (Int×Int)):Prop where
 perm:B.Perm (Fr m)
 srt:B.Pairwise fun a b=>a<b
theorem iP{m:List (Int×Int)}{S:AN}(h:Gc m S)(hB:qI B m):∀i (hi:i<B.length),Jp m (B.take (i+1))=(lF S B[i]:Int)-lT S B[i]:=by
 have mem:∀k,k∈Fr m->∃j,∃hj:j<B.length,B[j]=k:=fun k hk=>by
  have:=hB.perm.mem_iff.2 hk
  grind [List.mem_iff_getElem]
 have lt:∀i j (hi:i<B.length) (hj:j<B.length),i<j->B[i]<B[j]:=fun i j hi hj cX=>(Cy.1 hB.srt) i j hi hj cX;intro i
 induction i with
 |zero=>
  intro hi;rw[Sc m B 0 hi,h.val]
  have:Jp m (B.take 0)=0:=by simp[Jp]
  rw[this];have low:∀k∈Fr m,B[0]<=k:=fun k hk=>by
   grind
  have e1:lF S B[0]=cF S B[0]:=by
   grind [lF,cF,List.countP_congr,Gc.keys]
  grind [lT,cT,List.countP_congr,Gc.keys]
 |succ i ih=>
  intro hi;rw[Sc m B (i+1) hi,ih Wk,h.val];have nb:∀k∈Fr m,k<=B[i+1]↔k<=B[i]\/k=B[i+1]:=fun k hk=>by
   grind
  have l0:=lt i (i+1) Wk hi Wk;have e1:lF S B[i+1]=lF S B[i]+cF S B[i+1]:=by
   unfold lF cF;apply JJ
   grind [Gc.keys]
  have e2:lT S B[i+1]=lT S B[i]+cT S B[i+1]:=by
   unfold lT cT;apply JJ
   grind [Gc.keys]
  omega
theorem aw{S:AN}(hS:∀x∈S,x.1<x.2)(p:Int):(lF S p:Int)-lT S p=(S.countP (BM p):Nat):=by
 have:lF S p=S.countP (BM p)+lT S p:=by
  unfold lF lT
  grind [JJ,BM]
 omega
theorem PS:∀{l:AN} {lo:Int} (p:Int),EU lo l->l.countP (BM p)=if l.any (BM p)then 1 else 0
 | [],_,_,_=>rfl
 |y::r,lo,p,⟨h1,h2,h3,h4⟩=>by
  rw[List.countP_cons,PS p h4,EX];cases hy:BM p y with
  |false=>grind
  |true=>
   have:=EC.1 hy
   have:r.any (BM p)=false:=by
    rw[BC];intro hr;have:=PI h4 hr;omega
   simp_all
theorem MK:∀(l:List AN) (p:Int),((l.map canon).flatten).countP (BM p)=mP l p
 | [],_=>rfl
 |s::l,p=>by
  rw[Bo,Cs,List.countP_append,MK l p,PS p (BE s),K4]
  grind [mP]
def EM(keep:Nat->Bool)(m:List (Int×Int))(B:List Int):Nat->AN
 |0=>[]
 |i+1=>EM keep m B i++(match B[i]?,B[i+1]? with
  |some a,some b=>if keep (Jp m (B.take (i+1))).toNat then [(a,b)]else []
  |_,_=>[])
theorem RA{keep:Nat->Bool}{m:List (Int×Int)}{B:List Int}{x:Int×Int}:∀{n:Nat},x∈EM keep m B n↔∃i,i<n/\∃(h1:i<B.length) (h2:i+1<B.length),keep (Jp m (B.take (i+1))).toNat=true/\x=(B[i],B[i+1])
 |0=>by simp[EM]
 |n+1=>by
  unfold EM;rw[Bc,RA (n:=n)]
  grind
theorem PL{B:List Int}(hs:B.Pairwise fun a b=>a<b){p:Int}:∀(n:Nat) (h0:0<B.length) (hn:n<B.length),B[0]<=p->p<B[n]->∃i,∃(h1:i<B.length) (h2:i+1<B.length),B[i]<=p/\p<B[i+1]
 |0,h0,hn,h1,h2=>by omega
 |n+1,h0,hn,h1,h2=>by
  by_cases e:B[n]<=p
  .grind
  .exact PL hs n h0 Wk h1 Wk
theorem oA{keep:Nat->Bool}{l:List AN}{m:List (Int×Int)}(h:Gc m (l.map canon).flatten)(hB:qI B m)(p:Int):has (EM keep m B (B.length-1)) p=(Qs p&&keep (mP l p)):=by
 have hS:∀x∈(l.map canon).flatten,x.1<x.2:=fun x hx=>by
  obtain⟨s,hs,hx⟩:=EI.1 hx;obtain⟨t,_,rfl⟩:=Ar.1 hs;exact((BE t).low x hx).2.1
 have mem:∀k,k∈Fr m->∃j,∃hj:j<B.length,B[j]=k:=fun k hk=>by
  obtain⟨j,hj,e⟩:=CG.1 (hB.perm.mem_iff.2 hk)<;>grind [List.mem_iff_getElem]
 have lt:∀i j (hi:i<B.length) (hj:j<B.length),i<j->B[i]<B[j]:=fun i j hi hj cX=>(Cy.1 hB.srt) i j hi hj cX;have rng:∀i (hi:i<B.length),0<=B[i]/\B[i]<=1000000:=fun i hi=>h.rng _ (hB.perm.mem_iff.1 (Ag hi))
 -- qV two bounds
 have qV:∀i (h1:i<B.length) (h2:i+1<B.length),B[i]<=p->p<B[i+1]->(Jp m (B.take (i+1))).toNat=mP l p:=fun i h1 h2 a b=>by
  have same:∀k∈Fr m,k<=B[i]↔k<=p:=fun k hk=>by
   grind
  have e1:lF (l.map canon).flatten B[i]=lF (l.map canon).flatten p:=by
   grind [lF,List.countP_congr,Gc.keys]
  grind [lT,List.countP_congr,iP,aw,MK,Gc.keys]
 rw[CI];constructor
 .grind [has,RA,EC,Qs]
 .intro hh;simp only[Aq,Qs,A4]at hh;obtain⟨⟨p0,p1⟩,hk⟩:=hh;obtain⟨j0,hj0,e0⟩:=mem 0 h.keys.1;obtain⟨j1,hj1,e1⟩:=mem 1000000 h.keys.2.1;have hb0:B[0]' Wk<=p:=by
   grind
  obtain⟨i,h1,h2,a,b⟩:=PL hB.srt j1 Wk hj1 hb0 Wk;unfold has;simp only[p0,p1,decide_true,S0];exact Bs.2 ⟨(B[i],B[i+1]),RA.2 ⟨i,by omega,h1,h2,by simp_all,rfl⟩,EC.2 ⟨a,b⟩⟩
theorem p9{l:List AN}{m:List (Int×Int)}(h:Gc m (l.map canon).flatten)(hB:qI B m)(i:Nat)(hi:i<B.length):0<=Jp m (B.take (i+1))/\Jp m (B.take (i+1))<=l.length:=by
 have hS:∀x∈(l.map canon).flatten,x.1<x.2:=fun x hx=>by
  obtain⟨s,hs,hx⟩:=EI.1 hx;obtain⟨t,_,rfl⟩:=Ar.1 hs;exact((BE t).low x hx).2.1
 rw[iP h hB i hi,aw hS,MK]
 grind [mP]
def Zo(m:List Tm)(t:Tm):List Tm:=if m.any (fun u=>decide (u.path=t.path))then m.map (fun u=>if u.path=t.path then t else u)else m++[t]
def stepT(m:List Tm)(t:Tm):List Tm:=Zo m (Ti (Dw m t.path) t)
def DF:List Tm:=l.foldl stepT []
theorem jL(p:ByteArray):∀m:List Tm,Dw (Zo m t) p=if t.path=p then some t else Dw m p:=by
 intro m;unfold Zo
 by_cases h:(m.any fun u=>decide (u.path=t.path))=true
 .rw[A1 h]
  induction m with
  |nil=>simp_all
  |cons u m ih=>
   rw[Bo,EV,EV]
   by_cases e:u.path=t.path
   .rw[A1 e]
    by_cases ep:t.path=p
    .simp_all
    .rw[AL ep,AL ep,AL (fun c=>ep (e.symm.trans c))]
     by_cases hm:(m.any fun u=>decide (u.path=t.path))=true
     .simp_all
     .have:∀q∈m,q.path≠t.path:=fun q hq c=>hm (Bs.2 ⟨q,hq,by simp[c]⟩)
      have:m.map (fun u=>if u.path=t.path then t else u)=m:=by
       conv=>rhs;rw[<-Ks m]
       grind [List.map_congr_left]
      simp_all
   grind
 .rw[AL h];have hn:∀q∈m,q.path≠t.path:=fun q hq e=>h (Bs.2 ⟨q,hq,by simp[e]⟩)
  clear h
  induction m<;>grind [EV]
def E5(m:List Tm):List ByteArray:=m.map (·.path)
open Classical in
theorem fK(m:List Tm)(t:Tm):E5 (Zo m t)=if t.path∈E5 m then E5 m else E5 m++[t.path]:=by
 grind [Zo,E5,List.map_congr_left]
theorem kS{m:List Tm}(h:(E5 m).Nodup)(t:Tm):(E5 (Zo m t)).Nodup:=by
 grind [fK]
theorem SK(h:i<l.length):DF (l.take (i+1))=stepT (DF (l.take i)) l[i]:=by
 grind [DF,List.take_add_one]
theorem Qi:∀(l m:List Tm),(E5 m).Nodup->(E5 (l.foldl stepT m)).Nodup
 | [],_,h=>h
 |_::l,_,h=>Qi l _ (kS h _)
theorem It:(E5 (DF l)).Nodup:=Qi l [] .nil
theorem aI(m:List Tm)(t:Tm)(p:ByteArray):Dw (stepT m t) p=KJ p (Dw m p) t:=by
 grind [stepT,KJ,RM,LL,jL]
theorem Qe(p:ByteArray):∀(l m:List Tm),Dw (l.foldl stepT m) p=l.foldl (KJ p) (Dw m p)
 | [],_=>rfl
 |t::l,m=>by rw[FJ,FJ,Qe p l,aI]
theorem dT(p:ByteArray):Dw (DF l) p=Dw (Ds l) p:=by
 unfold DF;rw[Qe,JM];rfl
theorem Sz{m:List Tm}(h:(E5 m).Nodup){t:Tm}:t∈m↔Dw m t.path=some t:=by
 constructor
 .induction m<;>grind [E5,EV]
 .exact Ha
theorem M5{m:List Tm}(h:(E5 m).Nodup):m.Nodup:=by
 unfold E5 at h
 induction m<;>grind
theorem Iy{l:List Tm}{lo:Option ByteArray}(h:BL lo l):(E5 l).Nodup:=by
 unfold E5
 induction l generalizing lo with
 |nil=>simp_all
 |cons t l ih=>
  rw[Bo,GL];refine⟨fun hm=>?_,ih h.2.2⟩;obtain⟨u,hu,e⟩:=Ar.1 hm
  have:=h.2.2.low u hu
  grind [Dd]
theorem JU:t∈DF l↔t∈Ds l:=by
 grind [Sz,It,dT,Iy,DT]
theorem Qz:∀t∈DF l,ED t.set:=fun t ht=>(DT l).canon t ((JU l t).1 ht)
theorem lK(m:List Tm)(t:Tm):(stepT m t).length<=m.length+1:=by
 grind [stepT,Zo]
theorem Pe:∀i,i<=l.length->(DF (l.take i)).length<=i:=by
 intro i
 induction i<;>grind [DF,SK,lK]
theorem fX(hs:s.Pairwise fun x y=>Ek x.path y.path=true)(hc:∀t∈s,ED t.set):BL none s:=by
 have:∀(s:List Tm) (lo:Option ByteArray),s.Pairwise (fun x y=>Ek x.path y.path=true)->(∀t∈s,ED t.set)->(∀p,lo=some p->∀t∈s,Ek p t.path=true)->BL lo s:=by
  intro s
  induction s with
  |nil=>intro _ _ _ _;trivial
  |cons t s ih=>
   intro lo hs hc hl;obtain⟨h1,h2⟩:=EF.1 hs;exact⟨fun p e=>hl p e t (Ah ..),hc t (Ah ..),ih _ h2 (fun u hu=>hc u (Aj _ hu)) fun p e u hu=>by simp_all⟩
 simp_all
theorem Rk{l:List Tm}(q:Tm->Bool)(hp:s.Perm ((DF l).filter q))(hs:s.Pairwise fun x y=>Ek y.path x.path=false):s=(Ds l).filter q:=by
 have hm:∀t,t∈s↔t∈(Ds l).filter q:=fun t=>by
  grind [JU]
 have Rx:(E5 s).Nodup:=by
  grind [E5,It]
 have Iz:s.Pairwise fun x y=>Ek x.path y.path=true:=by
  grind [List.pairwise_iff_getElem,Ik,E5]
 have hss:BL none s:=fX Iz fun t ht=>(DT l).canon t (Cw.1 ((hm t).1 ht)).1;have se:BL none ((Ds l).filter q):=BL.filter q (DT l)
 grind [Np,Dw,GZ]
theorem dB:ET t t=Dp t:=by grind [ET,Dp,ff]
theorem iI(o:Option Tm)(t:Tm):Ti o t=ET (o.getD t) t:=by cases o with | none=>exact(dB t).symm | some u=>rfl
theorem jh{t:Tm}(h:ED t.set):(t.absent&&(BW t.set).isEmpty)=Fx t:=by
 unfold Fx
 congr 1
 rw[CI,Jh,A4];have ha:ED [(0,1000000)]:=⟨B4 _,by omega,B4 _,trivial⟩;constructor
 .intro e;refine Fy h ha fun p=>?_
  have:=Fu t.set p
  grind [has,Qs,BM]
 grind [RH,GT,Fu,has,BM]
theorem oQ{t:Tm}(h:ED t.set):(!t.absent&&(canon t.set).isEmpty)=F7 t:=by grind [F7,J4]
end Go.Eng
namespace Go.Eng
open Go.Lib
theorem RZ(c:UInt8):∀(s:List UInt8) (k:Nat),s.count c<=k->splitK [c] 0 k s=CJ c s
 | [],k,_=>by
  cases k with
  |zero=>rfl
  |succ k=>rfl
 |b::r,k,h=>by
  rw[CJ]
  by_cases e:b=c
  .subst e;rw[List.count_cons_self]at h;obtain⟨k',rfl⟩:∃k',k=k'+1:=⟨k-1,by omega⟩;rw[A1 rfl,splitK,index_one,indexByte];simp only[beq_self_eq_true,if_true];rw[AL aa3];show []::splitK [b] 0 k' r=_;rw[RZ b r k' Wk]
  .have ER:(b == c)=false:=aa0
   rw[List.count_cons_of_ne Wk]at h;have ih:=RZ c r k h;rw[AL e];cases k with
   |zero=>
    rw[<-ih];rfl
   |succ k=>
    rw[<-ih,splitK,splitK,index_one,index_one,indexByte,ER]
    by_cases h0:indexByte r c=-1
    .simp_all
    .have h1:(indexByte r c == -1)=false:=aa0
     have h2:=indexByte_ge r c;have h3:(indexByte r c+1 == -1)=false:=aa2
     simp only[Bool.false_eq_true,if_false,h1,h3];obtain⟨i,hi⟩:∃i:Nat,indexByte r c=i:=⟨(indexByte r c).toNat,by omega⟩<;>simp_all
theorem au(c:UInt8):∀(n:Nat) (s:List UInt8),s.length<=n->count s [c]=s.count c
 |n,s,hn=>by
  rcases Int.lt_or_le (indexByte s c) 0 with h | h
  .have h2:=indexByte_ge s c;have h3:indexByte s c=-1:=Wk
   rw[count_miss (by grind [index_one])]
   symm
   rw[List.count_eq_zero];intro hm;obtain⟨k,hk,e⟩:=Hr hm;exact indexByte_none h3 k aa0
  .obtain⟨i,hi⟩:∃i:Nat,indexByte s c=i:=⟨(indexByte s c).toNat,by omega⟩;obtain⟨h1,h2⟩:=indexByte_some hi;obtain⟨hl,hg⟩:=Bg.1 h1;cases n with
   |zero=>omega
   |succ n=>
    have hc:=count_hit (s:=s) (sub:=[c]) (i:=i) aa1 (by grind [index_one]);rw[hc];have ih:=au c n (s.drop (i+1)) aa2;have hsp:s=s.take i++c::s.drop (i+1):=by
     grind [List.drop_eq_getElem_cons,List.take_append_drop]
    grind [List.count_eq_zero,List.getElem_of_mem]
theorem lG(s:ByteArray)(c:UInt8):((splitB ⟨#[c]⟩ 0 (countB s ⟨#[c]⟩) s).map (·.data.toList))=CJ c s.data.toList:=by
 rw[splitB_data];refine RZ c _ _ ?_;show _<=count s.data.toList [c];rw[au c _ _ (Ao _)];omega
end Go.Eng
namespace Go.Eng
variable {p:ByteArray}{t:List Tm}{D:List Sl}{U:List ByteArray}{d:List (List Tm)}{l c b:List Tm}{S:List Sl}{v:Ver}{k:Nat}{v':Ver}(x:List Rl)(roots:List Rq)
theorem XD{α:Type}:∀{l m:List α},l.Nodup->(∀x∈l,x∈m)->l.length<=m.length
 | [],_,_,_=>Ak _
 |a::l,m,hn,hs=>by
  obtain⟨h1,h2⟩:=GL.1 hn;obtain⟨s,t,rfl⟩:=List.append_of_mem (hs a (Ah ..))
  have:l.length<=(s++t).length:=XD h2 fun x hx=>by
   grind
  grind
theorem Mh(p:ByteArray):∀(l:List Tm) (o:Option Tm),(∀u∈l,u.path≠p)->l.foldl (KJ p) o=o
 | [],_,_=>rfl
 |t::l,o,h=>by
  rw[FJ,show KJ p o t=o by grind [KJ]];exact Mh p l o fun u hu=>h u (Aj _ hu)
theorem fy{t:Tm}(h:t∈Ds l):∃u∈l,u.path=t.path:=by
 grind [GZ,DT,JM,Mh]
def Si(U:List ByteArray)(t:List Tm):Prop:=BL none t/\∀u∈t,u.path∈U
theorem Si.len(h:Si U t):t.length<=U.length:=by
 have:=XD (Iy h.1) (m:=U) fun p hp=>by
  obtain⟨u,hu,rfl⟩:=Ar.1 hp;exact h.2 u hu
 grind [E5]
theorem dE(h:Bj l=some c){t:Tm}(ht:t∈c):t∈Ds l:=by
 grind [Bj]
theorem Rj(h:Bj l=some c)(hu:∀u∈l,u.path∈U):Si U c:=
 ⟨E7 h,fun t ht=>by
  obtain⟨u,h1,h2⟩:=fy (dE h ht)<;>grind⟩
theorem Si.nil(U:List ByteArray):Si U []:=⟨trivial,fun u hu=>by cases hu⟩
theorem Vs(hu:∀u∈l,u.path∈U):Si U (H l):=by
 grind [H,Bj,Rj,Si.nil]
theorem SQ{a:List Tm}(ha:Si U a)(hb:Si U b):Si U (AU a b p).1:=by
 have sp:∀{l r:List Tm} {t:Tm},Si U l->D1 l p=some (t,r)->t.path∈U/\∀u∈r,u.path∈U:=by
  intro l r t hl h;unfold D1 at h;cases e:Bj l with
  |none=>simp_all
  |some c=>
   rw[e]at h;have h:(match Dw c p with | none=>none | some t=>some (t,AH c p))=some (t,r):=h;have hc:=Rj e hl.2;cases e2:Dw c p with
   |none=>simp_all
   |some u=>
    rw[e2]at h;cases h;exact⟨hc.2 _ (Ha e2),fun u hu=>hc.2 u (Cw.1 hu).1⟩
 unfold AU;split
 .rename_i t r u m e1 e2;obtain⟨a1,a2⟩:=sp ha e1;obtain⟨b1,b2⟩:=sp hb e2;split
  .rename_i o e3;refine Rj e3 fun v hv=>?_;rcases Bc.1 hv with hv | hv
   .grind
   .rw[AI.1 hv];exact a1
  .exact .nil U
 .exact .nil U
def HM(l:List Nf):List ByteArray:=(x.map (·.path))++((x.map (·.reqs)).flatten.map (·.path)++(roots.map (·.path)++l.map (·.path)))
theorem NE{x:List Rl}{roots:List Rq}{l:List Nf}{i:Nf}(hi:i∈l)(hd:∀t∈d,Si (HM x roots l) t)(h:AR x roots d i=some t):Si (HM x roots l) t:=by
 have hp:i.path∈HM x roots l:=by
  grind [HM]
 have nz:∀{α:Type} {l:List α} {k:Int} {a:α},DU l k=some a->a∈l:=by
  grind [DU]
 have n0:∀{a b:List Tm},Ph a=some b->b=a:=by
  grind [Ph]
 unfold AR at h;split at h
 .split at h
  .cases e:DU roots i.number with
   |none=>simp_all
   |some q=>
    rw[e]at h;cases h;refine Vs fun u hu=>?_;rw[AI.1 hu];unfold HM;exact Cb _ (Cb _ (Bz _ (Ar.2 ⟨q,nz e,rfl⟩)))
  simp_all
 split at h
 .split at h
  .cases e:Dt x i.path i.place with
   |none=>simp_all
   |some r=>
    rw[e]at h;have h:(match DU r.reqs i.number with | none=>none | some q=>Ph (BU i.path i.place q))=some t:=h;cases e2:DU r.reqs i.number with
    |none=>simp_all
    |some q=>
     rw[e2]at h;have h:=n0 (show Ph (BU i.path i.place q)=some t from h);subst h;refine Vs fun u hu=>?_;rcases AM.1 hu with rfl | hu
     .exact hp
     .rw[AI.1 hu];unfold HM;refine Cb _ (Bz _ (Ar.2 ⟨q,?_,rfl⟩));exact EI.2 ⟨r.reqs,Ar.2 ⟨r,Bh e,rfl⟩,nz e2⟩
  simp_all
 split at h
 .split at h
  .have h:=n0 h;subst h;refine Vs fun u hu=>?_;simp_all
  simp_all
 grind [SQ]
structure Cd where
 place:Int
 rel:Rl
structure Nd where
 rq:Rq
 path:ByteArray
 place:Int
 number:Int
variable (n:Nd)
structure SS where
 infs:List Nf
 drv:List (List Tm)
 full:Bool
variable {s':SS}(s:SS)
abbrev Ob(c:Cd):Sl:=⟨c.rel.path,c.rel.ver⟩
abbrev Q(l:List Cd):List Sl:=l.map Ob
def Bk(p:ByteArray):List Cd:=(x.filter fun r=>decide (r.path=p)&&!r.yanked).map fun r=>⟨plc r.ver,r⟩
def Lj(f:Rq->Nat->Nd):Nat->List Rq->List Nd
 |_,[]=>[]
 |i,q::l=>f q i::Lj f (i+1) l
def cC:List Nd:=Lj (fun q i=>⟨q,R,0,i⟩) 0 roots
def QQ(c:Cd):List Nd:=Lj (fun q i=>⟨q,c.rel.path,c.place,i⟩) 0 c.rel.reqs
def Du(dec:List Cd):List Nd:=cC roots++(dec.map QQ).flatten
def DB(dec:List Cd)(p:ByteArray):Bool:=dec.any fun c=>decide (c.rel.path=p)
def D0(dec:List Cd)(a:ByteArray×List Nd)(n:Nd):ByteArray×List Nd:=
 if DB dec n.rq.path=true\/(a.2≠[]/\Ek a.1 n.rq.path=true)then a
 else if a.2≠[]/\Ek n.rq.path a.1=true then(n.rq.path,[n])else(n.rq.path,a.2++[n])
def D4(dec:List Cd):ByteArray×List Nd:=(Du roots dec).foldl (D0 dec) (R,[])
def Vj(l:List Cd)(n:Nd):Bool:=l.any fun d=>decide (d.rel.path=n.rq.path)&&!has n.rq.set d.place
def CX(dec:List Cd)(c:Cd):Option Nd:=(QQ c).find? (Vj (dec++[c]))
def PX(s:List Sl):Nat->List (List Tm)->Option Nat
 |_,[]=>none
 |i,t::l=>if Bq t s then some i else PX s (i+1) l
def OL(d:List (List Tm))(s:List Sl):Option Nat:=PX s 0 d
def DN(l:List Tm)(p:ByteArray):Bool:=l.any fun t=>decide (t.path=p)
instance:DecidableEq Nf:=fun a b=>by
 obtain⟨a1,a2,a3,a4,a5,a6⟩:=a;obtain⟨b1,b2,b3,b4,b5,b6⟩:=b;exact decidable_of_iff (a1=b1/\a2=b2/\a3=b3/\a4=b4/\a5=b5/\a6=b6) ⟨fun⟨h1,h2,h3,h4,h5,h6⟩=>by simp_all,fun h=>by simp_all⟩
def Mz(i:Nf):Nat->List Nf->Option Nat
 |_,[]=>none
 |k,j::l=>if j=i then some k else Mz i (k+1) l
def Ed(i:Nf)(l:List Tm):Nat×SS:=
 match Mz i 0 s.infs with
 |some k=>(k,s)
 |none=>if 65536<=s.infs.length then(s.infs.length-1,⟨s.infs,s.drv,true⟩)else(s.infs.length,⟨s.infs++[i],s.drv++[l],s.full⟩)
def OZ:Nf:=if n.path=R then⟨0,R,0,n.number,0,0⟩else⟨1,n.path,n.place,n.number,0,0⟩
def II:List Tm:=if n.path=R then GE n.rq else BU n.path n.place n.rq
def Bx(n:Nd):Nat×SS:=Ed s (OZ n) (II n)
abbrev Ei(k:Nat):List Tm:=s.drv.getD k []
def B2(p:ByteArray):List Nat->Nat->SS->Nat×SS
 | [],k,s=>(k,s)
 |r::l,k,s=>
  if s.full=true\/DN (Ei s k) p=false then(k,s)
  else if r=k then B2 p l k s
  else if(AU (Ei s k) (Ei s r) p).2≠0 then B2 p l k s
  else B2 p l (Ed s ⟨3,p,0,0,k,r⟩ (AU (Ei s k) (Ei s r) p).1).1 (Ed s ⟨3,p,0,0,k,r⟩ (AU (Ei s k) (Ei s r) p).1).2
def Ev(p:ByteArray)(s:SS):Nat×SS:=Ed s ⟨2,p,0,0,0,0⟩ (Eh p (Ba x p))
def DE(p:ByteArray)(n:Nd)(reasons:List Nat)(s:SS):Nat×SS:=
 B2 p ((Ev x p (Bx s n).2).1::reasons) (Bx s n).1 (Ev x p (Bx s n).2).2
structure Ko where
 res:Nat
 found:Bool
 ss:SS
 dec:List Cd
 stack:List (List Sk)
def DC(rec:List Cd->SS->List (List Sk)->Ko)(x:List Rl)(p:ByteArray)(needs:List Nd)(n0:Nd)(dec:List Cd)(stack:List (List Sk)):List Cd->SS->List Nat->List Sk->Ko
 | [],s,reasons,_=>⟨(DE x p n0 reasons s).1,false,(DE x p n0 reasons s).2,dec,stack⟩
 |c::cs,s,reasons,skips=>
  let after (k:Nat) (s:SS):Ko:=if DN (Ei s k) p=false then⟨k,false,s,dec,stack⟩else DC rec x p needs n0 dec stack cs s (reasons++[k]) (skips++[⟨p,c.place,k⟩])
  if s.full=true then⟨0,false,s,dec,stack⟩
  else match needs.find? fun n=>!has n.rq.set c.place with
   |some n=>DC rec x p needs n0 dec stack cs (Bx s n).2 (reasons++[(Bx s n).1]) skips
   |none=>match OL s.drv (Q (dec++[c]))with
    |some k=>after k s
    |none=>match CX dec c with
     |some n=>after (Bx s n).1 (Bx s n).2
     |none=>
      let o:=rec (dec++[c]) s (stack++[skips])
      if o.found=true then⟨0,true,o.ss,o.dec,o.stack⟩
      else if o.ss.full=true then⟨0,false,o.ss,dec,stack⟩
      else after o.res o.ss
def CF(x:List Rl)(roots:List Rq):Nat->List Cd->SS->List (List Sk)->Ko
 |0,dec,s,stack=>⟨0,false,s,dec,stack⟩
 |n+1,dec,s,stack=>match(D4 roots dec).2 with
  | []=>⟨0,true,s,dec,stack⟩
  |n0::l=>DC (CF x roots n) x (D4 roots dec).1 (n0::l) n0 dec stack (Bk x (D4 roots dec).1) s [] []
abbrev ss0:SS:=⟨[],[],false⟩
def FA(dec:List Cd):Nat:=(x.filter fun r=>!r.yanked&&!DB dec r.path).length
def Ep:Ko:=CF x roots (x.length+1) [] ss0 []
theorem QJ(f:Rq->Nat->Nd):∀(l:List Rq) (i k:Nat),(Lj f i l)[k]?=(l[k]?).map fun q=>f q (i+k)
 | [],i,k=>by simp[Lj]
 |q::l,i,0=>by simp[Lj]
 |q::l,i,k+1=>by
  have h:=QJ f l (i+1) k
  grind [Lj]
theorem M7(f:Rq->Nat->Nd):∀(l:List Rq) (i:Nat),(Lj f i l).length=l.length
 | [],_=>rfl
 |_::l,i=>by simp[Lj,M7 f l (i+1)]
theorem QK{f:Rq->Nat->Nd}{l:List Rq}{n:Nd}(h:n∈Lj f 0 l):∃k q,l[k]?=some q/\n=f q k:=by
 grind [List.mem_iff_getElem?,QJ]
theorem TH{f:Rq->Nat->Nd}(hf:∀q i,(f q i).rq=q):∀(l:List Rq) (i:Nat),(Lj f i l).map (·.rq)=l
 | [],_=>rfl
 |q::l,i=>by simp[Lj,hf,TH hf l (i+1)]
abbrev EO(dec:List Cd):List Rq:=roots++(dec.map fun c=>c.rel.reqs).flatten
theorem IJ(dec:List Cd):(Du roots dec).map (·.rq)=EO roots dec:=by
 unfold Du cC;rw[Bl,TH (fun _ _=>rfl),List.map_flatten,BH]
 congr 2
 exact Cg fun c _=>TH (fun _ _=>rfl) _ _
theorem GU(dec:List Cd)(p:ByteArray):BP (Q dec) p=DB dec p:=by
 grind [BP,DB,List.any_map]
theorem Kc(before:List Sl):∀{l:List Rq} {a p:ByteArray},CO before l (some a)=some p->p=a\/Ek p a=true
 | [],a,p,h=>by cases h<;>simp_all
 |q::l,a,p,h=>by
  unfold CO at h;split at h
  .exact Kc before h
  .dsimp only at h;split at h
   .rename_i hb;rcases Kc before h with e | e<;>grind [D2]
   .exact Kc before h
theorem Je(before:List Sl):∀{l:List Rq} {a:ByteArray},CO before l (some a)≠none
 | [],a=>by simp[CO]
 |q::l,a=>by
  unfold CO;split
  .exact Je before
  .dsimp only;split<;>exact Je before
theorem NP(dec:List Cd):∀(L:List Nd) (a:ByteArray×List Nd),(a.2≠[]->DB dec a.1=false) ->
  L.foldl (D0 dec) a=match CO (Q dec) (L.map (·.rq)) (if a.2=[]then none else some a.1)with
   |none=>a
   |some p=>(p,(if a.2≠[]/\a.1=p then a.2 else [])++L.filter fun n=>decide (n.rq.path=p))
 | [],a,h=>by
  grind [CO]
 |n::L,a,h=>by
  obtain⟨p0,o⟩:=a;rw[FJ,Bo];have Aih:∀(acc:Option ByteArray) (l:List Rq),(∀p,acc=some p->DB dec p=false)->∀p,CO (Q dec) l acc=some p->DB dec p=false:=fun acc l ha p hp=>by
   grind [KF,GU]
  cases hd:DB dec n.rq.path with
  |true=>
   have e1:D0 dec (p0,o) n=(p0,o):=by grind [D0]
   have e2:CO (Q dec) (n.rq::L.map (·.rq)) (if o=[]then none else some p0)=CO (Q dec) (L.map (·.rq)) (if o=[]then none else some p0):=by
    grind [CO,GU]
   rw[e1,e2,NP dec L (p0,o) h];dsimp only;cases hg:CO (Q dec) (L.map (·.rq)) (if o=[]then none else some p0)<;>grind [CO]
  |false=>
   have Rx:BP (Q dec) n.rq.path=false:=by grind [GU]
   by_cases ho:o=[]
   .subst ho;have e1:D0 dec (p0,[]) n=(n.rq.path,[n]):=by
     grind [D0]
    have e2:CO (Q dec) (n.rq::L.map (·.rq)) none=CO (Q dec) (L.map (·.rq)) (some n.rq.path):=by
     grind [CO]
    rw[e1,NP dec L (n.rq.path,[n]) (fun _=>hd),A1 rfl,e2]
    grind [Je]
   .have hif:(if o=[]then none else some p0)=some p0:=AL ho;rw[hif];cases hb:Ek p0 n.rq.path with
    |true=>
     have e1:D0 dec (p0,o) n=(p0,o):=by grind [D0]
     have qv:Ek n.rq.path p0=false:=jr hb;have e2:CO (Q dec) (n.rq::L.map (·.rq)) (some p0)=CO (Q dec) (L.map (·.rq)) (some p0):=by
      grind [CO]
     rw[e1,e2,NP dec L (p0,o) h]
     grind [Kc]
    |false=>
     cases qv:Ek n.rq.path p0 with
     |true=>
      have e1:D0 dec (p0,o) n=(n.rq.path,[n]):=by
       grind [D0]
      have e2:CO (Q dec) (n.rq::L.map (·.rq)) (some p0)=CO (Q dec) (L.map (·.rq)) (some n.rq.path):=by
       grind [CO]
      rw[e1,e2,NP dec L (n.rq.path,[n]) (fun _=>hd),AL aa1]
      grind [Je,Kc]
     |false=>
      have e0:n.rq.path=p0:=Ik qv hb;have e1:D0 dec (p0,o) n=(p0,o++[n]):=by
       grind [D0]
      have e2:CO (Q dec) (n.rq::L.map (·.rq)) (some p0)=CO (Q dec) (L.map (·.rq)) (some p0):=by
       grind [CO]
      rw[e1,e2,NP dec L (p0,o++[n]) (fun _=>by simp_all),AL aa1];cases hg:CO (Q dec) (L.map (·.rq)) (some p0)<;>grind [Je]
theorem Vl(dec:List Cd):D4 roots dec=match DH (EO roots dec) (Q dec)with
  |none=>(R,[])
  |some p=>(p,(Du roots dec).filter fun n=>decide (n.rq.path=p)):=by
 grind [D4,DH,NP,IJ]
theorem Pn{roots:List Rq}{dec:List Cd}:(D4 roots dec).2=[]↔DH (EO roots dec) (Q dec)=none:=by
 rw[Vl];cases h:DH (EO roots dec) (Q dec)with
 |none=>simp
 |some p=>
  simp only[reduceCtorEq,iff_false];obtain⟨_,q,hq,e⟩:=IK h;rw[<-IJ]at hq;obtain⟨n,hn,rfl⟩:=Ar.1 hq;exact List.ne_nil_of_mem (Cw.2 ⟨hn,by simp_all⟩)
structure V8(roots:List Rq)(dec:List Cd)(p:ByteArray)(l:List Nd):Prop where
 next:DH (EO roots dec) (Q dec)=some p
 undone:DB dec p=false
 mem:∀n,n∈l↔n∈Du roots dec/\n.rq.path=p
theorem Kd{roots:List Rq}{dec:List Cd}{n0:Nd}{l:List Nd}(h:(D4 roots dec).2=n0::l):V8 roots dec (D4 roots dec).1 (n0::l):=by
 rw[<-h];rw[Vl]at *
 cases hp:DH (EO roots dec) (Q dec)with
 |none=>simp_all
 |some p=>
  dsimp only;refine⟨hp,by rw[<-GU];grind [IK],fun n=>?_⟩
  grind
theorem HG{x:List Rl}{c:Cd}:c∈Bk x p↔∃r∈x,r.path=p/\r.yanked=false/\c=⟨plc r.ver,r⟩:=by
 grind [Bk]
theorem NV{i:Nf}:∀{l:List Nf} {k m:Nat},Mz i k l=some m->∃j,m=k+j/\l[j]?=some i
 | [],_,_,h=>by cases h
 |y::l,k,m,h=>by
  unfold Mz at h;split at h
  .simp_all
  .obtain⟨j,h1,h2⟩:=NV h;exact⟨j+1,by omega,h2⟩
theorem RK{i:Nf}:∀{l:List Nf} {k:Nat},Mz i k l=none->i∉l
 | [],_,_=>by simp
 |y::l,k,h=>by
  unfold Mz at h;split at h
  .cases h
  .rename_i e
   have:=RK h
   grind
theorem cd{α:Type}{d d' : List α}{i:Int}{a:α}(h:DU d i=some a)(hp:d <+: d'):DU d' i=some a:=by
 unfold DU at *
 split at h
 .cases h
 .rename_i hi;rw[AL hi];obtain⟨t,rfl⟩:=hp<;>grind
theorem bv{x:List Rl}{roots:List Rq}{d':List (List Tm)}{i:Nf}{o:List Tm}(h:AR x roots d i=some o)(hp:d <+: d'):AR x roots d' i=some o:=by
 grind [AR,cd]
structure EZ(x:List Rl)(roots:List Rq)(s:SS):Prop where
 der:BI x roots s.infs []=some s.drv
 len:s.infs.length<=65536
theorem EZ.dlen{x:List Rl}{roots:List Rq}{s:SS}(h:EZ x roots s):s.drv.length=s.infs.length:=by simpa using Il h.der
theorem EZ.nil:EZ x roots ss0:=⟨rfl,by simp⟩
theorem EZ.at{x:List Rl}{roots:List Rq}{s:SS}(h:EZ x roots s){k:Nat}{i:Nf}(hk:s.infs[k]?=some i):AR x roots s.drv i=some (s.drv.getD k []):=by
 have h1:=KN h.der (k+1);have h0:=KN h.der k;have E4:=(Bg.1 hk).1;rw[Dv,hk,Ft,h0]at h1
 grind [BI,List.take_succ_eq_append_getElem,List.append_cancel_left,bv]
structure Grow(s s' : SS):Prop where
 pre:s.drv <+: s'.drv
 preI:s.infs <+: s'.infs
 full:s.full=true->s'.full=true
theorem Grow.refl:Grow s s:=⟨List.prefix_rfl,List.prefix_rfl,id⟩
theorem Grow.trans{a b c:SS}(h:Grow a b)(k:Grow b c):Grow a c:=⟨h.pre.trans k.pre,h.preI.trans k.preI,fun e=>k.full (h.full e)⟩
theorem Grow.at{s:SS}(h:Grow s s')(hk:k<s.drv.length):Ei s' k=Ei s k:=by
 obtain⟨t,e⟩:=h.pre<;>grind
theorem Grow.len{s:SS}(h:Grow s s'):s.drv.length<=s'.drv.length:=h.pre.length_le
theorem K3(i:Nf)(l:List Tm):Grow s (Ed s i l).2:=by
 grind [Ed,Grow.mk]
theorem KZ{x:List Rl}{roots:List Rq}{s:SS}(h:EZ x roots s){i:Nf}(hi:AR x roots s.drv i=some l) :
  EZ x roots (Ed s i l).2/\(Ed s i l).1<(Ed s i l).2.drv.length/\((Ed s i l).2.full=false->Ei (Ed s i l).2 (Ed s i l).1=l):=by
 grind [Ed,NV,BI,Ft,EZ.dlen,EZ.at,EZ.mk,EZ.der,EZ.len]
theorem dp(i:Nf)(l:List Tm):(Ed s i l).2.infs.length<=s.infs.length+1:=by
 grind [Ed]
theorem ZU{s:SS}(i:Nf)(l:List Tm)(hf:s.full=false)(hc:s.infs.length<65536):(Ed s i l).2.full=false:=by
 grind [Ed]
theorem Uq(S:List Sl):∀{l:List (List Tm)} {i k:Nat},PX S i l=some k->∃j,k=i+j/\∃t,l[j]?=some t/\Bq t S=true
 | [],_,_,h=>by cases h
 |t::l,i,k,h=>by
  unfold PX at h;split at h
  .simp_all
  .obtain⟨j,h1,t',h2,h3⟩:=Uq S h;exact⟨j+1,by omega,t',h2,h3⟩
theorem K7(h:OL d S=some k):k<d.length/\Bq (d.getD k []) S=true:=by
 obtain⟨j,h1,t,h2,h3⟩:=Uq S h<;>grind
theorem MI:∀{l:List Rq} {b:Option ByteArray},DL b l=0->∀q∈l,q.set≠[]/\ED q.set
 | [],_,_,q,hq=>by cases hq
 |r::l,b,h,q,hq=>by
  unfold DL at h;split at h
  .rename_i e;rcases AM.1 hq with rfl | hq
   .unfold Hd at e
    grind [BE]
   .exact MI h q hq
  omega
theorem LG{l:List Rq}(h:AK l=0):∀q∈l,q.set≠[]/\ED q.set:=by
 grind [AK,MI]
abbrev gi(k:Int):Ver:=⟨0,k / 1000,k % 1000⟩
theorem HP(k:Int):place (gi k)=k:=by grind [place]
theorem Fl{k:Int}(h:0<=k/\k<1000000):Bv (gi k)=true:=by
 grind [Bv,okPart]
structure V9(D:List Sl)(p:ByteArray)(S:List Sl):Prop where
 val:Gv S
 same:∀q,q≠p->AE S q=AE D q
abbrev M9(D:List Sl)(p:ByteArray)(v:Ver):List Sl:=D++[⟨p,v⟩]
theorem Wo(a b:List Sl)(p:ByteArray):AE (a++b) p=(AE a p).or (AE b p):=by
 grind [AE]
theorem Ip{s:List Sl}(h:BP s p=false):AE s p=none:=by
 grind [Ky,AE]
theorem V9.self(h:Gv D):V9 D p D:=⟨h,fun _ _=>rfl⟩
theorem V9.ver(h:Gv D)(hv:Bv v=true):V9 D p (M9 D p v):=by
 refine⟨fun y hy=>?_,fun q hq=>?_⟩
 .rcases Bc.1 hy with hy | hy
  .exact h y hy
  simp_all
 grind [AE]
theorem JX(hp:BP D p=false)(v:Ver):AE (M9 D p v) p=some ⟨p,v⟩:=by
 grind [Wo,Ip,AE]
theorem bi(hp:BP D p=false)(hv:Bv v=true)(hv' : Bv v'=true)(e:place v=place v')(q:ByteArray)(t:Tm) :
  Dj t (AE (M9 D p v) q)=Dj t (AE (M9 D p v') q):=by
 by_cases hq:q=p
 .subst hq;rw[JX hp,JX hp];show(Bv v&&has t.set (place v))=(Bv v'&&has t.set (place v'));simp_all
 grind [AE]
theorem gg(hp:BP D p=false)(hv:Bv v=true)(hv' : Bv v'=true)(e:place v=place v')(t:List Tm):AX t (M9 D p v)=AX t (M9 D p v'):=by
 grind [Bu,bi]
theorem Lz{S':List Sl}(h:V9 D p S)(h' : V9 D p S')(ht:∀u∈t,u.path≠p):AX t S=AX t S':=by
 rw[CI,Bu,Bu];exact⟨fun k u hu=>by rw[h'.same _ (ht u hu),<-h.same _ (ht u hu)];simp_all,fun k u hu=>by rw[h.same _ (ht u hu),<-h'.same _ (ht u hu)];simp_all⟩
theorem Ku(h:DN t p=false):∀u∈t,u.path≠p:=fun u hu e=>by
 grind [DN]
theorem Ui(h:DN t p=true):∃u∈t,u.path=p:=by
 grind [DN]
theorem V6(hf:Form t)(hc:DN t p=true):∃u r,D1 t p=some (u,r)/\u.path=p/\∀v∈r,v.path≠p:=by
 obtain⟨u,hu,e⟩:=Ui hc;have hs:=E7 hf;have wG:=(GZ hs).1 hu;rw[e]at wG;refine⟨u,AH t p,?_,e,fun v hv=>?_⟩
 .unfold D1;rw[show Bj t=some t from hf];simp_all
 .have:=(Cw.1 hv).2
  simp_all
theorem Zu(yn:Form t)(qx:Form b)(hct:DN t p=true)(hcb:DN b p=true){S1 S2:List Sl}(h1:V9 D p S1)(v1:AX t S1=true)(h2:V9 D p S2)(v2:AX b S2=true) :
  (AU t b p).2=0/\∀S,V9 D p S->AX t S=true\/AX b S=true->AX (AU t b p).1 S=true:=by
 obtain⟨u,r,e1,pu,nr⟩:=V6 yn hct;obtain⟨w,m,e2,pw,nm⟩:=V6 qx hcb;have key:∀S,V9 D p S->AX t S=true\/AX b S=true->AX (r++m++[CP u w]) S=true:=fun S hS hv=>by
  have r1:AX r S=true:=by
   rw[Lz hS h1 nr];rw[(G3 h1.val e1).1,Aq]at v1;simp_all
  have m1:AX m S=true:=by
   rw[Lz hS h2 nm];rw[(G3 h2.val e2).1,Aq]at v2;simp_all
  rw[HE,HE,r1,m1]
  grind [Bu,CP,Om,G3,V9.val]
 unfold AU
 grind [Dn,V9.val]
theorem oY(hp:BP D p=false)(hf:Form t)(h0:AX t D=true)(hk:∀k:Int,0<=k->k<1000000->AX t (M9 D p (gi k))=true):DN t p=false:=by
 rw[BC];intro hc;obtain⟨u,hu,e⟩:=Ui hc;have ha:u.absent=true:=by
  have:=Bu.1 h0 u hu
  rw[e,Ip hp]at this;exact this
 have hs:∀k:Int,0<=k->k<1000000->has u.set k=true:=fun k k0 k1=>by
  grind [Bu,JX,Dj,HP]
 have hcn:ED u.set:=BL.canon (E7 hf) u hu;have uD:u.set=[(0,1000000)]:=by
  refine Fy hcn ⟨by decide,by decide,by decide,trivial⟩ fun k=>?_;rw[CI];constructor
  .intro h
   have:=OT h
   grind [has,BM]
  grind [OT]
 have yh:Fx u=true:=by grind [Fx]
 have hf2:Bj t=some t:=hf
 grind [Bj]
end Go.Eng
