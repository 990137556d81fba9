/- Lemmas 2. -/
import Derived.Test.YtkjhcikodmiceaaGreatDoorCA01
namespace Go.Eng
abbrev Ak4:=List V
abbrev Ak5:=ByteArray
abbrev Ak7:=List Rq
abbrev Ak8:=List F
abbrev Ak9:=List Sl
abbrev Am8:=List (Int×Int)
abbrev Am9:=List Nf
abbrev An0:=List (List V)
abbrev An1:=List ByteArray
variable {p:Ak5}{roots:Ak7}{d:List (Ak4)}{x:Ak8}{t:Ak4}{D:Ak9}{U:List Ak5}{B:List Int}{c o b:Ak4}{v':Ver}(m:Am8)(S r:AY)(l:Ak4)(k v j:Int)
-- right answers
theorem Yd{x:Ak8}{d:List (Ak4)}:∀{vs:List gg} {a:Bool×List Sk},(vs.foldl (Db x d) a).1=true->a.1=true/\∀v∈vs,(∃k k',DZ d v x k=(k',true))/\v.rel.yanked=false
 | [],a,h=>⟨h,fun _ h=>by cases h⟩
 |v::vs,a,h=>by
  rw[Gl]at h;obtain⟨i1,i2⟩:=Yd h<;>grind [Db]
structure AdY(x:Ak8)(roots:Ak7)(a:An)(l:Ak8):Prop where
 d0:(CT x roots a.infs).2=0
 sol0:MQ x roots a.sel l
 sol:vd x roots a.sel
 skip:∀v∈(visits x roots a.sel).1,∃k k',DZ (CT x roots a.infs).1 v x k=(k',true)
theorem mX{a:An}(h:HT x roots a=0) :
  (CT x roots a.infs).2=0/\((a.found=false/\a.sel=[]/\a.skips=[]/\G4 (CT x roots a.infs).1=true) \/
   (a.found=true/\(∃l,AdY x roots a l)/\Hc x roots a.sel=0/\(visits x roots a.sel).1.foldl (Db x (CT x roots a.infs).1) (true,a.skips)=(true,[]))):=by
 unfold HT at h;split at h
 .omega
 .rename_i h1;have h1:=BP.1 h1;refine⟨h1,?_⟩;split at h
  .simp_all
  .rename_i h2;have h2:a.found=true:=aa0
   split at h
   .cases h
   .rename_i h3;have h3:=BP.1 h3;split at h
    .rename_i h4;simp only[Ao,GU]at h4;obtain⟨l,hl⟩:=jm h3;have hf:=Yd h4.1;refine .inr ⟨h2,⟨l,h1,hl,hl.sol fun y hy r hr=>?_,fun v hv=>(hf.2 v hv).1⟩,h3,UV h4.1 h4.2⟩
     grind [WX,MQ.all,zo.mem,MQ.visits]
    omega
-- the first decision that differs
-- prefixes
theorem HU{x:Ak8}{roots:Ak7}:∀{l:Am9} {d d' : List (Ak4)},BJ x roots l d=some d'->d'.length=d.length+l.length
 | [],d,d',h=>by cases h;rfl
 |i::l,d,d',h=>by
  unfold BJ at h;split at h
  .cases h
  .have:=HU h
   grind
theorem E7{x:Ak8}{roots:Ak7}:∀(l m:Am9) (d:List (Ak4)),BJ x roots (l++m) d=match BJ x roots l d with | none=>none | some d'=>BJ x roots m d'
 | [],_,_=>rfl
 |i::l,m,d=>by
  show(match Cc x roots d i with | none=>none | some t=>BJ x roots (l++m) (d++[t]))=(match(match Cc x roots d i with | none=>none | some t=>BJ x roots l (d++[t]))with | none=>none | some d'=>BJ x roots m d');cases Cc x roots d i with
  |none=>rfl
  |some t=>exact E7 l m _
theorem Ml{x:Ak8}{roots:Ak7}:∀{l:Am9} {d d' : List (Ak4)},BJ x roots l d=some d'->d <+: d'
 | [],d,d',h=>by cases h<;>simp_all
 |i::l,d,d',h=>by
  unfold BJ at h;split at h
  .cases h
  .exact(List.prefix_append _ _).trans (Ml h)
theorem Kz{l:Am9}(h:BJ x roots l []=some d)(k:Nat):BJ x roots (l.take k) []=some (d.take k):=by
 rw[<-List.take_append_drop k l,E7]at h;cases e:BJ x roots (l.take k) []with
 |none=>simp_all
 |some f=>
  rw[e]at h;dsimp only at h;have h1:=HU e;have h2:=HU h;have h3:=Ml h
  congr 1
  simp only[A4,Bf,GV]at h1 h2;obtain⟨z,rfl⟩:=h3
  by_cases hk:k<=l.length
  .simp_all
  .rw[Ac]at h2
   have:z=[]:=AI I
   grind [List.take_of_length_le]
def Form:Prop:=CK l=some l
theorem oX{l:Ak4}:∀(l2:Ak4),BI none (l2++l)->l.foldl (fun acc t=>Pj t acc) l2=l2++l:=by
 induction l with
 |nil=>simp_all
 |cons t r ih=>
  intro l2 h;have hi:Pj t l2=l2++[t]:=by
   have:∀(m:Ak4) (lo:Option Ak5),BI lo (m++t::r)->Pj t m=m++[t]:=by
    intro m
    induction m with
    |nil=>
     intro lo hm;have hc:Ev t.set:=hm.2.1;unfold Pj;rw[show MV t=t from AcM rfl rfl (JF hc)];rfl
    |cons u m ihm=>
     grind [BI,BI.low,Pj]
   grind
  simp_all
theorem Sg{l:Ak4}(h:BI none l):Fl l=l:=by
 grind [oX,Fl]
theorem To{l:Ak4}(h:CK l=some c):Form c:=by
 grind [EI,Form,CK,Sg,List.filter_filter]
theorem Vz:Form []:=rfl
theorem Nr:Form (So l):=by
 grind [So,CK,Vz,To]
theorem OM(a b:Ak4)(p:Ak5):Form (Bc a b p).1:=by
 grind [Bc,To,Vz]
theorem d8{l:Ak4}(h:ne0 l=some o):o=l:=by grind [ne0]
theorem dG{i:Nf}(h:Cc x roots d i=some o):Form o:=by
 unfold Cc at h;split at h
 .split at h
  .rw[BH]at h;obtain⟨q,_,rfl⟩:=h;exact Nr _
  simp_all
 .split at h
  .split at h
   .split at h
    .cases h
    .split at h
     .cases h
     .rw[d8 h];exact Nr _
   simp_all
  .split at h
   .split at h
    .rw[d8 h];exact Nr _
    simp_all
   grind [OM]
theorem Ot{x:Ak8}{roots:Ak7}:∀{l:Am9} {d d' : List (Ak4)},(∀t∈d,Form t)->BJ x roots l d=some d'->∀t∈d',Form t
 | [],d,d',hd,h=>by cases h;exact hd
 |i::l,d,d',hd,h=>by
  unfold BJ at h;split at h
  .cases h
  .rename_i o ho;refine Ot (fun t ht=>?_) h
   grind [dG]
theorem Vi{l:Am9}(h:(CT x roots l).2=0):AU x=0/\Bb roots=0/\l.length<=65536/\BJ x roots l []=some (CT x roots l).1:=by
 grind [CT]
theorem Vh{l:Am9}(h1:AU x=0)(h2:Bb roots=0)(h3:l.length<=65536)(h:BJ x roots l []=some d):CT x roots l=(d,0):=by
 grind [CT]
-- tampering
def DG(l:AY):AY:=(l.map GO).filter fun x=>decide (x.1<x.2)
theorem X4{l:AY}{x:Int×Int}(h:x∈DG l):0<=x.1/\x.1<x.2/\x.2<=10^6:=by
 grind [DG,GO]
theorem mY(l:AY)(p:Int):(DG l).any (BK p)=has l p:=by
 rw[<-KQ]
 induction l<;>grind [DG,canon,PS,BV]
theorem OX:∀{l:AY} {lo:Int},Ep lo l↔(∀y∈l,lo<=y.1/\y.1<y.2/\y.2<=10^6)/\l.Pairwise fun a b=>a.2<b.1
 | [],lo=>by simp[Ep]
 |y::r,lo=>by
  rw[Dz];constructor
  .intro h;have hl:=h.low;refine⟨hl,fun z hz=>?_,((OX (l:=r)).1 h.2.2.2).2⟩
   have:=h.2.2.2.low z hz;omega
  .intro⟨h1,h2,h3⟩;have hy:=h1 y (Ad ..);refine⟨hy.1,hy.2.1,hy.2.2,OX.2 ⟨fun z hz=>?_,h3⟩⟩
   grind
def JU(x:Int×Int):AY:=match r with
 | []=>[x]
 |y::t=>if x.1<=y.2 then(y.1,max y.2 x.2)::t else x::y::t
def Bz(s:AY):AY:=s.foldl JU []
theorem Fg(s:AY)(i:Nat)(h:i<s.length):Bz (s.take (i+1))=JU (Bz (s.take i)) s[i]:=by
 grind [Bz,List.take_add_one]
theorem pq(x:Int×Int):(JU r x).length<=r.length+1/\r.length<=(JU r x).length/\0<(JU r x).length:=by
 unfold JU
 grind
theorem Pq(s:AY):∀i,i<=s.length->(Bz (s.take i)).length<=i/\(0<i->0<(Bz (s.take i)).length):=by
 intro i
 induction i<;>grind [Bz,Fg,pq]
structure mE(r done:AY):Prop where
 ok:∀y∈r,0<=y.1/\y.1<y.2/\y.2<=10^6
 pw:r.Pairwise fun a b=>b.2<a.1
 has:∀p,r.any (BK p)=done.any (BK p)
 first:∀y t,r=y::t->∃x∈done,y.1=x.1
theorem pp{r done:AY}{x:Int×Int}(h:mE r done)(hx:0<=x.1/\x.1<x.2/\x.2<=10^6)(hs:∀y∈done,y.1<=x.1):mE (JU r x) (done++[x]):=by
 unfold JU;split
 .refine⟨fun y hy=>?_,by simp,fun p=>?_,fun y t e=>?_⟩
  all_goals grind [mE.has]
 .rename_i y t;have hy:=h.ok y (Ad ..);obtain⟨pw1,pw2⟩:=Dz.1 h.pw;obtain⟨z,hz,e⟩:=h.first y t rfl
  have hyx:=hs z hz;split
  .rename_i Jo;refine⟨fun u hu=>?_,Dz.2 ⟨pw1,pw2⟩,fun p=>?_,fun u t' e'=>?_⟩
   .rcases AJ.1 hu with rfl | hu
    .omega
    .exact h.ok u (Aj _ hu)
   .rw[List.any_append,<-h.has,Eu,Eu,Eu,List.any_nil,Bool.or_false]
    grind [BK]
   grind
  .rename_i Jo;refine⟨fun u hu=>?_,Dz.2 ⟨fun u hu=>?_,h.pw⟩,fun p=>?_,fun u t' e'=>?_⟩
   .rcases AJ.1 hu with rfl | hu
    .exact hx
    .exact h.ok u hu
   all_goals grind [mE.has]
theorem iH{s:AY}(EZ:∀y∈s,0<=y.1/\y.1<y.2/\y.2<=10^6)(hs:s.Pairwise fun a b=>a.1<=b.1):∀i,i<=s.length->mE (Bz (s.take i)) (s.take i):=by
 intro i
 induction i with
 |zero=>intro _;exact⟨fun _ h=>by grind [Bz],by simp[Bz],fun p=>by simp[Bz],fun y t e=>by grind [Bz]⟩
 |succ i ih=>
  grind [Fg,List.take_add_one,pp,List.mem_iff_getElem,List.pairwise_iff_getElem]
theorem Mk{l s:AY}(hp:s.Perm (DG l))(hs:s.Pairwise fun a b=>a.1<=b.1):(Bz s).reverse=canon l:=by
 have hi:=iH (s:=s) (fun y hy=>X4 (hp.mem_iff.1 hy)) hs s.length (Af _);rw[IV]at hi;have hc:Ev (Bz s).reverse:=by
  unfold Ev;rw[OX];refine⟨fun y hy=>hi.ok y (List.mem_reverse.1 hy),?_⟩
  grind [mE.pw]
 refine U9 hc fun p=>?_;rw[H3 hc,List.any_reverse,hi.has,<-mY]
 grind
-- maps from numbers to numbers,as lists in the order in which they are met
def Fw:Int:=match m.find? (fun p=>decide (p.1=k))with | some p=>p.2 | none=>0
def L8:Am8:=if m.any (fun p=>decide (p.1=k))then m.map (fun p=>if p.1=k then(k,v)else p)else m++[(k,v)]
theorem Ob(p:Int×Int)(m:Am8)(k:Int):Fw (p::m) k=if p.1=k then p.2 else Fw m k:=by
 grind [Fw]
theorem Rm:Fw (L8 m k v) j=if j=k then v else Fw m j:=by
 unfold L8;split
 .rename_i h
  induction m with
  |nil=>simp_all
  |cons p m ih=>
   rw[A7,Ob,Ob]
   by_cases e:p.1=k
   .rw[AO e];dsimp only
    by_cases ej:j=k
    .omega
    .rw[AB (fun c=>ej c.symm),AB ej,AB (fun c=>ej (c.symm.trans e))]
     by_cases hm:(m.any fun p=>decide (p.1=k))=true
     .simp_all
     .have:∀q∈m,q.1≠k:=fun q hq e=>hm (Cs.2 ⟨q,hq,by simp[e]⟩)
      have:m.map (fun p=>if p.1=k then(k,v)else p)=m:=by
       conv=>rhs;rw[<-Kc m]
       grind [List.map_congr_left]
      simp_all
   grind
 .rename_i h;have hn:∀q∈m,q.1≠k:=fun q hq e=>h (Cs.2 ⟨q,hq,by simp[e]⟩)
  induction m<;>grind [Ob]
def E0:List Int:=m.map (·.1)
theorem Yt:E0 (L8 m k v)=if k∈E0 m then E0 m else E0 m++[k]:=by
 grind [L8,E0,List.map_congr_left]
theorem Nh{m:Am8}(h:(E0 m).Nodup)(k v:Int):(E0 (L8 m k v)).Nodup:=by
 grind [Yt]
theorem K6:j∈E0 (L8 m k v)↔j=k\/j∈E0 m:=by
 grind [Yt]
theorem uA{m:Am8}(h:(E0 m).Nodup){p:Int×Int}(hp:p∈m):Fw m p.1=p.2:=by
 induction m<;>grind [Ob,E0]
theorem uC{m:Am8}{k:Int}(h:k∉E0 m):Fw m k=0:=by
 unfold Fw
 have:m.find? (fun p=>decide (p.1=k))=none:=by
  rw[PN];intro p hp;simp only[AP];exact fun e=>h (Ap.2 ⟨p,hp,e⟩)
 grind
-- counting
def cF:Nat:=S.countP fun x=>decide (x.1=k)
def cT:Nat:=S.countP fun x=>decide (x.2=k)
def lF:Nat:=S.countP fun x=>decide (x.1<=k)
def lT:Nat:=S.countP fun x=>decide (x.2<=k)
theorem Ji{α:Type}{p q r:α->Bool}:∀{l:List α},(∀x∈l,(p x=true↔q x=true\/r x=true)/\¬(q x=true/\r x=true))->l.countP p=l.countP q+l.countP r
 | [],_=>rfl
 |x::l,h=>by
  have ih:=Ji fun y hy=>h y (Aj _ hy)
  grind
structure FQ(m:Am8)(S:AY):Prop where
 nd:(E0 m).Nodup
 val:∀k,Fw m k=(cF S k:Int)-cT S k
 keys:0∈E0 m/\1000000∈E0 m/\∀x∈S,x.1∈E0 m/\x.2∈E0 m
 rng:∀k∈E0 m,0<=k/\k<=10^6
def ch0:Am8:=[(0,0),(1000000,0)]
theorem vZ:FQ ch0 []:=⟨by decide,fun k=>by
  grind [ch0,Fw,cF,cT],⟨by decide,by decide,fun _ h=>by cases h⟩,fun k hk=>by
  grind [ch0,E0]⟩
def fM(x:Int×Int):Am8:=L8 (L8 m x.1 (Fw m x.1+1)) x.2 (Fw (L8 m x.1 (Fw m x.1+1)) x.2-1)
theorem po{m:Am8}{S:AY}{x:Int×Int}(h:FQ m S)(hx:0<=x.1/\x.1<x.2/\x.2<=10^6):FQ (fM m x) (S++[x]):=by
 unfold fM;refine⟨Nh (Nh h.nd _ _) _ _,fun k=>?_,⟨?_,?_,fun y hy=>?_⟩,fun k hk=>?_⟩
 .rw[Rm,Rm,Rm,h.val,h.val,h.val];unfold cF cT;simp only[List.countP_append,List.countP_singleton,AP]
  grind
 .grind [K6,FQ.keys]
 .grind [K6,FQ.keys]
 .grind [K6,FQ.keys]
 .rw[K6,K6]at hk;rcases hk with rfl | rfl | hk
  .omega
  .omega
  .exact h.rng k hk
def I6(B:List Int):Int:=(B.map (Fw m)).foldl (·+·) 0
theorem SQ(B:List Int)(i:Nat)(h:i<B.length):I6 m (B.take (i+1))=I6 m (B.take i)+Fw m B[i]:=by
 grind [I6,List.take_add_one]
structure vB(B:List Int)(m:Am8):Prop where
 perm:B.Perm (E0 m)
 srt:B.Pairwise fun a b=>a<b
theorem ma{m:Am8}{S:AY}(h:FQ m S)(hB:vB B m):∀i (hi:i<B.length),I6 m (B.take (i+1))=(lF S B[i]:Int)-lT S B[i]:=by
 have mem:∀k,k∈E0 m->∃j,∃hj:j<B.length,B[j]=k:=fun k hk=>by
  have:=hB.perm.mem_iff.2 hk
  grind [List.mem_iff_getElem]
 have lt:∀i j (hi:i<B.length) (hj:j<B.length),i<j->B[i]<B[j]:=fun i j hi hj gi=>(Cn.1 hB.srt) i j hi hj gi;intro i
 induction i with
 |zero=>
  intro hi;rw[SQ m B 0 hi,h.val]
  have:I6 m (B.take 0)=0:=by simp[I6]
  rw[this];have low:∀k∈E0 m,B[0]<=k:=fun k hk=>by
   grind
  have e1:lF S B[0]=cF S B[0]:=by
   grind [lF,cF,List.countP_congr,FQ.keys]
  grind [lT,cT,List.countP_congr,FQ.keys]
 |succ i ih=>
  intro hi;rw[SQ m B (i+1) hi,ih I,h.val];have nb:∀k∈E0 m,k<=B[i+1]↔k<=B[i]\/k=B[i+1]:=fun k hk=>by
   grind
  have l0:=lt i (i+1) I hi I;have e1:lF S B[i+1]=lF S B[i]+cF S B[i+1]:=by
   unfold lF cF;apply Ji
   grind [FQ.keys]
  have e2:lT S B[i+1]=lT S B[i]+cT S B[i+1]:=by
   unfold lT cT;apply Ji
   grind [FQ.keys]
  omega
theorem cG{S:AY}(hS:∀x∈S,x.1<x.2)(p:Int):(lF S p:Int)-lT S p=(S.countP (BK p):Nat):=by
 have:lF S p=S.countP (BK p)+lT S p:=by
  unfold lF lT
  grind [Ji,BK]
 omega
theorem Qg:∀{l:AY} {lo:Int} (p:Int),Ep lo l->l.countP (BK p)=if l.any (BK p)then 1 else 0
 | [],_,_,_=>rfl
 |y::r,lo,p,⟨h1,h2,h3,h4⟩=>by
  rw[List.countP_cons,Qg p h4,Eu];cases hy:BK p y with
  |false=>grind
  |true=>
   have:=D5.1 hy
   have:r.any (BK p)=false:=by
    rw[Bg];intro hr;have:=PU h4 hr;omega
   simp_all
theorem MZ:∀(l:List AY) (p:Int),((l.map canon).flatten).countP (BK p)=qB l p
 | [],_=>rfl
 |s::l,p=>by
  rw[A7,BQ,List.countP_append,MZ l p,Qg p (BV s),KQ]
  grind [qB]
def Eh(keep:Nat->Bool)(m:Am8)(B:List Int):Nat->AY
 |0=>[]
 |i+1=>Eh keep m B i++(match B[i]?,B[i+1]? with
  |some a,some b=>if keep (I6 m (B.take (i+1))).toNat then [(a,b)]else []
  |_,_=>[])
theorem Sb{keep:Nat->Bool}{m:Am8}{B:List Int}{x:Int×Int}:∀{n:Nat},x∈Eh keep m B n↔∃i,i<n/\∃(h1:i<B.length) (h2:i+1<B.length),keep (I6 m (B.take (i+1))).toNat=true/\x=(B[i],B[i+1])
 |0=>by simp[Eh]
 |n+1=>by
  unfold Eh;rw[Bh,Sb (n:=n)]
  grind
theorem PZ{B:List Int}(hs:B.Pairwise fun a b=>a<b){p:Int}:∀(n:Nat) (h0:0<B.length) (hn:n<B.length),B[0]<=p->p<B[n]->∃i,∃(h1:i<B.length) (h2:i+1<B.length),B[i]<=p/\p<B[i+1]
 |0,h0,hn,h1,h2=>by omega
 |n+1,h0,hn,h1,h2=>by
  by_cases e:B[n]<=p
  .grind
  .exact PZ hs n h0 I h1 I
theorem r6{keep:Nat->Bool}{l:List AY}{m:Am8}(h:FQ m (l.map canon).flatten)(hB:vB B m)(p:Int):has (Eh keep m B (B.length-1)) p=(Uk p&&keep (qB l p)):=by
 have hS:∀x∈(l.map canon).flatten,x.1<x.2:=fun x hx=>by
  obtain⟨s,hs,hx⟩:=GW.1 hx;obtain⟨t,_,rfl⟩:=Ap.1 hs;exact((BV t).low x hx).2.1
 have mem:∀k,k∈E0 m->∃j,∃hj:j<B.length,B[j]=k:=fun k hk=>by
  obtain⟨j,hj,e⟩:=Fc.1 (hB.perm.mem_iff.2 hk)<;>grind [List.mem_iff_getElem]
 have lt:∀i j (hi:i<B.length) (hj:j<B.length),i<j->B[i]<B[j]:=fun i j hi hj gi=>(Cn.1 hB.srt) i j hi hj gi;have rng:∀i (hi:i<B.length),0<=B[i]/\B[i]<=10^6:=fun i hi=>h.rng _ (hB.perm.mem_iff.1 (Am hi))
 -- vO two bounds
 have vO:∀i (h1:i<B.length) (h2:i+1<B.length),B[i]<=p->p<B[i+1]->(I6 m (B.take (i+1))).toNat=qB l p:=fun i h1 h2 a b=>by
  have same:∀k∈E0 m,k<=B[i]↔k<=p:=fun k hk=>by
   grind
  have e1:lF (l.map canon).flatten B[i]=lF (l.map canon).flatten p:=by
   grind [lF,List.countP_congr,FQ.keys]
  grind [lT,List.countP_congr,ma,cG,MZ,FQ.keys]
 rw[DD];constructor
 .grind [has,Sb,D5,Uk]
 .intro hh;simp only[Ao,Uk,AP]at hh;obtain⟨⟨p0,p1⟩,hk⟩:=hh;obtain⟨j0,hj0,e0⟩:=mem 0 h.keys.1;obtain⟨j1,hj1,e1⟩:=mem 1000000 h.keys.2.1;have OA:B[0]' I<=p:=by
   grind
  obtain⟨i,h1,h2,a,b⟩:=PZ hB.srt j1 I hj1 OA I;unfold has;simp only[p0,p1,decide_true,Bool.true_and];exact Cs.2 ⟨(B[i],B[i+1]),Sb.2 ⟨i,by omega,h1,h2,by simp_all,rfl⟩,D5.2 ⟨a,b⟩⟩
theorem uk{l:List AY}{m:Am8}(h:FQ m (l.map canon).flatten)(hB:vB B m)(i:Nat)(hi:i<B.length):0<=I6 m (B.take (i+1))/\I6 m (B.take (i+1))<=l.length:=by
 have hS:∀x∈(l.map canon).flatten,x.1<x.2:=fun x hx=>by
  obtain⟨s,hs,hx⟩:=GW.1 hx;obtain⟨t,_,rfl⟩:=Ap.1 hs;exact((BV t).low x hx).2.1
 rw[ma h hB i hi,cG hS,MZ]
 grind [qB]
def be(m:Ak4)(t:V):Ak4:=if m.any (fun u=>decide (u.path=t.path))then m.map (fun u=>if u.path=t.path then t else u)else m++[t]
def stepT(m:Ak4)(t:V):Ak4:=be m (Ul (Di m t.path) t)
def Df:Ak4:=l.foldl stepT []
theorem nj(t:V)(p:Ak5):∀m:Ak4,Di (be m t) p=if t.path=p then some t else Di m p:=by
 intro m;unfold be
 by_cases h:(m.any fun u=>decide (u.path=t.path))=true
 .rw[AO h]
  induction m with
  |nil=>simp_all
  |cons u m ih=>
   rw[A7,Es,Es]
   by_cases e:u.path=t.path
   .rw[AO e]
    by_cases ep:t.path=p
    .simp_all
    .rw[AB ep,AB ep,AB (fun c=>ep (e.symm.trans c))]
     by_cases hm:(m.any fun u=>decide (u.path=t.path))=true
     .simp_all
     .have:∀q∈m,q.path≠t.path:=fun q hq c=>hm (Cs.2 ⟨q,hq,by simp[c]⟩)
      have:m.map (fun u=>if u.path=t.path then t else u)=m:=by
       conv=>rhs;rw[<-Kc m]
       grind [List.map_congr_left]
      simp_all
   grind
 .rw[AB h];have hn:∀q∈m,q.path≠t.path:=fun q hq e=>h (Cs.2 ⟨q,hq,by simp[e]⟩)
  clear h
  induction m<;>grind [Es]
def EE(m:Ak4):List Ak5:=m.map (·.path)
open Classical in
theorem iU(m:Ak4)(t:V):EE (be m t)=if t.path∈EE m then EE m else EE m++[t.path]:=by
 grind [be,EE,List.map_congr_left]
theorem oy{m:Ak4}(h:(EE m).Nodup)(t:V):(EE (be m t)).Nodup:=by
 grind [iU]
theorem TS(i:Nat)(h:i<l.length):Df (l.take (i+1))=stepT (Df (l.take i)) l[i]:=by
 grind [Df,List.take_add_one]
theorem Qs:∀(l m:Ak4),(EE m).Nodup->(EE (l.foldl stepT m)).Nodup
 | [],_,h=>h
 |_::l,_,h=>Qs l _ (oy h _)
theorem H6:(EE (Df l)).Nodup:=Qs l [] .nil
theorem cW(m:Ak4)(t:V)(p:Ak5):Di (stepT m t) p=Kv p (Di m p) t:=by
 grind [stepT,Kv,Sw,LO,nj]
theorem Qp(p:Ak5):∀(l m:Ak4),Di (l.foldl stepT m) p=l.foldl (Kv p) (Di m p)
 | [],_=>rfl
 |t::l,m=>by rw[Gl,Gl,Qp p l,cW]
theorem hJ(p:Ak5):Di (Df l) p=Di (Fl l) p:=by
 unfold Df;rw[Qp,Jl];rfl
theorem TE{m:Ak4}(h:(EE m).Nodup){t:V}:t∈m↔Di m t.path=some t:=by
 constructor
 .induction m<;>grind [EE,Es]
 .exact GI
theorem No{m:Ak4}(h:(EE m).Nodup):m.Nodup:=by
 unfold EE at h
 induction m<;>grind
theorem Ih{l:Ak4}{lo:Option Ak5}(h:BI lo l):(EE l).Nodup:=by
 unfold EE
 induction l generalizing lo with
 |nil=>simp_all
 |cons t l ih=>
  rw[A7,Gm];refine⟨fun hm=>?_,ih h.2.2⟩;obtain⟨u,hu,e⟩:=Ap.1 hm
  have:=h.2.2.low u hu
  grind [CY]
theorem Ju(t:V):t∈Df l↔t∈Fl l:=by
 grind [TE,H6,hJ,Ih,Ed]
theorem QI:∀t∈Df l,Ev t.set:=fun t ht=>(Ed l).canon t ((Ju l t).1 ht)
theorem pt(m:Ak4)(t:V):(stepT m t).length<=m.length+1:=by
 grind [stepT,be]
theorem Pp:∀i,i<=l.length->(Df (l.take i)).length<=i:=by
 intro i
 induction i<;>grind [Df,TS,pt]
theorem jn{s:Ak4}(hs:s.Pairwise fun x y=>E3 x.path y.path=true)(hc:∀t∈s,Ev t.set):BI none s:=by
 have:∀(s:Ak4) (lo:Option Ak5),s.Pairwise (fun x y=>E3 x.path y.path=true)->(∀t∈s,Ev t.set)->(∀p,lo=some p->∀t∈s,E3 p t.path=true)->BI lo s:=by
  intro s
  induction s with
  |nil=>intro _ _ _ _;trivial
  |cons t s ih=>
   intro lo hs hc hl;obtain⟨h1,h2⟩:=Dz.1 hs;exact⟨fun p e=>hl p e t (Ad ..),hc t (Ad ..),ih _ h2 (fun u hu=>hc u (Aj _ hu)) fun p e u hu=>by simp_all⟩
 simp_all
theorem RH{l s:Ak4}(q:V->Bool)(hp:s.Perm ((Df l).filter q))(hs:s.Pairwise fun x y=>E3 y.path x.path=false):s=(Fl l).filter q:=by
 have hm:∀t,t∈s↔t∈(Fl l).filter q:=fun t=>by
  grind [Ju]
 have VN:(EE s).Nodup:=by
  grind [EE,H6]
 have Jp:s.Pairwise fun x y=>E3 x.path y.path=true:=by
  grind [List.pairwise_iff_getElem,Iz,EE]
 have hss:BI none s:=jn Jp fun t ht=>(Ed l).canon t (C3.1 ((hm t).1 ht)).1;have hsm:BI none ((Fl l).filter q):=BI.filter q (Ed l)
 grind [NE,Di,Gy]
theorem gK(t:V):GZ t t=MV t:=by grind [GZ,MV,iA]
theorem lJ(o:Option V)(t:V):Ul o t=GZ (o.getD t) t:=by cases o with | none=>exact(gK t).symm | some u=>rfl
theorem mK{t:V}(h:Ev t.set):(t.absent&&(EJ t.set).isEmpty)=G6 t:=by
 unfold G6
 congr 1
 rw[DD,GU,AP];have ha:Ev [(0,1000000)]:=⟨B6 _,by omega,B6 _,trivial⟩;constructor
 .intro e;refine HR h ha fun p=>?_
  have:=FZ t.set p
  grind [has,Uk,BK]
 grind [Sm,Hm,FZ,has,BK]
theorem sC{t:V}(h:Ev t.set):(!t.absent&&(canon t.set).isEmpty)=I2 t:=by grind [I2,JF]
theorem YD{α:Type}:∀{l m:List α},l.Nodup->(∀x∈l,x∈m)->l.length<=m.length
 | [],_,_,_=>Ai _
 |a::l,m,hn,hs=>by
  obtain⟨h1,h2⟩:=Gm.1 hn;obtain⟨s,t,rfl⟩:=List.append_of_mem (hs a (Ad ..))
  have:l.length<=(s++t).length:=YD h2 fun x hx=>by
   grind
  grind
theorem Mm(p:Ak5):∀(l:Ak4) (o:Option V),(∀u∈l,u.path≠p)->l.foldl (Kv p) o=o
 | [],_,_=>rfl
 |t::l,o,h=>by
  rw[Gl,show Kv p o t=o by grind [Kv]];exact Mm p l o fun u hu=>h u (Aj _ hu)
theorem iI{l:Ak4}{t:V}(h:t∈Fl l):∃u∈l,u.path=t.path:=by
 grind [Gy,Ed,Jl,Mm]
def Ub(U:List Ak5)(t:Ak4):Prop:=BI none t/\∀u∈t,u.path∈U
theorem Ub.len(h:Ub U t):t.length<=U.length:=by
 have:=YD (Ih h.1) (m:=U) fun p hp=>by
  obtain⟨u,hu,rfl⟩:=Ap.1 hp;exact h.2 u hu
 grind [EE]
theorem gL{l:Ak4}(h:CK l=some c){t:V}(ht:t∈c):t∈Fl l:=by
 grind [CK]
theorem RG{l:Ak4}(h:CK l=some c)(hu:∀u∈l,u.path∈U):Ub U c:=
 ⟨EI h,fun t ht=>by
  obtain⟨u,h1,h2⟩:=iI (gL h ht)<;>grind⟩
theorem Ub.nil(U:List Ak5):Ub U []:=⟨trivial,fun u hu=>by cases hu⟩
theorem Wj{l:Ak4}(hu:∀u∈l,u.path∈U):Ub U (So l):=by
 grind [So,CK,RG,Ub.nil]
theorem T1{a:Ak4}(ha:Ub U a)(hb:Ub U b):Ub U (Bc a b p).1:=by
 have sp:∀{l r:Ak4} {t:V},Ub U l->Fo l p=some (t,r)->t.path∈U/\∀u∈r,u.path∈U:=by
  intro l r t hl h;unfold Fo at h;cases e:CK l with
  |none=>simp_all
  |some c=>
   rw[e]at h;have h:(match Di c p with | none=>none | some t=>some (t,FY c p))=some (t,r):=h;have hc:=RG e hl.2;cases e2:Di c p with
   |none=>simp_all
   |some u=>
    rw[e2]at h;cases h;exact⟨hc.2 _ (GI e2),fun u hu=>hc.2 u (C3.1 hu).1⟩
 unfold Bc;split
 .rename_i t r u m e1 e2;obtain⟨a1,a2⟩:=sp ha e1;obtain⟨b1,b2⟩:=sp hb e2;split
  .rename_i o e3;refine RG e3 fun v hv=>?_;rcases Bh.1 hv with hv | hv
   .grind
   .rw[AA.1 hv];exact a1
  .exact .nil U
 .exact .nil U
def H8(x:Ak8)(roots:Ak7)(l:Am9):List Ak5:=(x.map (·.path))++((x.map (·.reqs)).flatten.map (·.path)++(roots.map (·.path)++l.map (·.path)))
theorem RY{l:Am9}{i:Nf}(hi:i∈l)(hd:∀t∈d,Ub (H8 x roots l) t)(h:Cc x roots d i=some t):Ub (H8 x roots l) t:=by
 have hp:i.path∈H8 x roots l:=by
  grind [H8]
 have nz:∀{α:Type} {l:List α} {k:Int} {a:α},E5 l k=some a->a∈l:=by
  grind [E5]
 have n0:∀{a b:Ak4},ne0 a=some b->b=a:=by
  grind [ne0]
 unfold Cc at h;split at h
 .split at h
  .cases e:E5 roots i.number with
   |none=>simp_all
   |some q=>
    rw[e]at h;cases h;refine Wj fun u hu=>?_;rw[AA.1 hu];unfold H8;exact BZ _ (BZ _ (Bq _ (Ap.2 ⟨q,nz e,rfl⟩)))
  simp_all
 split at h
 .split at h
  .cases e:FC x i.path i.place with
   |none=>simp_all
   |some r=>
    rw[e]at h;have h:(match E5 r.reqs i.number with | none=>none | some q=>ne0 (Dc i.path i.place q))=some t:=h;cases e2:E5 r.reqs i.number with
    |none=>simp_all
    |some q=>
     rw[e2]at h;have h:=n0 (show ne0 (Dc i.path i.place q)=some t from h);subst h;refine Wj fun u hu=>?_;rcases AJ.1 hu with rfl | hu
     .exact hp
     .rw[AA.1 hu];unfold H8;refine BZ _ (Bq _ (Ap.2 ⟨q,?_,rfl⟩));exact GW.2 ⟨r.reqs,Ap.2 ⟨r,BX e,rfl⟩,nz e2⟩
  simp_all
 split at h
 .split at h
  .have h:=n0 h;subst h;refine Wj fun u hu=>?_;simp_all
  simp_all
 grind [T1]
structure Cd where
 place:Int
 rel:F
structure Nd where
 rq:Rq
 path:Ak5
 place:Int
 number:Int
variable (n:Nd)
structure SS where
 infs:Am9
 drv:List (Ak4)
 full:Bool
variable {s':SS}(s:SS)
abbrev Sc(c:Cd):Sl:=⟨c.rel.path,c.rel.ver⟩
abbrev AM(l:List Cd):Ak9:=l.map Sc
def Bl(x:Ak8)(p:Ak5):List Cd:=(x.filter fun r=>decide (r.path=p)&&!r.yanked).map fun r=>⟨plc r.ver,r⟩
def Np(f:Rq->Nat->Nd):Nat->Ak7->List Nd
 |_,[]=>[]
 |i,q::l=>f q i::Np f (i+1) l
def fC(roots:Ak7):List Nd:=Np (fun q i=>⟨q,mt,0,i⟩) 0 roots
def Sz(c:Cd):List Nd:=Np (fun q i=>⟨q,c.rel.path,c.place,i⟩) 0 c.rel.reqs
def CZ(roots:Ak7)(dec:List Cd):List Nd:=fC roots++(dec.map Sz).flatten
def Dg(dec:List Cd)(p:Ak5):Bool:=dec.any fun c=>decide (c.rel.path=p)
def D7(dec:List Cd)(a:Ak5×List Nd)(n:Nd):Ak5×List Nd:=
 if Dg dec n.rq.path=true\/(a.2≠[]/\E3 a.1 n.rq.path=true)then a
 else if a.2≠[]/\E3 n.rq.path a.1=true then(n.rq.path,[n])else(n.rq.path,a.2++[n])
def EA(roots:Ak7)(dec:List Cd):Ak5×List Nd:=(CZ roots dec).foldl (D7 dec) (mt,[])
def li(l:List Cd)(n:Nd):Bool:=l.any fun d=>decide (d.rel.path=n.rq.path)&&!has n.rq.set d.place
def DM(dec:List Cd)(c:Cd):Option Nd:=(Sz c).find? (li (dec++[c]))
def Qk(s:Ak9):Nat->List (Ak4)->Option Nat
 |_,[]=>none
 |i,t::l=>if BW t s then some i else Qk s (i+1) l
def OZ(d:List (Ak4))(s:Ak9):Option Nat:=Qk s 0 d
def Dq(p:Ak5):Bool:=l.any fun t=>decide (t.path=p)
instance:DecidableEq Nf:=fun a b=>by
 obtain⟨a1,a2,a3,a4,a5,a6⟩:=a;obtain⟨b1,b2,b3,b4,b5,b6⟩:=b;exact decidable_of_iff (a1=b1/\a2=b2/\a3=b3/\a4=b4/\a5=b5/\a6=b6) ⟨fun⟨h1,h2,h3,h4,h5,h6⟩=>by simp_all,fun h=>by simp_all⟩
def MG(i:Nf):Nat->Am9->Option Nat
 |_,[]=>none
 |k,j::l=>if j=i then some k else MG i (k+1) l
def DT(i:Nf)(l:Ak4):Nat×SS:=
 match MG i 0 s.infs with
 |some k=>(k,s)
 |none=>if 65536<=s.infs.length then(s.infs.length-1,⟨s.infs,s.drv,true⟩)else(s.infs.length,⟨s.infs++[i],s.drv++[l],s.full⟩)
def QD:Nf:=if n.path=mt then⟨0,mt,0,n.number,0,0⟩else⟨1,n.path,n.place,n.number,0,0⟩
def It:Ak4:=if n.path=mt then Ib n.rq else Dc n.path n.place n.rq
def Bx(n:Nd):Nat×SS:=DT s (QD n) (It n)
abbrev D2(k:Nat):Ak4:=s.drv.getD k []
def BT(p:Ak5):List Nat->Nat->SS->Nat×SS
 | [],k,s=>(k,s)
 |r::l,k,s=>
  if s.full=true\/Dq (D2 s k) p=false then(k,s)
  else if r=k then BT p l k s
  else if(Bc (D2 s k) (D2 s r) p).2≠0 then BT p l k s
  else BT p l (DT s ⟨3,p,0,0,k,r⟩ (Bc (D2 s k) (D2 s r) p).1).1 (DT s ⟨3,p,0,0,k,r⟩ (Bc (D2 s k) (D2 s r) p).1).2
def En(x:Ak8)(p:Ak5)(s:SS):Nat×SS:=DT s ⟨2,p,0,0,0,0⟩ (FK p (BA x p))
def Dm(x:Ak8)(p:Ak5)(n:Nd)(reasons:List Nat)(s:SS):Nat×SS:=
 BT p ((En x p (Bx s n).2).1::reasons) (Bx s n).1 (En x p (Bx s n).2).2
structure JB where
 res:Nat
 found:Bool
 ss:SS
 dec:List Cd
 stack:List (List Sk)
def Dx(rec:List Cd->SS->List (List Sk)->JB)(x:Ak8)(p:Ak5)(needs:List Nd)(n0:Nd)(dec:List Cd)(stack:List (List Sk)):List Cd->SS->List Nat->List Sk->JB
 | [],s,reasons,_=>⟨(Dm x p n0 reasons s).1,false,(Dm x p n0 reasons s).2,dec,stack⟩
 |c::cs,s,reasons,skips=>
  let after (k:Nat) (s:SS):JB:=if Dq (D2 s k) p=false then⟨k,false,s,dec,stack⟩else Dx rec x p needs n0 dec stack cs s (reasons++[k]) (skips++[⟨p,c.place,k⟩])
  if s.full=true then⟨0,false,s,dec,stack⟩
  else match needs.find? fun n=>!has n.rq.set c.place with
   |some n=>Dx rec x p needs n0 dec stack cs (Bx s n).2 (reasons++[(Bx s n).1]) skips
   |none=>match OZ s.drv (AM (dec++[c]))with
    |some k=>after k s
    |none=>match DM dec c with
     |some n=>after (Bx s n).1 (Bx s n).2
     |none=>
      let o:=rec (dec++[c]) s (stack++[skips])
      if o.found=true then⟨0,true,o.ss,o.dec,o.stack⟩
      else if o.ss.full=true then⟨0,false,o.ss,dec,stack⟩
      else after o.res o.ss
def Cw(x:Ak8)(roots:Ak7):Nat->List Cd->SS->List (List Sk)->JB
 |0,dec,s,stack=>⟨0,false,s,dec,stack⟩
 |n+1,dec,s,stack=>match(EA roots dec).2 with
  | []=>⟨0,true,s,dec,stack⟩
  |n0::l=>Dx (Cw x roots n) x (EA roots dec).1 (n0::l) n0 dec stack (Bl x (EA roots dec).1) s [] []
abbrev ss0:SS:=⟨[],[],false⟩
def FJ(x:Ak8)(dec:List Cd):Nat:=(x.filter fun r=>!r.yanked&&!Dg dec r.path).length
def ET(x:Ak8)(roots:Ak7):JB:=Cw x roots (x.length+1) [] ss0 []
theorem QP(f:Rq->Nat->Nd):∀(l:Ak7) (i k:Nat),(Np f i l)[k]?=(l[k]?).map fun q=>f q (i+k)
 | [],i,k=>by simp[Np]
 |q::l,i,0=>by simp[Np]
 |q::l,i,k+1=>by
  have h:=QP f l (i+1) k
  grind [Np]
theorem Nq(f:Rq->Nat->Nd):∀(l:Ak7) (i:Nat),(Np f i l).length=l.length
 | [],_=>rfl
 |_::l,i=>by simp[Np,Nq f l (i+1)]
theorem QQ{f:Rq->Nat->Nd}{l:Ak7}{n:Nd}(h:n∈Np f 0 l):∃k q,l[k]?=some q/\n=f q k:=by
 grind [List.mem_iff_getElem?,QP]
theorem UF{f:Rq->Nat->Nd}(hf:∀q i,(f q i).rq=q):∀(l:Ak7) (i:Nat),(Np f i l).map (·.rq)=l
 | [],_=>rfl
 |q::l,i=>by simp[Np,hf,UF hf l (i+1)]
abbrev Gf(roots:Ak7)(dec:List Cd):Ak7:=roots++(dec.map fun c=>c.rel.reqs).flatten
theorem Jv(roots:Ak7)(dec:List Cd):(CZ roots dec).map (·.rq)=Gf roots dec:=by
 unfold CZ fC;rw[Au,UF (fun _ _=>rfl),List.map_flatten,Bo]
 congr 2
 exact Ca fun c _=>UF (fun _ _=>rfl) _ _
theorem Gu(dec:List Cd)(p:Ak5):Cb (AM dec) p=Dg dec p:=by
 grind [Cb,Dg,List.any_map]
theorem JP(before:Ak9):∀{l:Ak7} {a p:Ak5},CD before l (some a)=some p->p=a\/E3 p a=true
 | [],a,p,h=>by cases h<;>simp_all
 |q::l,a,p,h=>by
  unfold CD at h;split at h
  .exact JP before h
  .dsimp only at h;split at h
   .rename_i hb;rcases JP before h with e | e<;>grind [D3]
   .exact JP before h
theorem IP(before:Ak9):∀{l:Ak7} {a:Ak5},CD before l (some a)≠none
 | [],a=>by simp[CD]
 |q::l,a=>by
  unfold CD;split
  .exact IP before
  .dsimp only;split<;>exact IP before
theorem N2(dec:List Cd):∀(L:List Nd) (a:Ak5×List Nd),(a.2≠[]->Dg dec a.1=false) ->
  L.foldl (D7 dec) a=match CD (AM dec) (L.map (·.rq)) (if a.2=[]then none else some a.1)with
   |none=>a
   |some p=>(p,(if a.2≠[]/\a.1=p then a.2 else [])++L.filter fun n=>decide (n.rq.path=p))
 | [],a,h=>by
  grind [CD]
 |n::L,a,h=>by
  obtain⟨p0,o⟩:=a;rw[Gl,A7];have Anm:∀(acc:Option Ak5) (l:Ak7),(∀p,acc=some p->Dg dec p=false)->∀p,CD (AM dec) l acc=some p->Dg dec p=false:=fun acc l ha p hp=>by
   grind [Kr,Gu]
  cases hd:Dg dec n.rq.path with
  |true=>
   have e1:D7 dec (p0,o) n=(p0,o):=by grind [D7]
   have e2:CD (AM dec) (n.rq::L.map (·.rq)) (if o=[]then none else some p0)=CD (AM dec) (L.map (·.rq)) (if o=[]then none else some p0):=by
    grind [CD,Gu]
   rw[e1,e2,N2 dec L (p0,o) h];dsimp only;cases hg:CD (AM dec) (L.map (·.rq)) (if o=[]then none else some p0)<;>grind [CD]
  |false=>
   have VN:Cb (AM dec) n.rq.path=false:=by grind [Gu]
   by_cases ho:o=[]
   .subst ho;have e1:D7 dec (p0,[]) n=(n.rq.path,[n]):=by
     grind [D7]
    have e2:CD (AM dec) (n.rq::L.map (·.rq)) none=CD (AM dec) (L.map (·.rq)) (some n.rq.path):=by
     grind [CD]
    rw[e1,N2 dec L (n.rq.path,[n]) (fun _=>hd),AO rfl,e2]
    grind [IP]
   .have hif:(if o=[]then none else some p0)=some p0:=AB ho;rw[hif];cases hb:E3 p0 n.rq.path with
    |true=>
     have e1:D7 dec (p0,o) n=(p0,o):=by grind [D7]
     have kz:E3 n.rq.path p0=false:=mS hb;have e2:CD (AM dec) (n.rq::L.map (·.rq)) (some p0)=CD (AM dec) (L.map (·.rq)) (some p0):=by
      grind [CD]
     rw[e1,e2,N2 dec L (p0,o) h]
     grind [JP]
    |false=>
     cases kz:E3 n.rq.path p0 with
     |true=>
      have e1:D7 dec (p0,o) n=(n.rq.path,[n]):=by
       grind [D7]
      have e2:CD (AM dec) (n.rq::L.map (·.rq)) (some p0)=CD (AM dec) (L.map (·.rq)) (some n.rq.path):=by
       grind [CD]
      rw[e1,e2,N2 dec L (n.rq.path,[n]) (fun _=>hd),AB aa1]
      grind [IP,JP]
     |false=>
      have e0:n.rq.path=p0:=Iz kz hb;have e1:D7 dec (p0,o) n=(p0,o++[n]):=by
       grind [D7]
      have e2:CD (AM dec) (n.rq::L.map (·.rq)) (some p0)=CD (AM dec) (L.map (·.rq)) (some p0):=by
       grind [CD]
      rw[e1,e2,N2 dec L (p0,o++[n]) (fun _=>by simp_all),AB aa1];cases hg:CD (AM dec) (L.map (·.rq)) (some p0)<;>grind [IP]
theorem Wa(roots:Ak7)(dec:List Cd):EA roots dec=match Gz (Gf roots dec) (AM dec)with
  |none=>(mt,[])
  |some p=>(p,(CZ roots dec).filter fun n=>decide (n.rq.path=p)):=by
 grind [EA,Gz,N2,Jv]
theorem Wb{dec:List Cd}:(EA roots dec).2=[]↔Gz (Gf roots dec) (AM dec)=none:=by
 rw[Wa];cases h:Gz (Gf roots dec) (AM dec)with
 |none=>simp
 |some p=>
  simp only[reduceCtorEq,iff_false];obtain⟨_,q,hq,e⟩:=Iu h;rw[<-Jv]at hq;obtain⟨n,hn,rfl⟩:=Ap.1 hq;exact List.ne_nil_of_mem (C3.2 ⟨hn,by simp_all⟩)
structure jJ(roots:Ak7)(dec:List Cd)(p:Ak5)(l:List Nd):Prop where
 next:Gz (Gf roots dec) (AM dec)=some p
 undone:Dg dec p=false
 mem:∀n,n∈l↔n∈CZ roots dec/\n.rq.path=p
theorem L0{dec:List Cd}{n0:Nd}{l:List Nd}(h:(EA roots dec).2=n0::l):jJ roots dec (EA roots dec).1 (n0::l):=by
 rw[<-h];rw[Wa]at *
 cases hp:Gz (Gf roots dec) (AM dec)with
 |none=>simp_all
 |some p=>
  dsimp only;refine⟨hp,by rw[<-Gu];grind [Iu],fun n=>?_⟩
  grind
theorem LC{c:Cd}:c∈Bl x p↔∃r∈x,r.path=p/\r.yanked=false/\c=⟨plc r.ver,r⟩:=by
 grind [Bl]
theorem N4{i:Nf}:∀{l:Am9} {k m:Nat},MG i k l=some m->∃j,m=k+j/\l[j]?=some i
 | [],_,_,h=>by cases h
 |y::l,k,m,h=>by
  unfold MG at h;split at h
  .simp_all
  .obtain⟨j,h1,h2⟩:=N4 h;exact⟨j+1,by omega,h2⟩
theorem Su{i:Nf}:∀{l:Am9} {k:Nat},MG i k l=none->i∉l
 | [],_,_=>by simp
 |y::l,k,h=>by
  unfold MG at h;split at h
  .cases h
  .rename_i e
   have:=Su h
   grind
theorem eP{α:Type}{d d' : List α}{i:Int}{a:α}(h:E5 d i=some a)(hp:d <+: d'):E5 d' i=some a:=by
 unfold E5 at *
 split at h
 .cases h
 .rename_i hi;rw[AB hi];obtain⟨t,rfl⟩:=hp<;>grind
theorem dH{d':List (Ak4)}{i:Nf}(h:Cc x roots d i=some o)(hp:d <+: d'):Cc x roots d' i=some o:=by
 grind [Cc,eP]
structure Ew(x:Ak8)(roots:Ak7)(s:SS):Prop where
 der:BJ x roots s.infs []=some s.drv
 len:s.infs.length<=65536
theorem Ew.dlen{s:SS}(h:Ew x roots s):s.drv.length=s.infs.length:=by simpa using HU h.der
theorem Ew.nil(x:Ak8)(roots:Ak7):Ew x roots ss0:=⟨rfl,by simp⟩
theorem Ew.at{x:Ak8}{roots:Ak7}{s:SS}(h:Ew x roots s){k:Nat}{i:Nf}(hk:s.infs[k]?=some i):Cc x roots s.drv i=some (s.drv.getD k []):=by
 have h1:=Kz h.der (k+1);have h0:=Kz h.der k;have CL:=(AN.1 hk).1;rw[DV,hk,E7,h0]at h1
 grind [BJ,List.take_succ_eq_append_getElem,List.append_cancel_left,dH]
structure Grow(s s' : SS):Prop where
 pre:s.drv <+: s'.drv
 preI:s.infs <+: s'.infs
 full:s.full=true->s'.full=true
theorem Grow.refl:Grow s s:=⟨List.prefix_rfl,List.prefix_rfl,id⟩
theorem Grow.trans{a b c:SS}(h:Grow a b)(k:Grow b c):Grow a c:=⟨h.pre.trans k.pre,h.preI.trans k.preI,fun e=>k.full (h.full e)⟩
theorem Grow.at{s:SS}(h:Grow s s'){k:Nat}(hk:k<s.drv.length):D2 s' k=D2 s k:=by
 obtain⟨t,e⟩:=h.pre<;>grind
theorem Grow.len{s:SS}(h:Grow s s'):s.drv.length<=s'.drv.length:=h.pre.length_le
theorem KP(i:Nf)(l:Ak4):Grow s (DT s i l).2:=by
 grind [DT,Grow.mk]
theorem KO{s:SS}(h:Ew x roots s){i:Nf}{l:Ak4}(hi:Cc x roots s.drv i=some l) :
  Ew x roots (DT s i l).2/\(DT s i l).1<(DT s i l).2.drv.length/\((DT s i l).2.full=false->D2 (DT s i l).2 (DT s i l).1=l):=by
 grind [DT,N4,BJ,E7,Ew.dlen,Ew.at,Ew.mk,Ew.der,Ew.len]
theorem gA(i:Nf)(l:Ak4):(DT s i l).2.infs.length<=s.infs.length+1:=by
 grind [DT]
theorem ce{s:SS}(i:Nf)(l:Ak4)(hf:s.full=false)(hc:s.infs.length<65536):(DT s i l).2.full=false:=by
 grind [DT]
theorem Vn(S:Ak9):∀{l:List (Ak4)} {i k:Nat},Qk S i l=some k->∃j,k=i+j/\∃t,l[j]?=some t/\BW t S=true
 | [],_,_,h=>by cases h
 |t::l,i,k,h=>by
  unfold Qk at h;split at h
  .simp_all
  .obtain⟨j,h1,t',h2,h3⟩:=Vn S h;exact⟨j+1,by omega,t',h2,h3⟩
theorem KV{S:Ak9}{k:Nat}(h:OZ d S=some k):k<d.length/\BW (d.getD k []) S=true:=by
 obtain⟨j,h1,t,h2,h3⟩:=Vn S h<;>grind
theorem MX:∀{l:Ak7} {b:Option Ak5},DL b l=0->∀q∈l,q.set≠[]/\Ev q.set
 | [],_,_,q,hq=>by cases hq
 |r::l,b,h,q,hq=>by
  unfold DL at h;split at h
  .rename_i e;rcases AJ.1 hq with rfl | hq
   .unfold GS at e
    grind [BV]
   .exact MX h q hq
  omega
theorem Jh{l:Ak7}(h:Bb l=0):∀q∈l,q.set≠[]/\Ev q.set:=by
 grind [Bb,MX]
abbrev bV:Ver:=⟨0,k / 1000,k % 1000⟩
theorem Hk:place (bV k)=k:=by grind [place]
theorem EU{k:Int}(h:0<=k/\k<10^6):Cf (bV k)=true:=by
 grind [Cf,okPart]
structure Xb(D:Ak9)(p:Ak5)(S:Ak9):Prop where
 val:F6 S
 same:∀q,q≠p->Bw S q=Bw D q
abbrev MF(D:Ak9)(p:Ak5)(v:Ver):Ak9:=D++[⟨p,v⟩]
theorem Xs(a b:Ak9)(p:Ak5):Bw (a++b) p=(Bw a p).or (Bw b p):=by
 grind [Bw]
theorem H2{s:Ak9}(h:Cb s p=false):Bw s p=none:=by
 grind [Kj,Bw]
theorem Xb.self(h:F6 D):Xb D p D:=⟨h,fun _ _=>rfl⟩
theorem Xb.ver(h:F6 D){v:Ver}(hv:Cf v=true):Xb D p (MF D p v):=by
 refine⟨fun y hy=>?_,fun q hq=>?_⟩
 .rcases Bh.1 hy with hy | hy
  .exact h y hy
  simp_all
 grind [Bw]
theorem Iv(hp:Cb D p=false)(v:Ver):Bw (MF D p v) p=some ⟨p,v⟩:=by
 grind [Xs,H2,Bw]
theorem dy(hp:Cb D p=false){v:Ver}(hv:Cf v=true)(hv' : Cf v'=true)(e:place v=place v')(q:Ak5)(t:V) :
  CP t (Bw (MF D p v) q)=CP t (Bw (MF D p v') q):=by
 by_cases hq:q=p
 .subst hq;rw[Iv hp,Iv hp];show(Cf v&&has t.set (place v))=(Cf v'&&has t.set (place v'));simp_all
 grind [Bw]
theorem jv(hp:Cb D p=false){v:Ver}(hv:Cf v=true)(hv' : Cf v'=true)(e:place v=place v')(t:Ak4):A3 t (MF D p v)=A3 t (MF D p v'):=by
 grind [Bk,dy]
theorem Lw{S S':Ak9}(h:Xb D p S)(h' : Xb D p S')(ht:∀u∈t,u.path≠p):A3 t S=A3 t S':=by
 rw[DD,Bk,Bk];exact⟨fun k u hu=>by rw[h'.same _ (ht u hu),<-h.same _ (ht u hu)];simp_all,fun k u hu=>by rw[h.same _ (ht u hu),<-h'.same _ (ht u hu)];simp_all⟩
theorem Kf(h:Dq t p=false):∀u∈t,u.path≠p:=fun u hu e=>by
 grind [Dq]
theorem Vg(h:Dq t p=true):∃u∈t,u.path=p:=by
 grind [Dq]
theorem WV(hf:Form t)(hc:Dq t p=true):∃u r,Fo t p=some (u,r)/\u.path=p/\∀v∈r,v.path≠p:=by
 obtain⟨u,hu,e⟩:=Vg hc;have hs:=EI hf;have hfd:=(Gy hs).1 hu;rw[e]at hfd;refine⟨u,FY t p,?_,e,fun v hv=>?_⟩
 .unfold Fo;rw[show CK t=some t from hf];simp_all
 .have:=(C3.1 hv).2
  simp_all
theorem bq(hft:Form t)(ip:Form b)(hct:Dq t p=true)(hcb:Dq b p=true){S1 S2:Ak9}(h1:Xb D p S1)(v1:A3 t S1=true)(h2:Xb D p S2)(v2:A3 b S2=true) :
  (Bc t b p).2=0/\∀S,Xb D p S->A3 t S=true\/A3 b S=true->A3 (Bc t b p).1 S=true:=by
 obtain⟨u,r,e1,pu,nr⟩:=WV hft hct;obtain⟨w,m,e2,pw,nm⟩:=WV ip hcb;have key:∀S,Xb D p S->A3 t S=true\/A3 b S=true->A3 (r++m++[Dd u w]) S=true:=fun S hS hv=>by
  have r1:A3 r S=true:=by
   rw[Lw hS h1 nr];rw[(GE h1.val e1).1,Ao]at v1;simp_all
  have m1:A3 m S=true:=by
   rw[Lw hS h2 nm];rw[(GE h2.val e2).1,Ao]at v2;simp_all
  rw[He,He,r1,m1]
  grind [Bk,Dd,OD,GE,Xb.val]
 unfold Bc
 grind [CR,Xb.val]
theorem sL(hp:Cb D p=false)(hf:Form t)(h0:A3 t D=true)(hk:∀k:Int,0<=k->k<1000000->A3 t (MF D p (bV k))=true):Dq t p=false:=by
 rw[Bg];intro hc;obtain⟨u,hu,e⟩:=Vg hc;have ha:u.absent=true:=by
  have:=Bk.1 h0 u hu
  rw[e,H2 hp]at this;exact this
 have hs:∀k:Int,0<=k->k<1000000->has u.set k=true:=fun k k0 k1=>by
  grind [Bk,Iv,CP,Hk]
 have hcn:Ev u.set:=BI.canon (EI hf) u hu;have zF:u.set=[(0,1000000)]:=by
  refine HR hcn ⟨by decide,by decide,by decide,trivial⟩ fun k=>?_;rw[DD];constructor
  .intro h
   have:=RU h
   grind [has,BK]
  grind [RU]
 have hal:G6 u=true:=by grind [G6]
 have hf2:CK t=some t:=hf
 grind [CK]
end Go.Eng
