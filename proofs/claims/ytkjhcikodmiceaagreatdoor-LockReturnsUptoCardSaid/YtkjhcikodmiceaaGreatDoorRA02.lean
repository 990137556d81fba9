/- Lemmas 2. -/
import Derived.Test.YtkjhcikodmiceaaGreatDoorRA01
namespace Go.Eng
variable {p:ByteArray}{roots:List Rq}{d:List (List Tm)}{x:List Rl}{t:List Tm}{D:List Sl}{U:List ByteArray}{B:List Int}{c o b:List Tm}{v':Ver}(m:List (Int×Int))(S r:Ba)(l:List Tm)(k v j:Int)
-- right answers
theorem UT{x:List Rl}{d:List (List Tm)}:∀{vs:List Zk} {a:Bool×List Sk},(vs.foldl (CT x d) a).1=true->a.1=true/\∀v∈vs,(∃k k',DV d v x k=(k',true))/\v.rel.yanked=false
 | [],a,h=>⟨h,fun _ h=>by cases h⟩
 |v::vs,a,h=>by
  rw[FX]at h;obtain⟨i1,i2⟩:=UT h<;>grind [CT]
structure r9(x:List Rl)(roots:List Rq)(a:An)(l:List Rl):Prop where
 d0:(CK x roots a.infs).2=0
 sol0:Lt x roots a.sel l
 sol:la x roots a.sel
 skip:∀v∈(visits x roots a.sel).1,∃k k',DV (CK x roots a.infs).1 v x k=(k',true)
theorem dz{a:An}(h:Hd x roots a=0) :
  (CK x roots a.infs).2=0/\((a.found=false/\a.sel=[]/\a.skips=[]/\GG (CK x roots a.infs).1=true) \/
   (a.found=true/\(∃l,r9 x roots a l)/\GM x roots a.sel=0/\(visits x roots a.sel).1.foldl (CT x (CK x roots a.infs).1) (true,a.skips)=(true,[]))):=by
 unfold Hd at h;split at h
 .omega
 .rename_i h1;have h1:=BZ.1 h1;refine⟨h1,?_⟩;split at h
  .simp_all
  .rename_i h2;have h2:a.found=true:=Wk
   split at h
   .cases h
   .rename_i h3;have h3:=BZ.1 h3;split at h
    .rename_i h4;simp only[Aj,Ij]at h4;obtain⟨l,hl⟩:=bc h3;have hf:=UT h4.1;refine .inr ⟨h2,⟨l,h1,hl,hl.sol fun y hy r hr=>?_,fun v hv=>(hf.2 v hv).1⟩,h3,Prod.ext h4.1 h4.2⟩
     grind [T1,Lt.all,oo.mem,Lt.visits]
    omega
-- the first decision that differs
-- prefixes
theorem He{x:List Rl}{roots:List Rq}:∀{l:List Nf} {d d' : List (List Tm)},BP x roots l d=some d'->d'.length=d.length+l.length
 | [],d,d',h=>by cases h;rfl
 |i::l,d,d',h=>by
  unfold BP at h;split at h
  .cases h
  .have:=He h
   grind
theorem EW{x:List Rl}{roots:List Rq}:∀(l m:List Nf) (d:List (List Tm)),BP x roots (l++m) d=match BP x roots l d with | none=>none | some d'=>BP x roots m d'
 | [],_,_=>rfl
 |i::l,m,d=>by
  show(match BA x roots d i with | none=>none | some t=>BP x roots (l++m) (d++[t]))=(match(match BA x roots d i with | none=>none | some t=>BP x roots l (d++[t]))with | none=>none | some d'=>BP x roots m d');cases BA x roots d i with
  |none=>rfl
  |some t=>exact EW l m _
theorem KW{x:List Rl}{roots:List Rq}:∀{l:List Nf} {d d' : List (List Tm)},BP x roots l d=some d'->d <+: d'
 | [],d,d',h=>by cases h<;>simp_all
 |i::l,d,d',h=>by
  unfold BP at h;split at h
  .cases h
  .exact(List.prefix_append _ _).trans (KW h)
theorem JC{l:List Nf}(h:BP x roots l []=some d)(k:Nat):BP x roots (l.take k) []=some (d.take k):=by
 rw[<-HA k l,EW]at h;cases e:BP x roots (l.take k) []with
 |none=>simp_all
 |some f=>
  rw[e]at h;dsimp only at h;have h1:=He e;have h2:=He h;have h3:=KW h
  congr 1
  simp only[A0,Bv,ES]at h1 h2;obtain⟨z,rfl⟩:=h3
  by_cases hk:k<=l.length
  .simp_all
  .rw[Aa]at h2
   have:z=[]:=AU B0
   grind [List.take_of_length_le]
def Form:Prop:=CD l=some l
theorem fS{l:List Tm}:∀(l2:List Tm),BO none (l2++l)->l.foldl (fun acc t=>NF t acc) l2=l2++l:=by
 induction l with
 |nil=>simp_all
 |cons t r ih=>
  intro l2 h;have hi:NF t l2=l2++[t]:=by
   have:∀(m:List Tm) (lo:Option ByteArray),BO lo (m++t::r)->NF t m=m++[t]:=by
    intro m
    induction m with
    |nil=>
     intro lo hm;have hc:En t.set:=hm.2.1;unfold NF;rw[show Lv t=t from rp rfl rfl (IZ hc)];rfl
    |cons u m ihm=>
     grind [BO,BO.low,NF]
   grind
  simp_all
theorem PO{l:List Tm}(h:BO none l):E4 l=l:=by
 grind [fS,E4]
theorem QC{l:List Tm}(h:CD l=some c):Form c:=by
 grind [EA,Form,CD,PO,List.filter_filter]
theorem SF:Form []:=rfl
theorem L9:Form (PT l):=by
 grind [PT,CD,SF,QC]
theorem Nb(a b:List Tm)(p:ByteArray):Form (Bg a b p).1:=by
 grind [Bg,QC,SF]
theorem Yj{l:List Tm}(h:ne0 l=some o):o=l:=by grind [ne0]
theorem XY{i:Nf}(h:BA x roots d i=some o):Form o:=by
 unfold BA at h;split at h
 .split at h
  .rw[B1]at h;obtain⟨q,_,rfl⟩:=h;exact L9 _
  simp_all
 .split at h
  .split at h
   .split at h
    .cases h
    .split at h
     .cases h
     .rw[Yj h];exact L9 _
   simp_all
  .split at h
   .split at h
    .rw[Yj h];exact L9 _
    simp_all
   grind [Nb]
theorem MX{x:List Rl}{roots:List Rq}:∀{l:List Nf} {d d' : List (List Tm)},(∀t∈d,Form t)->BP x roots l d=some d'->∀t∈d',Form t
 | [],d,d',hd,h=>by cases h;exact hd
 |i::l,d,d',hd,h=>by
  unfold BP at h;split at h
  .cases h
  .rename_i o ho;refine MX (fun t ht=>?_) h
   grind [XY]
theorem Sp{l:List Nf}(h:(CK x roots l).2=0):AX x=0/\Bu roots=0/\l.length<=65536/\BP x roots l []=some (CK x roots l).1:=by
 grind [CK]
theorem So{l:List Nf}(h1:AX x=0)(h2:Bu roots=0)(h3:l.length<=65536)(h:BP x roots l []=some d):CK x roots l=(d,0):=by
 grind [CK]
-- tampering
def DM(l:Ba):Ba:=(l.map Pu).filter fun x=>decide (x.1<x.2)
theorem UJ{l:Ba}{x:Int×Int}(h:x∈DM l):0<=x.1/\x.1<x.2/\x.2<=1000000:=by
 grind [DM,Pu]
theorem dB(l:Ba)(p:Int):(DM l).any (BS p)=has l p:=by
 rw[<-JR]
 induction l<;>grind [DM,canon,N3,B6]
theorem Ns:∀{l:Ba} {lo:Int},Ej lo l↔(∀y∈l,lo<=y.1/\y.1<y.2/\y.2<=1000000)/\l.Pairwise fun a b=>a.2<b.1
 | [],lo=>by simp[Ej]
 |y::r,lo=>by
  rw[DA];constructor
  .intro h;have hl:=h.low;refine⟨hl,fun z hz=>?_,((Ns (l:=r)).1 h.2.2.2).2⟩
   have:=h.2.2.2.low z hz;omega
  .intro⟨h1,h2,h3⟩;have hy:=h1 y (Ae ..);refine⟨hy.1,hy.2.1,hy.2.2,Ns.2 ⟨fun z hz=>?_,h3⟩⟩
   grind
def Kf(x:Int×Int):Ba:=match r with
 | []=>[x]
 |y::t=>if x.1<=y.2 then(y.1,max y.2 x.2)::t else x::y::t
def B3(s:Ba):Ba:=s.foldl Kf []
theorem F8(s:Ba)(i:Nat)(h:i<s.length):B3 (s.take (i+1))=Kf (B3 (s.take i)) s[i]:=by
 grind [B3,List.take_add_one]
theorem gj(x:Int×Int):(Kf r x).length<=r.length+1/\r.length<=(Kf r x).length/\0<(Kf r x).length:=by
 unfold Kf
 grind
theorem Tn(s:Ba):∀i,i<=s.length->(B3 (s.take i)).length<=i/\(0<i->0<(B3 (s.take i)).length):=by
 intro i
 induction i<;>grind [B3,F8,gj]
structure c9(r done:Ba):Prop where
 ok:∀y∈r,0<=y.1/\y.1<y.2/\y.2<=1000000
 pw:r.Pairwise fun a b=>b.2<a.1
 has:∀p,r.any (BS p)=done.any (BS p)
 first:∀y t,r=y::t->∃x∈done,y.1=x.1
theorem gi{r done:Ba}{x:Int×Int}(h:c9 r done)(hx:0<=x.1/\x.1<x.2/\x.2<=1000000)(hs:∀y∈done,y.1<=x.1):c9 (Kf r x) (done++[x]):=by
 unfold Kf;split
 .refine⟨fun y hy=>?_,by simp,fun p=>?_,fun y t e=>?_⟩
  all_goals grind [c9.has]
 .rename_i y t;have hy:=h.ok y (Ae ..);obtain⟨pw1,pw2⟩:=DA.1 h.pw;obtain⟨z,hz,e⟩:=h.first y t rfl
  have rW:=hs z hz;split
  .rename_i Ig;refine⟨fun u hu=>?_,DA.2 ⟨pw1,pw2⟩,fun p=>?_,fun u t' e'=>?_⟩
   .rcases AM.1 hu with rfl | hu
    .omega
    .exact h.ok u (Ah _ hu)
   .rw[List.any_append,<-h.has,Em,Em,Em,List.any_nil,Bool.or_false]
    grind [BS]
   grind
  .rename_i Ig;refine⟨fun u hu=>?_,DA.2 ⟨fun u hu=>?_,h.pw⟩,fun p=>?_,fun u t' e'=>?_⟩
   .rcases AM.1 hu with rfl | hu
    .exact hx
    .exact h.ok u hu
   all_goals grind [c9.has]
theorem aA{s:Ba}(DY:∀y∈s,0<=y.1/\y.1<y.2/\y.2<=1000000)(hs:s.Pairwise fun a b=>a.1<=b.1):∀i,i<=s.length->c9 (B3 (s.take i)) (s.take i):=by
 intro i
 induction i with
 |zero=>intro _;exact⟨fun _ h=>by grind [B3],by simp[B3],fun p=>by simp[B3],fun y t e=>by grind [B3]⟩
 |succ i ih=>
  grind [F8,List.take_add_one,gi,List.mem_iff_getElem,List.pairwise_iff_getElem]
theorem Rm{l s:Ba}(hp:s.Perm (DM l))(hs:s.Pairwise fun a b=>a.1<=b.1):(B3 s).reverse=canon l:=by
 have hi:=aA (s:=s) (fun y hy=>UJ (hp.mem_iff.1 hy)) hs s.length (Ai _);rw[Dh]at hi;have hc:En (B3 s).reverse:=by
  unfold En;rw[Ns];refine⟨fun y hy=>hi.ok y (List.mem_reverse.1 hy),?_⟩
  grind [c9.pw]
 refine Sh hc fun p=>?_;rw[Hk hc,List.any_reverse,hi.has,<-dB]
 grind
-- maps from numbers to numbers,as lists in the order in which they are met
def Fg:Int:=match m.find? (fun p=>decide (p.1=k))with | some p=>p.2 | none=>0
def KM:List (Int×Int):=if m.any (fun p=>decide (p.1=k))then m.map (fun p=>if p.1=k then(k,v)else p)else m++[(k,v)]
theorem ML(p:Int×Int)(m:List (Int×Int))(k:Int):Fg (p::m) k=if p.1=k then p.2 else Fg m k:=by
 grind [Fg]
theorem Ph:Fg (KM m k v) j=if j=k then v else Fg m j:=by
 unfold KM;split
 .rename_i h
  induction m with
  |nil=>simp_all
  |cons p m ih=>
   rw[Bb,ML,ML]
   by_cases e:p.1=k
   .rw[As e];dsimp only
    by_cases ej:j=k
    .omega
    .rw[AB (fun c=>ej c.symm),AB ej,AB (fun c=>ej (c.symm.trans e))]
     by_cases hm:(m.any fun p=>decide (p.1=k))=true
     .simp_all
     .have:∀q∈m,q.1≠k:=fun q hq e=>hm (CB.2 ⟨q,hq,by simp[e]⟩)
      have:m.map (fun p=>if p.1=k then(k,v)else p)=m:=by
       conv=>rhs;rw[<-Jk m]
       grind [List.map_congr_left]
      simp_all
   grind
 .rename_i h;have hn:∀q∈m,q.1≠k:=fun q hq e=>h (CB.2 ⟨q,hq,by simp[e]⟩)
  induction m<;>grind [ML]
def EU:List Int:=m.map (·.1)
theorem U8:EU (KM m k v)=if k∈EU m then EU m else EU m++[k]:=by
 grind [KM,EU,List.map_congr_left]
theorem LZ{m:List (Int×Int)}(h:(EU m).Nodup)(k v:Int):(EU (KM m k v)).Nodup:=by
 grind [U8]
theorem J0:j∈EU (KM m k v)↔j=k\/j∈EU m:=by
 grind [U8]
theorem kU{m:List (Int×Int)}(h:(EU m).Nodup){p:Int×Int}(hp:p∈m):Fg m p.1=p.2:=by
 induction m<;>grind [ML,EU]
theorem kV{m:List (Int×Int)}{k:Int}(h:k∉EU m):Fg m k=0:=by
 unfold Fg
 have:m.find? (fun p=>decide (p.1=k))=none:=by
  rw[NZ];intro p hp;simp only[AQ];exact fun e=>h (Ar.2 ⟨p,hp,e⟩)
 grind
-- counting
def cF:Nat:=S.countP fun x=>decide (x.1=k)
def cT:Nat:=S.countP fun x=>decide (x.2=k)
def lF:Nat:=S.countP fun x=>decide (x.1<=k)
def lT:Nat:=S.countP fun x=>decide (x.2<=k)
theorem IE{α:Type}{p q r:α->Bool}:∀{l:List α},(∀x∈l,(p x=true↔q x=true\/r x=true)/\¬(q x=true/\r x=true))->l.countP p=l.countP q+l.countP r
 | [],_=>rfl
 |x::l,h=>by
  have ih:=IE fun y hy=>h y (Ah _ hy)
  grind
structure FC(m:List (Int×Int))(S:Ba):Prop where
 nd:(EU m).Nodup
 val:∀k,Fg m k=(cF S k:Int)-cT S k
 keys:0∈EU m/\1000000∈EU m/\∀x∈S,x.1∈EU m/\x.2∈EU m
 rng:∀k∈EU m,0<=k/\k<=1000000
def sL:List (Int×Int):=[(0,0),(1000000,0)]
theorem lN:FC sL []:=⟨by decide,fun k=>by
  grind [sL,Fg,cF,cT],⟨by decide,by decide,fun _ h=>by cases h⟩,fun k hk=>by
  grind [sL,EU]⟩
def Zb(x:Int×Int):List (Int×Int):=KM (KM m x.1 (Fg m x.1+1)) x.2 (Fg (KM m x.1 (Fg m x.1+1)) x.2-1)
theorem gg{m:List (Int×Int)}{S:Ba}{x:Int×Int}(h:FC m S)(hx:0<=x.1/\x.1<x.2/\x.2<=1000000):FC (Zb m x) (S++[x]):=by
 unfold Zb;refine⟨LZ (LZ h.nd _ _) _ _,fun k=>?_,⟨?_,?_,fun y hy=>?_⟩,fun k hk=>?_⟩
 .rw[Ph,Ph,Ph,h.val,h.val,h.val];unfold cF cT;simp only[List.countP_append,List.countP_singleton,AQ]
  grind
 .grind [J0,FC.keys]
 .grind [J0,FC.keys]
 .grind [J0,FC.keys]
 .rw[J0,J0]at hk;rcases hk with rfl | rfl | hk
  .omega
  .omega
  .exact h.rng k hk
def Iq(B:List Int):Int:=(B.map (Fg m)).foldl (·+·) 0
theorem Qp(B:List Int)(i:Nat)(h:i<B.length):Iq m (B.take (i+1))=Iq m (B.take i)+Fg m B[i]:=by
 grind [Iq,List.take_add_one]
structure lm(B:List Int)(m:List (Int×Int)):Prop where
 perm:B.Perm (EU m)
 srt:B.Pairwise fun a b=>a<b
theorem cN{m:List (Int×Int)}{S:Ba}(h:FC m S)(hB:lm B m):∀i (hi:i<B.length),Iq m (B.take (i+1))=(lF S B[i]:Int)-lT S B[i]:=by
 have mem:∀k,k∈EU m->∃j,∃hj:j<B.length,B[j]=k:=fun k hk=>by
  have:=hB.perm.mem_iff.2 hk
  grind [List.mem_iff_getElem]
 have lt:∀i j (hi:i<B.length) (hj:j<B.length),i<j->B[i]<B[j]:=fun i j hi hj Wd=>(BT.1 hB.srt) i j hi hj Wd;intro i
 induction i with
 |zero=>
  intro hi;rw[Qp m B 0 hi,h.val]
  have:Iq m (B.take 0)=0:=by simp[Iq]
  rw[this];have low:∀k∈EU m,B[0]<=k:=fun k hk=>by
   grind
  have e1:lF S B[0]=cF S B[0]:=by
   grind [lF,cF,List.countP_congr,FC.keys]
  grind [lT,cT,List.countP_congr,FC.keys]
 |succ i ih=>
  intro hi;rw[Qp m B (i+1) hi,ih B0,h.val];have nb:∀k∈EU m,k<=B[i+1]↔k<=B[i]\/k=B[i+1]:=fun k hk=>by
   grind
  have l0:=lt i (i+1) B0 hi B0;have e1:lF S B[i+1]=lF S B[i]+cF S B[i+1]:=by
   unfold lF cF;apply IE
   grind [FC.keys]
  have e2:lT S B[i+1]=lT S B[i]+cT S B[i+1]:=by
   unfold lT cT;apply IE
   grind [FC.keys]
  omega
theorem Xj{S:Ba}(hS:∀x∈S,x.1<x.2)(p:Int):(lF S p:Int)-lT S p=(S.countP (BS p):Nat):=by
 have:lF S p=S.countP (BS p)+lT S p:=by
  unfold lF lT
  grind [IE,BS]
 omega
theorem Og:∀{l:Ba} {lo:Int} (p:Int),Ej lo l->l.countP (BS p)=if l.any (BS p)then 1 else 0
 | [],_,_,_=>rfl
 |y::r,lo,p,⟨h1,h2,h3,h4⟩=>by
  rw[List.countP_cons,Og p h4,Em];cases hy:BS p y with
  |false=>grind
  |true=>
   have:=D0.1 hy
   have:r.any (BS p)=false:=by
    rw[Bn];intro hr;have:=N6 h4 hr;omega
   simp_all
theorem Lx:∀(l:List Ba) (p:Int),((l.map canon).flatten).countP (BS p)=ib l p
 | [],_=>rfl
 |s::l,p=>by
  rw[Bb,By,List.countP_append,Lx l p,Og p (B6 s),JR]
  grind [ib]
def Ee(keep:Nat->Bool)(m:List (Int×Int))(B:List Int):Nat->Ba
 |0=>[]
 |i+1=>Ee keep m B i++(match B[i]?,B[i+1]? with
  |some a,some b=>if keep (Iq m (B.take (i+1))).toNat then [(a,b)]else []
  |_,_=>[])
theorem PL{keep:Nat->Bool}{m:List (Int×Int)}{B:List Int}{x:Int×Int}:∀{n:Nat},x∈Ee keep m B n↔∃i,i<n/\∃(h1:i<B.length) (h2:i+1<B.length),keep (Iq m (B.take (i+1))).toNat=true/\x=(B[i],B[i+1])
 |0=>by simp[Ee]
 |n+1=>by
  unfold Ee;rw[Bk,PL (n:=n)]
  grind
theorem Oa{B:List Int}(hs:B.Pairwise fun a b=>a<b){p:Int}:∀(n:Nat) (h0:0<B.length) (hn:n<B.length),B[0]<=p->p<B[n]->∃i,∃(h1:i<B.length) (h2:i+1<B.length),B[i]<=p/\p<B[i+1]
 |0,h0,hn,h1,h2=>by omega
 |n+1,h0,hn,h1,h2=>by
  by_cases e:B[n]<=p
  .grind
  .exact Oa hs n h0 B0 h1 B0
theorem jl{keep:Nat->Bool}{l:List Ba}{m:List (Int×Int)}(h:FC m (l.map canon).flatten)(hB:lm B m)(p:Int):has (Ee keep m B (B.length-1)) p=(Ru p&&keep (ib l p)):=by
 have hS:∀x∈(l.map canon).flatten,x.1<x.2:=fun x hx=>by
  obtain⟨s,hs,hx⟩:=Fy.1 hx;obtain⟨t,_,rfl⟩:=Ar.1 hs;exact((B6 t).low x hx).2.1
 have mem:∀k,k∈EU m->∃j,∃hj:j<B.length,B[j]=k:=fun k hk=>by
  obtain⟨j,hj,e⟩:=CY.1 (hB.perm.mem_iff.2 hk)<;>grind [List.mem_iff_getElem]
 have lt:∀i j (hi:i<B.length) (hj:j<B.length),i<j->B[i]<B[j]:=fun i j hi hj Wd=>(BT.1 hB.srt) i j hi hj Wd;have rng:∀i (hi:i<B.length),0<=B[i]/\B[i]<=1000000:=fun i hi=>h.rng _ (hB.perm.mem_iff.1 (Am hi))
 -- lC two bounds
 have lC:∀i (h1:i<B.length) (h2:i+1<B.length),B[i]<=p->p<B[i+1]->(Iq m (B.take (i+1))).toNat=ib l p:=fun i h1 h2 a b=>by
  have same:∀k∈EU m,k<=B[i]↔k<=p:=fun k hk=>by
   grind
  have e1:lF (l.map canon).flatten B[i]=lF (l.map canon).flatten p:=by
   grind [lF,List.countP_congr,FC.keys]
  grind [lT,List.countP_congr,cN,Xj,Lx,FC.keys]
 rw[Dd];constructor
 .grind [has,PL,D0,Ru]
 .intro hh;simp only[Aj,Ru,AQ]at hh;obtain⟨⟨p0,p1⟩,hk⟩:=hh;obtain⟨j0,hj0,e0⟩:=mem 0 h.keys.1;obtain⟨j1,hj1,e1⟩:=mem 1000000 h.keys.2.1;have IK:B[0]' B0<=p:=by
   grind
  obtain⟨i,h1,h2,a,b⟩:=Oa hB.srt j1 B0 hj1 IK B0;unfold has;simp only[p0,p1,decide_true,Rg];exact CB.2 ⟨(B[i],B[i+1]),PL.2 ⟨i,by omega,h1,h2,by simp_all,rfl⟩,D0.2 ⟨a,b⟩⟩
theorem kF{l:List Ba}{m:List (Int×Int)}(h:FC m (l.map canon).flatten)(hB:lm B m)(i:Nat)(hi:i<B.length):0<=Iq m (B.take (i+1))/\Iq m (B.take (i+1))<=l.length:=by
 have hS:∀x∈(l.map canon).flatten,x.1<x.2:=fun x hx=>by
  obtain⟨s,hs,hx⟩:=Fy.1 hx;obtain⟨t,_,rfl⟩:=Ar.1 hs;exact((B6 t).low x hx).2.1
 rw[cN h hB i hi,Xj hS,Lx]
 grind [ib]
def Wz(m:List Tm)(t:Tm):List Tm:=if m.any (fun u=>decide (u.path=t.path))then m.map (fun u=>if u.path=t.path then t else u)else m++[t]
def stepT(m:List Tm)(t:Tm):List Tm:=Wz m (Rv (Df m t.path) t)
def Dc:List Tm:=l.foldl stepT []
theorem dM(t:Tm)(p:ByteArray):∀m:List Tm,Df (Wz m t) p=if t.path=p then some t else Df m p:=by
 intro m;unfold Wz
 by_cases h:(m.any fun u=>decide (u.path=t.path))=true
 .rw[As h]
  induction m with
  |nil=>simp_all
  |cons u m ih=>
   rw[Bb,Ek,Ek]
   by_cases e:u.path=t.path
   .rw[As e]
    by_cases ep:t.path=p
    .simp_all
    .rw[AB ep,AB ep,AB (fun c=>ep (e.symm.trans c))]
     by_cases hm:(m.any fun u=>decide (u.path=t.path))=true
     .simp_all
     .have:∀q∈m,q.path≠t.path:=fun q hq c=>hm (CB.2 ⟨q,hq,by simp[c]⟩)
      have:m.map (fun u=>if u.path=t.path then t else u)=m:=by
       conv=>rhs;rw[<-Jk m]
       grind [List.map_congr_left]
      simp_all
   grind
 .rw[AB h];have hn:∀q∈m,q.path≠t.path:=fun q hq e=>h (CB.2 ⟨q,hq,by simp[e]⟩)
  clear h
  induction m<;>grind [Ek]
def Ey(m:List Tm):List ByteArray:=m.map (·.path)
open Classical in
theorem aK(m:List Tm)(t:Tm):Ey (Wz m t)=if t.path∈Ey m then Ey m else Ey m++[t.path]:=by
 grind [Wz,Ey,List.map_congr_left]
theorem fw{m:List Tm}(h:(Ey m).Nodup)(t:Tm):(Ey (Wz m t)).Nodup:=by
 grind [aK]
theorem QV(i:Nat)(h:i<l.length):Dc (l.take (i+1))=stepT (Dc (l.take i)) l[i]:=by
 grind [Dc,List.take_add_one]
theorem Ov:∀(l m:List Tm),(Ey m).Nodup->(Ey (l.foldl stepT m)).Nodup
 | [],_,h=>h
 |_::l,_,h=>Ov l _ (fw h _)
theorem Ht:(Ey (Dc l)).Nodup:=Ov l [] .nil
theorem Xx(m:List Tm)(t:Tm)(p:ByteArray):Df (stepT m t) p=Jy p (Df m p) t:=by
 grind [stepT,Jy,PZ,Kw,dM]
theorem Oq(p:ByteArray):∀(l m:List Tm),Df (l.foldl stepT m) p=l.foldl (Jy p) (Df m p)
 | [],_=>rfl
 |t::l,m=>by rw[FX,FX,Oq p l,Xx]
theorem ZW(p:ByteArray):Df (Dc l) p=Df (E4 l) p:=by
 unfold Dc;rw[Oq,II];rfl
theorem QL{m:List Tm}(h:(Ey m).Nodup){t:Tm}:t∈m↔Df m t.path=some t:=by
 constructor
 .induction m<;>grind [Ey,Ek]
 .exact Gk
theorem L6{m:List Tm}(h:(Ey m).Nodup):m.Nodup:=by
 unfold Ey at h
 induction m<;>grind
theorem Hz{l:List Tm}{lo:Option ByteArray}(h:BO lo l):(Ey l).Nodup:=by
 unfold Ey
 induction l generalizing lo with
 |nil=>simp_all
 |cons t l ih=>
  rw[Bb,FY];refine⟨fun hm=>?_,ih h.2.2⟩;obtain⟨u,hu,e⟩:=Ar.1 hm
  have:=h.2.2.low u hu
  grind [CO]
theorem IT(t:Tm):t∈Dc l↔t∈E4 l:=by
 grind [QL,Ht,ZW,Hz,D6]
theorem OL:∀t∈Dc l,En t.set:=fun t ht=>(D6 l).canon t ((IT l t).1 ht)
theorem gl(m:List Tm)(t:Tm):(stepT m t).length<=m.length+1:=by
 grind [stepT,Wz]
theorem NL:∀i,i<=l.length->(Dc (l.take i)).length<=i:=by
 intro i
 induction i<;>grind [Dc,QV,gl]
theorem bf{s:List Tm}(hs:s.Pairwise fun x y=>E0 x.path y.path=true)(hc:∀t∈s,En t.set):BO none s:=by
 have:∀(s:List Tm) (lo:Option ByteArray),s.Pairwise (fun x y=>E0 x.path y.path=true)->(∀t∈s,En t.set)->(∀p,lo=some p->∀t∈s,E0 p t.path=true)->BO lo s:=by
  intro s
  induction s with
  |nil=>intro _ _ _ _;trivial
  |cons t s ih=>
   intro lo hs hc hl;obtain⟨h1,h2⟩:=DA.1 hs;exact⟨fun p e=>hl p e t (Ae ..),hc t (Ae ..),ih _ h2 (fun u hu=>hc u (Ah _ hu)) fun p e u hu=>by simp_all⟩
 simp_all
theorem Pt{l s:List Tm}(q:Tm->Bool)(hp:s.Perm ((Dc l).filter q))(hs:s.Pairwise fun x y=>E0 y.path x.path=false):s=(E4 l).filter q:=by
 have hm:∀t,t∈s↔t∈(E4 l).filter q:=fun t=>by
  grind [IT]
 have SU:(Ey s).Nodup:=by
  grind [Ey,Ht]
 have IM:s.Pairwise fun x y=>E0 x.path y.path=true:=by
  grind [List.pairwise_iff_getElem,HT,Ey]
 have hss:BO none s:=bf IM fun t ht=>(D6 l).canon t (CQ.1 ((hm t).1 ht)).1;have ue:BO none ((E4 l).filter q):=BO.filter q (D6 l)
 grind [Mj,Df,F7]
theorem ZH(t:Tm):GC t t=Lv t:=by grind [GC,Lv,aq]
theorem cG(o:Option Tm)(t:Tm):Rv o t=GC (o.getD t) t:=by cases o with | none=>exact(ZH t).symm | some u=>rfl
theorem dh{t:Tm}(h:En t.set):(t.absent&&(EB t.set).isEmpty)=GJ t:=by
 unfold GJ
 congr 1
 rw[Dd,Ij,AQ];have ha:En [(0,1000000)]:=⟨Cp _,by omega,Cp _,trivial⟩;constructor
 .intro e;refine Hc h ha fun p=>?_
  have:=FK t.set p
  grind [has,Ru,BS]
 grind [PS,GW,FK,has,BS]
theorem jx{t:Tm}(h:En t.set):(!t.absent&&(canon t.set).isEmpty)=Io t:=by grind [Io,IZ]
theorem Vf{α:Type}:∀{l m:List α},l.Nodup->(∀x∈l,x∈m)->l.length<=m.length
 | [],_,_,_=>Ao _
 |a::l,m,hn,hs=>by
  obtain⟨h1,h2⟩:=FY.1 hn;obtain⟨s,t,rfl⟩:=List.append_of_mem (hs a (Ae ..))
  have:l.length<=(s++t).length:=Vf h2 fun x hx=>by
   grind
  grind
theorem KX(p:ByteArray):∀(l:List Tm) (o:Option Tm),(∀u∈l,u.path≠p)->l.foldl (Jy p) o=o
 | [],_,_=>rfl
 |t::l,o,h=>by
  rw[FX,show Jy p o t=o by grind [Jy]];exact KX p l o fun u hu=>h u (Ah _ hu)
theorem aB{l:List Tm}{t:Tm}(h:t∈E4 l):∃u∈l,u.path=t.path:=by
 grind [F7,D6,II,KX]
def Rh(U:List ByteArray)(t:List Tm):Prop:=BO none t/\∀u∈t,u.path∈U
theorem Rh.len(h:Rh U t):t.length<=U.length:=by
 have:=Vf (Hz h.1) (m:=U) fun p hp=>by
  obtain⟨u,hu,rfl⟩:=Ar.1 hp;exact h.2 u hu
 grind [Ey]
theorem ZI{l:List Tm}(h:CD l=some c){t:Tm}(ht:t∈c):t∈E4 l:=by
 grind [CD]
theorem Pr{l:List Tm}(h:CD l=some c)(hu:∀u∈l,u.path∈U):Rh U c:=
 ⟨EA h,fun t ht=>by
  obtain⟨u,h1,h2⟩:=aB (ZI h ht)<;>grind⟩
theorem Rh.nil(U:List ByteArray):Rh U []:=⟨trivial,fun u hu=>by cases hu⟩
theorem Tw{l:List Tm}(hu:∀u∈l,u.path∈U):Rh U (PT l):=by
 grind [PT,CD,Pr,Rh.nil]
theorem Rb{a:List Tm}(ha:Rh U a)(hb:Rh U b):Rh U (Bg a b p).1:=by
 have sp:∀{l r:List Tm} {t:Tm},Rh U l->E6 l p=some (t,r)->t.path∈U/\∀u∈r,u.path∈U:=by
  intro l r t hl h;unfold E6 at h;cases e:CD l with
  |none=>simp_all
  |some c=>
   rw[e]at h;have h:(match Df c p with | none=>none | some t=>some (t,FJ c p))=some (t,r):=h;have hc:=Pr e hl.2;cases e2:Df c p with
   |none=>simp_all
   |some u=>
    rw[e2]at h;cases h;exact⟨hc.2 _ (Gk e2),fun u hu=>hc.2 u (CQ.1 hu).1⟩
 unfold Bg;split
 .rename_i t r u m e1 e2;obtain⟨a1,a2⟩:=sp ha e1;obtain⟨b1,b2⟩:=sp hb e2;split
  .rename_i o e3;refine Pr e3 fun v hv=>?_;rcases Bk.1 hv with hv | hv
   .grind
   .rw[AC.1 hv];exact a1
  .exact .nil U
 .exact .nil U
def Hu(x:List Rl)(roots:List Rq)(l:List Nf):List ByteArray:=(x.map (·.path))++((x.map (·.reqs)).flatten.map (·.path)++(roots.map (·.path)++l.map (·.path)))
theorem PI{l:List Nf}{i:Nf}(hi:i∈l)(hd:∀t∈d,Rh (Hu x roots l) t)(h:BA x roots d i=some t):Rh (Hu x roots l) t:=by
 have hp:i.path∈Hu x roots l:=by
  grind [Hu]
 have nz:∀{α:Type} {l:List α} {k:Int} {a:α},EH l k=some a->a∈l:=by
  grind [EH]
 have n0:∀{a b:List Tm},ne0 a=some b->b=a:=by
  grind [ne0]
 unfold BA at h;split at h
 .split at h
  .cases e:EH roots i.number with
   |none=>simp_all
   |some q=>
    rw[e]at h;cases h;refine Tw fun u hu=>?_;rw[AC.1 hu];unfold Hu;exact Ca _ (Ca _ (Bw _ (Ar.2 ⟨q,nz e,rfl⟩)))
  simp_all
 split at h
 .split at h
  .cases e:Fk x i.path i.place with
   |none=>simp_all
   |some r=>
    rw[e]at h;have h:(match EH r.reqs i.number with | none=>none | some q=>ne0 (CW i.path i.place q))=some t:=h;cases e2:EH r.reqs i.number with
    |none=>simp_all
    |some q=>
     rw[e2]at h;have h:=n0 (show ne0 (CW i.path i.place q)=some t from h);subst h;refine Tw fun u hu=>?_;rcases AM.1 hu with rfl | hu
     .exact hp
     .rw[AC.1 hu];unfold Hu;refine Ca _ (Bw _ (Ar.2 ⟨q,?_,rfl⟩));exact Fy.2 ⟨r.reqs,Ar.2 ⟨r,B9 e,rfl⟩,nz e2⟩
  simp_all
 split at h
 .split at h
  .have h:=n0 h;subst h;refine Tw fun u hu=>?_;simp_all
  simp_all
 grind [Rb]
structure Cd where
 place:Int
 rel:Rl
structure Nd where
 rq:Rq
 path:ByteArray
 place:Int
 number:Int
variable (n:Nd)
structure SS where
 infs:List Nf
 drv:List (List Tm)
 full:Bool
variable {s':SS}(s:SS)
abbrev PM(c:Cd):Sl:=⟨c.rel.path,c.rel.ver⟩
abbrev AH(l:List Cd):List Sl:=l.map PM
def Br(x:List Rl)(p:ByteArray):List Cd:=(x.filter fun r=>decide (r.path=p)&&!r.yanked).map fun r=>⟨plc r.ver,r⟩
def L7(f:Rq->Nat->Nd):Nat->List Rq->List Nd
 |_,[]=>[]
 |i,q::l=>f q i::L7 f (i+1) l
def YD(roots:List Rq):List Nd:=L7 (fun q i=>⟨q,mt,0,i⟩) 0 roots
def Qb(c:Cd):List Nd:=L7 (fun q i=>⟨q,c.rel.path,c.place,i⟩) 0 c.rel.reqs
def CP(roots:List Rq)(dec:List Cd):List Nd:=YD roots++(dec.map Qb).flatten
def De(dec:List Cd)(p:ByteArray):Bool:=dec.any fun c=>decide (c.rel.path=p)
def D1(dec:List Cd)(a:ByteArray×List Nd)(n:Nd):ByteArray×List Nd:=
 if De dec n.rq.path=true\/(a.2≠[]/\E0 a.1 n.rq.path=true)then a
 else if a.2≠[]/\E0 n.rq.path a.1=true then(n.rq.path,[n])else(n.rq.path,a.2++[n])
def Et(roots:List Rq)(dec:List Cd):ByteArray×List Nd:=(CP roots dec).foldl (D1 dec) (mt,[])
def ci(l:List Cd)(n:Nd):Bool:=l.any fun d=>decide (d.rel.path=n.rq.path)&&!has n.rq.set d.place
def DL(dec:List Cd)(c:Cd):Option Nd:=(Qb c).find? (ci (dec++[c]))
def Oj(s:List Sl):Nat->List (List Tm)->Option Nat
 |_,[]=>none
 |i,t::l=>if B7 t s then some i else Oj s (i+1) l
def Nu(d:List (List Tm))(s:List Sl):Option Nat:=Oj s 0 d
def Dr(p:ByteArray):Bool:=l.any fun t=>decide (t.path=p)
instance:DecidableEq Nf:=fun a b=>by
 obtain⟨a1,a2,a3,a4,a5,a6⟩:=a;obtain⟨b1,b2,b3,b4,b5,b6⟩:=b;exact decidable_of_iff (a1=b1/\a2=b2/\a3=b3/\a4=b4/\a5=b5/\a6=b6) ⟨fun⟨h1,h2,h3,h4,h5,h6⟩=>by simp_all,fun h=>by simp_all⟩
def Ln(i:Nf):Nat->List Nf->Option Nat
 |_,[]=>none
 |k,j::l=>if j=i then some k else Ln i (k+1) l
def DP(i:Nf)(l:List Tm):Nat×SS:=
 match Ln i 0 s.infs with
 |some k=>(k,s)
 |none=>if 65536<=s.infs.length then(s.infs.length-1,⟨s.infs,s.drv,true⟩)else(s.infs.length,⟨s.infs++[i],s.drv++[l],s.full⟩)
def OH:Nf:=if n.path=mt then⟨0,mt,0,n.number,0,0⟩else⟨1,n.path,n.place,n.number,0,0⟩
def HI:List Tm:=if n.path=mt then Gt n.rq else CW n.path n.place n.rq
def Bx(n:Nd):Nat×SS:=DP s (OH n) (HI n)
abbrev DX(k:Nat):List Tm:=s.drv.getD k []
def B2(p:ByteArray):List Nat->Nat->SS->Nat×SS
 | [],k,s=>(k,s)
 |r::l,k,s=>
  if s.full=true\/Dr (DX s k) p=false then(k,s)
  else if r=k then B2 p l k s
  else if(Bg (DX s k) (DX s r) p).2≠0 then B2 p l k s
  else B2 p l (DP s ⟨3,p,0,0,k,r⟩ (Bg (DX s k) (DX s r) p).1).1 (DP s ⟨3,p,0,0,k,r⟩ (Bg (DX s k) (DX s r) p).1).2
def D3(x:List Rl)(p:ByteArray)(s:SS):Nat×SS:=DP s ⟨2,p,0,0,0,0⟩ (E3 p (BC x p))
def Dj(x:List Rl)(p:ByteArray)(n:Nd)(reasons:List Nat)(s:SS):Nat×SS:=
 B2 p ((D3 x p (Bx s n).2).1::reasons) (Bx s n).1 (D3 x p (Bx s n).2).2
structure JO where
 res:Nat
 found:Bool
 ss:SS
 dec:List Cd
 stack:List (List Sk)
def Dy(rec:List Cd->SS->List (List Sk)->JO)(x:List Rl)(p:ByteArray)(needs:List Nd)(n0:Nd)(dec:List Cd)(stack:List (List Sk)):List Cd->SS->List Nat->List Sk->JO
 | [],s,reasons,_=>⟨(Dj x p n0 reasons s).1,false,(Dj x p n0 reasons s).2,dec,stack⟩
 |c::cs,s,reasons,skips=>
  let after (k:Nat) (s:SS):JO:=if Dr (DX s k) p=false then⟨k,false,s,dec,stack⟩else Dy rec x p needs n0 dec stack cs s (reasons++[k]) (skips++[⟨p,c.place,k⟩])
  if s.full=true then⟨0,false,s,dec,stack⟩
  else match needs.find? fun n=>!has n.rq.set c.place with
   |some n=>Dy rec x p needs n0 dec stack cs (Bx s n).2 (reasons++[(Bx s n).1]) skips
   |none=>match Nu s.drv (AH (dec++[c]))with
    |some k=>after k s
    |none=>match DL dec c with
     |some n=>after (Bx s n).1 (Bx s n).2
     |none=>
      let o:=rec (dec++[c]) s (stack++[skips])
      if o.found=true then⟨0,true,o.ss,o.dec,o.stack⟩
      else if o.ss.full=true then⟨0,false,o.ss,dec,stack⟩
      else after o.res o.ss
def Cs(x:List Rl)(roots:List Rq):Nat->List Cd->SS->List (List Sk)->JO
 |0,dec,s,stack=>⟨0,false,s,dec,stack⟩
 |n+1,dec,s,stack=>match(Et roots dec).2 with
  | []=>⟨0,true,s,dec,stack⟩
  |n0::l=>Dy (Cs x roots n) x (Et roots dec).1 (n0::l) n0 dec stack (Br x (Et roots dec).1) s [] []
abbrev vv:SS:=⟨[],[],false⟩
def Fv(x:List Rl)(dec:List Cd):Nat:=(x.filter fun r=>!r.yanked&&!De dec r.path).length
def EM(x:List Rl)(roots:List Rq):JO:=Cs x roots (x.length+1) [] vv []
theorem OT(f:Rq->Nat->Nd):∀(l:List Rq) (i k:Nat),(L7 f i l)[k]?=(l[k]?).map fun q=>f q (i+k)
 | [],i,k=>by simp[L7]
 |q::l,i,0=>by simp[L7]
 |q::l,i,k+1=>by
  have h:=OT f l (i+1) k
  grind [L7]
theorem L8(f:Rq->Nat->Nd):∀(l:List Rq) (i:Nat),(L7 f i l).length=l.length
 | [],_=>rfl
 |_::l,i=>by simp[L7,L8 f l (i+1)]
theorem OU{f:Rq->Nat->Nd}{l:List Rq}{n:Nd}(h:n∈L7 f 0 l):∃k q,l[k]?=some q/\n=f q k:=by
 grind [List.mem_iff_getElem?,OT]
theorem RM{f:Rq->Nat->Nd}(hf:∀q i,(f q i).rq=q):∀(l:List Rq) (i:Nat),(L7 f i l).map (·.rq)=l
 | [],_=>rfl
 |q::l,i=>by simp[L7,hf,RM hf l (i+1)]
abbrev FR(roots:List Rq)(dec:List Cd):List Rq:=roots++(dec.map fun c=>c.rel.reqs).flatten
theorem IU(roots:List Rq)(dec:List Cd):(CP roots dec).map (·.rq)=FR roots dec:=by
 unfold CP YD;rw[AG,RM (fun _ _=>rfl),List.map_flatten,BI]
 congr 2
 exact Cf fun c _=>RM (fun _ _=>rfl) _ _
theorem F3(dec:List Cd)(p:ByteArray):Ch (AH dec) p=De dec p:=by
 grind [Ch,De,List.any_map]
theorem I6(before:List Sl):∀{l:List Rq} {a p:ByteArray},Cv before l (some a)=some p->p=a\/E0 p a=true
 | [],a,p,h=>by cases h<;>simp_all
 |q::l,a,p,h=>by
  unfold Cv at h;split at h
  .exact I6 before h
  .dsimp only at h;split at h
   .rename_i hb;rcases I6 before h with e | e<;>grind [DZ]
   .exact I6 before h
theorem Ie(before:List Sl):∀{l:List Rq} {a:ByteArray},Cv before l (some a)≠none
 | [],a=>by simp[Cv]
 |q::l,a=>by
  unfold Cv;split
  .exact Ie before
  .dsimp only;split<;>exact Ie before
theorem MC(dec:List Cd):∀(L:List Nd) (a:ByteArray×List Nd),(a.2≠[]->De dec a.1=false) ->
  L.foldl (D1 dec) a=match Cv (AH dec) (L.map (·.rq)) (if a.2=[]then none else some a.1)with
   |none=>a
   |some p=>(p,(if a.2≠[]/\a.1=p then a.2 else [])++L.filter fun n=>decide (n.rq.path=p))
 | [],a,h=>by
  grind [Cv]
 |n::L,a,h=>by
  obtain⟨p0,o⟩:=a;rw[FX,Bb];have AbF:∀(acc:Option ByteArray) (l:List Rq),(∀p,acc=some p->De dec p=false)->∀p,Cv (AH dec) l acc=some p->De dec p=false:=fun acc l ha p hp=>by
   grind [Jv,F3]
  cases hd:De dec n.rq.path with
  |true=>
   have e1:D1 dec (p0,o) n=(p0,o):=by grind [D1]
   have e2:Cv (AH dec) (n.rq::L.map (·.rq)) (if o=[]then none else some p0)=Cv (AH dec) (L.map (·.rq)) (if o=[]then none else some p0):=by
    grind [Cv,F3]
   rw[e1,e2,MC dec L (p0,o) h];dsimp only;cases hg:Cv (AH dec) (L.map (·.rq)) (if o=[]then none else some p0)<;>grind [Cv]
  |false=>
   have SU:Ch (AH dec) n.rq.path=false:=by grind [F3]
   by_cases ho:o=[]
   .subst ho;have e1:D1 dec (p0,[]) n=(n.rq.path,[n]):=by
     grind [D1]
    have e2:Cv (AH dec) (n.rq::L.map (·.rq)) none=Cv (AH dec) (L.map (·.rq)) (some n.rq.path):=by
     grind [Cv]
    rw[e1,MC dec L (n.rq.path,[n]) (fun _=>hd),As rfl,e2]
    grind [Ie]
   .have hif:(if o=[]then none else some p0)=some p0:=AB ho;rw[hif];cases hb:E0 p0 n.rq.path with
    |true=>
     have e1:D1 dec (p0,o) n=(p0,o):=by grind [D1]
     have OD:E0 n.rq.path p0=false:=du hb;have e2:Cv (AH dec) (n.rq::L.map (·.rq)) (some p0)=Cv (AH dec) (L.map (·.rq)) (some p0):=by
      grind [Cv]
     rw[e1,e2,MC dec L (p0,o) h]
     grind [I6]
    |false=>
     cases OD:E0 n.rq.path p0 with
     |true=>
      have e1:D1 dec (p0,o) n=(n.rq.path,[n]):=by
       grind [D1]
      have e2:Cv (AH dec) (n.rq::L.map (·.rq)) (some p0)=Cv (AH dec) (L.map (·.rq)) (some n.rq.path):=by
       grind [Cv]
      rw[e1,e2,MC dec L (n.rq.path,[n]) (fun _=>hd),AB aa0]
      grind [Ie,I6]
     |false=>
      have e0:n.rq.path=p0:=HT OD hb;have e1:D1 dec (p0,o) n=(p0,o++[n]):=by
       grind [D1]
      have e2:Cv (AH dec) (n.rq::L.map (·.rq)) (some p0)=Cv (AH dec) (L.map (·.rq)) (some p0):=by
       grind [Cv]
      rw[e1,e2,MC dec L (p0,o++[n]) (fun _=>by simp_all),AB aa0];cases hg:Cv (AH dec) (L.map (·.rq)) (some p0)<;>grind [Ie]
theorem To(roots:List Rq)(dec:List Cd):Et roots dec=match F9 (FR roots dec) (AH dec)with
  |none=>(mt,[])
  |some p=>(p,(CP roots dec).filter fun n=>decide (n.rq.path=p)):=by
 grind [Et,F9,MC,IU]
theorem Tp{dec:List Cd}:(Et roots dec).2=[]↔F9 (FR roots dec) (AH dec)=none:=by
 rw[To];cases h:F9 (FR roots dec) (AH dec)with
 |none=>simp
 |some p=>
  simp only[reduceCtorEq,iff_false];obtain⟨_,q,hq,e⟩:=HJ h;rw[<-IU]at hq;obtain⟨n,hn,rfl⟩:=Ar.1 hq;exact List.ne_nil_of_mem (CQ.2 ⟨hn,by simp_all⟩)
structure bn(roots:List Rq)(dec:List Cd)(p:ByteArray)(l:List Nd):Prop where
 next:F9 (FR roots dec) (AH dec)=some p
 undone:De dec p=false
 mem:∀n,n∈l↔n∈CP roots dec/\n.rq.path=p
theorem KF{dec:List Cd}{n0:Nd}{l:List Nd}(h:(Et roots dec).2=n0::l):bn roots dec (Et roots dec).1 (n0::l):=by
 rw[<-h];rw[To]at *
 cases hp:F9 (FR roots dec) (AH dec)with
 |none=>simp_all
 |some p=>
  dsimp only;refine⟨hp,by rw[<-F3];grind [HJ],fun n=>?_⟩
  grind
theorem Kn{c:Cd}:c∈Br x p↔∃r∈x,r.path=p/\r.yanked=false/\c=⟨plc r.ver,r⟩:=by
 grind [Br]
theorem MG{i:Nf}:∀{l:List Nf} {k m:Nat},Ln i k l=some m->∃j,m=k+j/\l[j]?=some i
 | [],_,_,h=>by cases h
 |y::l,k,m,h=>by
  unfold Ln at h;split at h
  .simp_all
  .obtain⟨j,h1,h2⟩:=MG h;exact⟨j+1,by omega,h2⟩
theorem PX{i:Nf}:∀{l:List Nf} {k:Nat},Ln i k l=none->i∉l
 | [],_,_=>by simp
 |y::l,k,h=>by
  unfold Ln at h;split at h
  .cases h
  .rename_i e
   have:=PX h
   grind
theorem Yp{α:Type}{d d' : List α}{i:Int}{a:α}(h:EH d i=some a)(hp:d <+: d'):EH d' i=some a:=by
 unfold EH at *
 split at h
 .cases h
 .rename_i hi;rw[AB hi];obtain⟨t,rfl⟩:=hp<;>grind
theorem XZ{d':List (List Tm)}{i:Nf}(h:BA x roots d i=some o)(hp:d <+: d'):BA x roots d' i=some o:=by
 grind [BA,Yp]
structure Eo(x:List Rl)(roots:List Rq)(s:SS):Prop where
 der:BP x roots s.infs []=some s.drv
 len:s.infs.length<=65536
theorem Eo.dlen{s:SS}(h:Eo x roots s):s.drv.length=s.infs.length:=by simpa using He h.der
theorem Eo.nil(x:List Rl)(roots:List Rq):Eo x roots vv:=⟨rfl,by simp⟩
theorem Eo.at{x:List Rl}{roots:List Rq}{s:SS}(h:Eo x roots s){k:Nat}{i:Nf}(hk:s.infs[k]?=some i):BA x roots s.drv i=some (s.drv.getD k []):=by
 have h1:=JC h.der (k+1);have h0:=JC h.der k;have BW:=(AE.1 hk).1;rw[CE,hk,EW,h0]at h1
 grind [BP,List.take_succ_eq_append_getElem,List.append_cancel_left,XZ]
structure Grow(s s' : SS):Prop where
 pre:s.drv <+: s'.drv
 preI:s.infs <+: s'.infs
 full:s.full=true->s'.full=true
theorem Grow.refl:Grow s s:=⟨List.prefix_rfl,List.prefix_rfl,id⟩
theorem Grow.trans{a b c:SS}(h:Grow a b)(k:Grow b c):Grow a c:=⟨h.pre.trans k.pre,h.preI.trans k.preI,fun e=>k.full (h.full e)⟩
theorem Grow.at{s:SS}(h:Grow s s'){k:Nat}(hk:k<s.drv.length):DX s' k=DX s k:=by
 obtain⟨t,e⟩:=h.pre<;>grind
theorem Grow.len{s:SS}(h:Grow s s'):s.drv.length<=s'.drv.length:=h.pre.length_le
theorem JQ(i:Nf)(l:List Tm):Grow s (DP s i l).2:=by
 grind [DP,Grow.mk]
theorem JP{s:SS}(h:Eo x roots s){i:Nf}{l:List Tm}(hi:BA x roots s.drv i=some l) :
  Eo x roots (DP s i l).2/\(DP s i l).1<(DP s i l).2.drv.length/\((DP s i l).2.full=false->DX (DP s i l).2 (DP s i l).1=l):=by
 grind [DP,MG,BP,EW,Eo.dlen,Eo.at,Eo.mk,Eo.der,Eo.len]
theorem Zy(i:Nf)(l:List Tm):(DP s i l).2.infs.length<=s.infs.length+1:=by
 grind [DP]
theorem W3{s:SS}(i:Nf)(l:List Tm)(hf:s.full=false)(hc:s.infs.length<65536):(DP s i l).2.full=false:=by
 grind [DP]
theorem Su(S:List Sl):∀{l:List (List Tm)} {i k:Nat},Oj S i l=some k->∃j,k=i+j/\∃t,l[j]?=some t/\B7 t S=true
 | [],_,_,h=>by cases h
 |t::l,i,k,h=>by
  unfold Oj at h;split at h
  .simp_all
  .obtain⟨j,h1,t',h2,h3⟩:=Su S h;exact⟨j+1,by omega,t',h2,h3⟩
theorem JU{S:List Sl}{k:Nat}(h:Nu d S=some k):k<d.length/\B7 (d.getD k []) S=true:=by
 obtain⟨j,h1,t,h2,h3⟩:=Su S h<;>grind
theorem Lw:∀{l:List Rq} {b:Option ByteArray},FA b l=0->∀q∈l,q.set≠[]/\En q.set
 | [],_,_,q,hq=>by cases hq
 |r::l,b,h,q,hq=>by
  unfold FA at h;split at h
  .rename_i e;rcases AM.1 hq with rfl | hq
   .unfold HP at e
    grind [B6]
   .exact Lw h q hq
  omega
theorem ID{l:List Rq}(h:Bu l=0):∀q∈l,q.set≠[]/\En q.set:=by
 grind [Bu,Lw]
abbrev WV:Ver:=⟨0,k / 1000,k % 1000⟩
theorem GT:place (WV k)=k:=by grind [place]
theorem EN{k:Int}(h:0<=k/\k<1000000):Ct (WV k)=true:=by
 grind [Ct,okPart]
structure T3(D:List Sl)(p:ByteArray)(S:List Sl):Prop where
 val:FP S
 same:∀q,q≠p->BD S q=BD D q
abbrev Ll(D:List Sl)(p:ByteArray)(v:Ver):List Sl:=D++[⟨p,v⟩]
theorem Uj(a b:List Sl)(p:ByteArray):BD (a++b) p=(BD a p).or (BD b p):=by
 grind [BD]
theorem Hj{s:List Sl}(h:Ch s p=false):BD s p=none:=by
 grind [Jq,BD]
theorem T3.self(h:FP D):T3 D p D:=⟨h,fun _ _=>rfl⟩
theorem T3.ver(h:FP D){v:Ver}(hv:Ct v=true):T3 D p (Ll D p v):=by
 refine⟨fun y hy=>?_,fun q hq=>?_⟩
 .rcases Bk.1 hy with hy | hy
  .exact h y hy
  simp_all
 grind [BD]
theorem HL(hp:Ch D p=false)(v:Ver):BD (Ll D p v) p=some ⟨p,v⟩:=by
 grind [Uj,Hj,BD]
theorem XQ(hp:Ch D p=false){v:Ver}(hv:Ct v=true)(hv' : Ct v'=true)(e:place v=place v')(q:ByteArray)(t:Tm) :
  CH t (BD (Ll D p v) q)=CH t (BD (Ll D p v') q):=by
 by_cases hq:q=p
 .subst hq;rw[HL hp,HL hp];show(Ct v&&has t.set (place v))=(Ct v'&&has t.set (place v'));simp_all
 grind [BD]
theorem bj(hp:Ch D p=false){v:Ver}(hv:Ct v=true)(hv' : Ct v'=true)(e:place v=place v')(t:List Tm):A4 t (Ll D p v)=A4 t (Ll D p v'):=by
 grind [Bq,XQ]
theorem Kh{S S':List Sl}(h:T3 D p S)(h' : T3 D p S')(ht:∀u∈t,u.path≠p):A4 t S=A4 t S':=by
 rw[Dd,Bq,Bq];exact⟨fun k u hu=>by rw[h'.same _ (ht u hu),<-h.same _ (ht u hu)];simp_all,fun k u hu=>by rw[h.same _ (ht u hu),<-h'.same _ (ht u hu)];simp_all⟩
theorem Jm(h:Dr t p=false):∀u∈t,u.path≠p:=fun u hu e=>by
 grind [Dr]
theorem Sn(h:Dr t p=true):∃u∈t,u.path=p:=by
 grind [Dr]
theorem T0(hf:Form t)(hc:Dr t p=true):∃u r,E6 t p=some (u,r)/\u.path=p/\∀v∈r,v.path≠p:=by
 obtain⟨u,hu,e⟩:=Sn hc;have hs:=EA hf;have rO:=(F7 hs).1 hu;rw[e]at rO;refine⟨u,FJ t p,?_,e,fun v hv=>?_⟩
 .unfold E6;rw[show CD t=some t from hf];simp_all
 .have:=(CQ.1 hv).2
  simp_all
theorem WD(rP:Form t)(dW:Form b)(hct:Dr t p=true)(yA:Dr b p=true){S1 S2:List Sl}(h1:T3 D p S1)(v1:A4 t S1=true)(h2:T3 D p S2)(v2:A4 b S2=true) :
  (Bg t b p).2=0/\∀S,T3 D p S->A4 t S=true\/A4 b S=true->A4 (Bg t b p).1 S=true:=by
 obtain⟨u,r,e1,pu,nr⟩:=T0 rP hct;obtain⟨w,m,e2,pw,nm⟩:=T0 dW yA;have key:∀S,T3 D p S->A4 t S=true\/A4 b S=true->A4 (r++m++[CX u w]) S=true:=fun S hS hv=>by
  have r1:A4 r S=true:=by
   rw[Kh hS h1 nr];rw[(Gd h1.val e1).1,Aj]at v1;simp_all
  have m1:A4 m S=true:=by
   rw[Kh hS h2 nm];rw[(Gd h2.val e2).1,Aj]at v2;simp_all
  rw[GN,GN,r1,m1]
  grind [Bq,CX,M4,Gd,T3.val]
 unfold Bg
 grind [CJ,T3.val]
theorem jD(hp:Ch D p=false)(hf:Form t)(h0:A4 t D=true)(hk:∀k:Int,0<=k->k<1000000->A4 t (Ll D p (WV k))=true):Dr t p=false:=by
 rw[Bn];intro hc;obtain⟨u,hu,e⟩:=Sn hc;have ha:u.absent=true:=by
  have:=Bq.1 h0 u hu
  rw[e,Hj hp]at this;exact this
 have hs:∀k:Int,0<=k->k<1000000->has u.set k=true:=fun k k0 k1=>by
  grind [Bq,HL,CH,GT]
 have hcn:En u.set:=BO.canon (EA hf) u hu;have oH:u.set=[(0,1000000)]:=by
  refine Hc hcn ⟨by decide,by decide,by decide,trivial⟩ fun k=>?_;rw[Dd];constructor
  .intro h
   have:=PE h
   grind [has,BS]
  grind [PE]
 have yn:GJ u=true:=by grind [GJ]
 have hf2:CD t=some t:=hf
 grind [CD]
end Go.Eng
