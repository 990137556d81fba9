/- Lemmas 2. -/
import Derived.Test.YtkjhcikodmiceaaGreatDoorVA01
import Derived.Lib.SplitLaws
import Derived.Lib.IndexBytes
namespace Go.Eng
variable {d:List (List Tm)}{x:List Rl}{roots:List Rq}{B:List Int}{o s:List Tm}(m:List (Int×Int))(S:AL)(l:List Tm)(r:AL)(i:Nat)(k:Int)(t:Tm)(v j:Int)
-- right answers
theorem Wx{x:List Rl}{d:List (List Tm)}:∀{vs:List V2} {a:Bool×List Sk},(vs.foldl (B6 x d) a).1=true->a.1=true/\∀v∈vs,(∃k k',Dx d v x k=(k',true))/\v.rel.yanked=false
 | [],a,h=>⟨h,fun _ h=>by cases h⟩
 |v::vs,a,h=>by
  rw[FH]at h;obtain⟨i1,i2⟩:=Wx h<;>grind [B6]
structure wN(x:List Rl)(roots:List Rq)(a:An)(l:List Rl):Prop where
 d0:(A1 x roots a.infs).2=0
 sol0:KA x roots a.sel l
 sol:oJ x roots a.sel
 skip:∀v∈(visits x roots a.sel).1,∃k k',Dx (A1 x roots a.infs).1 v x k=(k',true)
theorem gW{a:An}(h:Dk x roots a=0) :
  (A1 x roots a.infs).2=0/\((a.found=false/\a.sel=[]/\a.skips=[]/\EC (A1 x roots a.infs).1=true) \/
   (a.found=true/\(∃l,wN x roots a l)/\CW x roots a.sel=0/\(visits x roots a.sel).1.foldl (B6 x (A1 x roots a.infs).1) (true,a.skips)=(true,[]))):=by
 unfold Dk at h;split at h
 .omega
 .rename_i h1;have h1:=B2.1 h1;refine⟨h1,?_⟩;split at h
  .simp_all
  .rename_i h2;have h2:a.found=true:=by simp_all
   split at h
   .cases h
   .rename_i h3;have h3:=B2.1 h3;split at h
    .rename_i h4;simp only[Ak,IU]at h4;obtain⟨l,hl⟩:=Vg h3;have hf:=Wx h4.1;refine .inr ⟨h2,⟨l,h1,hl,hl.sol fun y hy r hr=>?_,fun v hv=>(hf.2 v hv).1⟩,h3,Prod.ext h4.1 h4.2⟩
     grind [Iw,KA.all,o6.mem,KA.visits]
    omega
-- the first decision that differs
-- prefixes
theorem H3{x:List Rl}{roots:List Rq}:∀{l:List Nf} {d d' : List (List Tm)},BH x roots l d=some d'->d'.length=d.length+l.length
 | [],d,d',h=>by cases h;rfl
 |i::l,d,d',h=>by
  unfold BH at h;split at h
  .cases h
  .have:=H3 h
   grind
theorem Ft{x:List Rl}{roots:List Rq}:∀(l m:List Nf) (d:List (List Tm)),BH x roots (l++m) d=match BH x roots l d with | none=>none | some d'=>BH x roots m d'
 | [],_,_=>rfl
 |i::l,m,d=>by
  show(match AQ x roots d i with | none=>none | some t=>BH x roots (l++m) (d++[t]))=(match(match AQ x roots d i with | none=>none | some t=>BH x roots l (d++[t]))with | none=>none | some d'=>BH x roots m d');cases AQ x roots d i with
  |none=>rfl
  |some t=>exact Ft l m _
theorem LW{x:List Rl}{roots:List Rq}:∀{l:List Nf} {d d' : List (List Tm)},BH x roots l d=some d'->d <+: d'
 | [],d,d',h=>by cases h<;>simp_all
 |i::l,d,d',h=>by
  unfold BH at h;split at h
  .cases h
  .exact(List.prefix_append _ _).trans (LW h)
theorem Kp{l:List Nf}(h:BH x roots l []=some d)(k:Nat):BH x roots (l.take k) []=some (d.take k):=by
 rw[<-List.take_append_drop k l,Ft]at h;cases e:BH x roots (l.take k) []with
 |none=>simp_all
 |some f=>
  rw[e]at h;dsimp only at h;have h1:=H3 e;have h2:=H3 h;have h3:=LW h
  congr 1
  simp only[HY,BW,Td]at h1 h2;obtain⟨z,rfl⟩:=h3
  by_cases hk:k<=l.length
  .simp_all
  .rw[AD]at h2
   have:z=[]:=Ay Wk
   grind [List.take_of_length_le]
def Form:Prop:=A7 l=some l
theorem jG{l:List Tm}:∀(l2:List Tm),BN none (l2++l)->l.foldl (fun acc t=>Hw t acc) l2=l2++l:=by
 induction l with
 |nil=>simp_all
 |cons t r ih=>
  intro l2 h;have hi:Hw t l2=l2++[t]:=by
   have:∀(m:List Tm) (lo:Option ByteArray),BN lo (m++t::r)->Hw t m=m++[t]:=by
    intro m
    induction m with
    |nil=>
     intro lo hm;have hc:Eo t.set:=hm.2.1;unfold Hw;rw[show Df t=t from vM rfl rfl (JI hc)];rfl
    |cons u m ihm=>
     grind [BN,BN.low,Hw]
   grind
  simp_all
theorem QX{l:List Tm}(h:BN none l):Db l=l:=by
 grind [jG,Db]
theorem RH{l c:List Tm}(h:A7 l=some c):Form c:=by
 grind [E2,Form,A7,QX,List.filter_filter]
theorem TY:Form []:=rfl
theorem MP:Form (BU l):=by
 grind [BU,A7,TY,RH]
theorem N5(a b:List Tm)(p:ByteArray):Form (AU a b p).1:=by
 grind [AU,RH,TY]
theorem aH{l:List Tm}(h:OE l=some o):o=l:=by grind [OE]
theorem ab{i:Nf}(h:AQ x roots d i=some o):Form o:=by
 unfold AQ at h;split at h
 .split at h
  .rw[B3]at h;obtain⟨q,_,rfl⟩:=h;exact MP _
  simp_all
 .split at h
  .split at h
   .split at h
    .cases h
    .split at h
     .cases h
     .rw[aH h];exact MP _
   simp_all
  .split at h
   .split at h
    .rw[aH h];exact MP _
    simp_all
   grind [N5]
theorem NR{x:List Rl}{roots:List Rq}:∀{l:List Nf} {d d' : List (List Tm)},(∀t∈d,Form t)->BH x roots l d=some d'->∀t∈d',Form t
 | [],d,d',hd,h=>by cases h;exact hd
 |i::l,d,d',hd,h=>by
  unfold BH at h;split at h
  .cases h
  .rename_i o ho;refine NR (fun t ht=>?_) h
   grind [ab]
theorem JJ{l:List Nf}(h:(A1 x roots l).2=0):At x=0/\AH roots=0/\l.length<=65536/\BH x roots l []=some (A1 x roots l).1:=by
 grind [A1]
theorem TC{l:List Nf}(h1:At x=0)(h2:AH roots=0)(h3:l.length<=65536)(h:BH x roots l []=some d):A1 x roots l=(d,0):=by
 grind [A1]
-- tampering
def DX(l:AL):AL:=(l.map G8).filter fun x=>decide (x.1<x.2)
theorem Wm{l:AL}{x:Int×Int}(h:x∈DX l):0<=x.1/\x.1<x.2/\x.2<=1000000:=by
 grind [DX,G8]
theorem gZ(l:AL)(p:Int):(DX l).any (BP p)=has l p:=by
 rw[<-KE]
 induction l<;>grind [DX,canon,O0,BG]
theorem Oe:∀{l:AL} {lo:Int},EJ lo l↔(∀y∈l,lo<=y.1/\y.1<y.2/\y.2<=1000000)/\l.Pairwise fun a b=>a.2<b.1
 | [],lo=>by simp[EJ]
 |y::r,lo=>by
  rw[Es];constructor
  .intro h;have hl:=h.low;refine⟨hl,fun z hz=>?_,((Oe (l:=r)).1 h.2.2.2).2⟩
   have:=h.2.2.2.low z hz;omega
  .intro⟨h1,h2,h3⟩;have hy:=h1 y (Ag ..);refine⟨hy.1,hy.2.1,hy.2.2,Oe.2 ⟨fun z hz=>?_,h3⟩⟩
   grind
def JV(x:Int×Int):AL:=match r with
 | []=>[x]
 |y::t=>if x.1<=y.2 then(y.1,max y.2 x.2)::t else x::y::t
def BE(s:AL):AL:=s.foldl JV []
theorem FA(s:AL)(i:Nat)(h:i<s.length):BE (s.take (i+1))=JV (BE (s.take i)) s[i]:=by
 grind [BE,List.take_add_one]
theorem jW(x:Int×Int):(JV r x).length<=r.length+1/\r.length<=(JV r x).length/\0<(JV r x).length:=by
 unfold JV
 grind
theorem OB(s:AL):∀i,i<=s.length->(BE (s.take i)).length<=i/\(0<i->0<(BE (s.take i)).length):=by
 intro i
 induction i<;>grind [BE,FA,jW]
structure gx(r done:AL):Prop where
 ok:∀y∈r,0<=y.1/\y.1<y.2/\y.2<=1000000
 pw:r.Pairwise fun a b=>b.2<a.1
 has:∀p,r.any (BP p)=done.any (BP p)
 first:∀y t,r=y::t->∃x∈done,y.1=x.1
theorem jV{r done:AL}{x:Int×Int}(h:gx r done)(hx:0<=x.1/\x.1<x.2/\x.2<=1000000)(hs:∀y∈done,y.1<=x.1):gx (JV r x) (done++[x]):=by
 unfold JV;split
 .refine⟨fun y hy=>?_,by simp,fun p=>?_,fun y t e=>?_⟩
  all_goals grind [gx.has]
 .rename_i y t;have hy:=h.ok y (Ag ..);obtain⟨pw1,pw2⟩:=Es.1 h.pw;obtain⟨z,hz,e⟩:=h.first y t rfl
  have hyx:=hs z hz;split
  .rename_i Js;refine⟨fun u hu=>?_,Es.2 ⟨pw1,pw2⟩,fun p=>?_,fun u t' e'=>?_⟩
   .rcases AR.1 hu with rfl | hu
    .omega
    .exact h.ok u (Aj _ hu)
   .rw[List.any_append,<-h.has,EN,EN,EN,List.any_nil,Bool.or_false]
    grind [BP]
   grind
  .rename_i Js;refine⟨fun u hu=>?_,Es.2 ⟨fun u hu=>?_,h.pw⟩,fun p=>?_,fun u t' e'=>?_⟩
   .rcases AR.1 hu with rfl | hu
    .exact hx
    .exact h.ok u hu
   all_goals grind [gx.has]
theorem di{s:AL}(GR:∀y∈s,0<=y.1/\y.1<y.2/\y.2<=1000000)(hs:s.Pairwise fun a b=>a.1<=b.1):∀i,i<=s.length->gx (BE (s.take i)) (s.take i):=by
 intro i
 induction i with
 |zero=>intro _;exact⟨fun _ h=>by grind [BE],by simp[BE],fun p=>by simp[BE],fun y t e=>by grind [BE]⟩
 |succ i ih=>
  grind [FA,List.take_add_one,jV,List.mem_iff_getElem,List.pairwise_iff_getElem]
theorem LV{l s:AL}(hp:s.Perm (DX l))(hs:s.Pairwise fun a b=>a.1<=b.1):(BE s).reverse=canon l:=by
 have hi:=di (s:=s) (fun y hy=>Wm (hp.mem_iff.1 hy)) hs s.length (Ap _);rw[IW]at hi;have hc:Eo (BE s).reverse:=by
  unfold Eo;rw[Oe];refine⟨fun y hy=>hi.ok y (List.mem_reverse.1 hy),?_⟩
  grind [gx.pw]
 refine Tu hc fun p=>?_;rw[H7 hc,List.any_reverse,hi.has,<-gZ]
 grind
-- maps from numbers to numbers,as lists in the order in which they are met
def FM:Int:=match m.find? (fun p=>decide (p.1=k))with | some p=>p.2 | none=>0
def LH:List (Int×Int):=if m.any (fun p=>decide (p.1=k))then m.map (fun p=>if p.1=k then(k,v)else p)else m++[(k,v)]
theorem NG(p:Int×Int)(m:List (Int×Int))(k:Int):FM (p::m) k=if p.1=k then p.2 else FM m k:=by
 grind [FM]
theorem Qt:FM (LH m k v) j=if j=k then v else FM m j:=by
 unfold LH;split
 .rename_i h
  induction m with
  |nil=>simp_all
  |cons p m ih=>
   rw[Bo,NG,NG]
   by_cases e:p.1=k
   .rw[A3 e];dsimp only
    by_cases ej:j=k
    .omega
    .rw[AN (fun c=>ej c.symm),AN ej,AN (fun c=>ej (c.symm.trans e))]
     by_cases hm:(m.any fun p=>decide (p.1=k))=true
     .simp_all
     .have:∀q∈m,q.1≠k:=fun q hq e=>hm (BC.2 ⟨q,hq,by simp[e]⟩)
      have:m.map (fun p=>if p.1=k then(k,v)else p)=m:=by
       conv=>rhs;rw[<-Mi m]
       grind [List.map_congr_left]
      simp_all
   grind
 .rename_i h;have hn:∀q∈m,q.1≠k:=fun q hq e=>h (BC.2 ⟨q,hq,by simp[e]⟩)
  induction m<;>grind [NG]
def Fp:List Int:=m.map (·.1)
theorem WK:Fp (LH m k v)=if k∈Fp m then Fp m else Fp m++[k]:=by
 grind [LH,Fp,List.map_congr_left]
theorem MH{m:List (Int×Int)}(h:(Fp m).Nodup)(k v:Int):(Fp (LH m k v)).Nodup:=by
 grind [WK]
theorem KM:j∈Fp (LH m k v)↔j=k\/j∈Fp m:=by
 grind [WK]
theorem oA{m:List (Int×Int)}(h:(Fp m).Nodup){p:Int×Int}(hp:p∈m):FM m p.1=p.2:=by
 induction m<;>grind [NG,Fp]
theorem oC{m:List (Int×Int)}{k:Int}(h:k∉Fp m):FM m k=0:=by
 unfold FM
 have:m.find? (fun p=>decide (p.1=k))=none:=by
  rw[List.find?_eq_none];intro p hp;simp only[A4];exact fun e=>h (Ar.2 ⟨p,hp,e⟩)
 grind
-- counting
def cF:Nat:=S.countP fun x=>decide (x.1=k)
def cT:Nat:=S.countP fun x=>decide (x.2=k)
def lF:Nat:=S.countP fun x=>decide (x.1<=k)
def lT:Nat:=S.countP fun x=>decide (x.2<=k)
theorem Jo{α:Type}{p q r:α->Bool}:∀{l:List α},(∀x∈l,(p x=true↔q x=true\/r x=true)/\¬(q x=true/\r x=true))->l.countP p=l.countP q+l.countP r
 | [],_=>rfl
 |x::l,h=>by
  have ih:=Jo fun y hy=>h y (Aj _ hy)
  grind
structure F7(m:List (Int×Int))(S:AL):Prop where
 nd:(Fp m).Nodup
 val:∀k,FM m k=(cF S k:Int)-cT S k
 keys:0∈Fp m/\1000000∈Fp m/\∀x∈S,x.1∈Fp m/\x.2∈Fp m
 rng:∀k∈Fp m,0<=k/\k<=1000000
def xy:List (Int×Int):=[(0,0),(1000000,0)]
theorem pz:F7 xy []:=⟨by decide,fun k=>by
  grind [xy,FM,cF,cT],⟨by decide,by decide,fun _ h=>by cases h⟩,fun k hk=>by
  grind [xy,Fp]⟩
def br(x:Int×Int):List (Int×Int):=LH (LH m x.1 (FM m x.1+1)) x.2 (FM (LH m x.1 (FM m x.1+1)) x.2-1)
theorem jU{m:List (Int×Int)}{S:AL}{x:Int×Int}(h:F7 m S)(hx:0<=x.1/\x.1<x.2/\x.2<=1000000):F7 (br m x) (S++[x]):=by
 unfold br;refine⟨MH (MH h.nd _ _) _ _,fun k=>?_,⟨?_,?_,fun y hy=>?_⟩,fun k hk=>?_⟩
 .rw[Qt,Qt,Qt,h.val,h.val,h.val];unfold cF cT;simp only[List.countP_append,List.countP_singleton,A4]
  grind
 .grind [KM,F7.keys]
 .grind [KM,F7.keys]
 .grind [KM,F7.keys]
 .rw[KM,KM]at hk;rcases hk with rfl | rfl | hk
  .omega
  .omega
  .exact h.rng k hk
def I3(B:List Int):Int:=(B.map (FM m)).foldl (·+·) 0
theorem Rx(B:List Int)(i:Nat)(h:i<B.length):I3 m (B.take (i+1))=I3 m (B.take i)+FM m B[i]:=by
 grind [I3,List.take_add_one]
structure oY(B:List Int)(m:List (Int×Int)):Prop where
 perm:B.Perm (Fp m)
 srt:B.Pairwise fun a b=>a<b
theorem gj{m:List (Int×Int)}{S:AL}(h:F7 m S)(hB:oY B m):∀i (hi:i<B.length),I3 m (B.take (i+1))=(lF S B[i]:Int)-lT S B[i]:=by
 have mem:∀k,k∈Fp m->∃j,∃hj:j<B.length,B[j]=k:=fun k hk=>by
  have:=hB.perm.mem_iff.2 hk
  grind [List.mem_iff_getElem]
 have lt:∀i j (hi:i<B.length) (hj:j<B.length),i<j->B[i]<B[j]:=fun i j hi hj bD=>(Cs.1 hB.srt) i j hi hj bD;intro i
 induction i with
 |zero=>
  intro hi;rw[Rx m B 0 hi,h.val]
  have:I3 m (B.take 0)=0:=by simp[I3]
  rw[this];have low:∀k∈Fp m,B[0]<=k:=fun k hk=>by
   grind
  have e1:lF S B[0]=cF S B[0]:=by
   grind [lF,cF,List.countP_congr,F7.keys]
  grind [lT,cT,List.countP_congr,F7.keys]
 |succ i ih=>
  intro hi;rw[Rx m B (i+1) hi,ih Wk,h.val];have nb:∀k∈Fp m,k<=B[i+1]↔k<=B[i]\/k=B[i+1]:=fun k hk=>by
   grind
  have l0:=lt i (i+1) Wk hi Wk;have e1:lF S B[i+1]=lF S B[i]+cF S B[i+1]:=by
   unfold lF cF;apply Jo
   grind [F7.keys]
  have e2:lT S B[i+1]=lT S B[i]+cT S B[i+1]:=by
   unfold lT cT;apply Jo
   grind [F7.keys]
  omega
theorem Zj{S:AL}(hS:∀x∈S,x.1<x.2)(p:Int):(lF S p:Int)-lT S p=(S.countP (BP p):Nat):=by
 have:lF S p=S.countP (BP p)+lT S p:=by
  unfold lF lT
  grind [Jo,BP]
 omega
theorem Pl:∀{l:AL} {lo:Int} (p:Int),EJ lo l->l.countP (BP p)=if l.any (BP p)then 1 else 0
 | [],_,_,_=>rfl
 |y::r,lo,p,⟨h1,h2,h3,h4⟩=>by
  rw[List.countP_cons,Pl p h4,EN];cases hy:BP p y with
  |false=>grind
  |true=>
   have:=Em.1 hy
   have:r.any (BP p)=false:=by
    rw[A8];intro hr;have:=Pb h4 hr;omega
   simp_all
theorem Mp:∀(l:List AL) (p:Int),((l.map canon).flatten).countP (BP p)=lh l p
 | [],_=>rfl
 |s::l,p=>by
  rw[Bo,Ck,List.countP_append,Mp l p,Pl p (BG s),KE]
  grind [lh]
def EB(keep:Nat->Bool)(m:List (Int×Int))(B:List Int):Nat->AL
 |0=>[]
 |i+1=>EB keep m B i++(match B[i]?,B[i+1]? with
  |some a,some b=>if keep (I3 m (B.take (i+1))).toNat then [(a,b)]else []
  |_,_=>[])
theorem QS{keep:Nat->Bool}{m:List (Int×Int)}{B:List Int}{x:Int×Int}:∀{n:Nat},x∈EB keep m B n↔∃i,i<n/\∃(h1:i<B.length) (h2:i+1<B.length),keep (I3 m (B.take (i+1))).toNat=true/\x=(B[i],B[i+1])
 |0=>by simp[EB]
 |n+1=>by
  unfold EB;rw[Bi,QS (n:=n)]
  grind
theorem Pe{B:List Int}(hs:B.Pairwise fun a b=>a<b){p:Int}:∀(n:Nat) (h0:0<B.length) (hn:n<B.length),B[0]<=p->p<B[n]->∃i,∃(h1:i<B.length) (h2:i+1<B.length),B[i]<=p/\p<B[i+1]
 |0,h0,hn,h1,h2=>by omega
 |n+1,h0,hn,h1,h2=>by
  by_cases e:B[n]<=p
  .grind
  .exact Pe hs n h0 Wk h1 Wk
theorem mP{keep:Nat->Bool}{l:List AL}{m:List (Int×Int)}(h:F7 m (l.map canon).flatten)(hB:oY B m)(p:Int):has (EB keep m B (B.length-1)) p=(PM p&&keep (lh l p)):=by
 have hS:∀x∈(l.map canon).flatten,x.1<x.2:=fun x hx=>by
  obtain⟨s,hs,hx⟩:=Fm.1 hx;obtain⟨t,_,rfl⟩:=Ar.1 hs;exact((BG t).low x hx).2.1
 have mem:∀k,k∈Fp m->∃j,∃hj:j<B.length,B[j]=k:=fun k hk=>by
  obtain⟨j,hj,e⟩:=Dn.1 (hB.perm.mem_iff.2 hk)<;>grind [List.mem_iff_getElem]
 have lt:∀i j (hi:i<B.length) (hj:j<B.length),i<j->B[i]<B[j]:=fun i j hi hj bD=>(Cs.1 hB.srt) i j hi hj bD;have rng:∀i (hi:i<B.length),0<=B[i]/\B[i]<=1000000:=fun i hi=>h.rng _ (hB.perm.mem_iff.1 (Ah hi))
 -- pi two bounds
 have pi:∀i (h1:i<B.length) (h2:i+1<B.length),B[i]<=p->p<B[i+1]->(I3 m (B.take (i+1))).toNat=lh l p:=fun i h1 h2 a b=>by
  have same:∀k∈Fp m,k<=B[i]↔k<=p:=fun k hk=>by
   grind
  have e1:lF (l.map canon).flatten B[i]=lF (l.map canon).flatten p:=by
   grind [lF,List.countP_congr,F7.keys]
  grind [lT,List.countP_congr,gj,Zj,Mp,F7.keys]
 rw[Cy];constructor
 .grind [has,QS,Em,PM]
 .intro hh;simp only[Ak,PM,A4]at hh;obtain⟨⟨p0,p1⟩,hk⟩:=hh;obtain⟨j0,hj0,e0⟩:=mem 0 h.keys.1;obtain⟨j1,hj1,e1⟩:=mem 1000000 h.keys.2.1;have hb0:B[0]' Wk<=p:=by
   grind
  obtain⟨i,h1,h2,a,b⟩:=Pe hB.srt j1 Wk hj1 hb0 Wk;unfold has;simp only[p0,p1,decide_true,Sn];exact BC.2 ⟨(B[i],B[i+1]),QS.2 ⟨i,by omega,h1,h2,by simp_all,rfl⟩,Em.2 ⟨a,b⟩⟩
theorem ol{l:List AL}{m:List (Int×Int)}(h:F7 m (l.map canon).flatten)(hB:oY B m)(i:Nat)(hi:i<B.length):0<=I3 m (B.take (i+1))/\I3 m (B.take (i+1))<=l.length:=by
 have hS:∀x∈(l.map canon).flatten,x.1<x.2:=fun x hx=>by
  obtain⟨s,hs,hx⟩:=Fm.1 hx;obtain⟨t,_,rfl⟩:=Ar.1 hs;exact((BG t).low x hx).2.1
 rw[gj h hB i hi,Zj hS,Mp]
 grind [lh]
def Yn(m:List Tm)(t:Tm):List Tm:=if m.any (fun u=>decide (u.path=t.path))then m.map (fun u=>if u.path=t.path then t else u)else m++[t]
def stepT(m:List Tm)(t:Tm):List Tm:=Yn m (Sz (Dp m t.path) t)
def Dv:List Tm:=l.foldl stepT []
theorem im(p:ByteArray):∀m:List Tm,Dp (Yn m t) p=if t.path=p then some t else Dp m p:=by
 intro m;unfold Yn
 by_cases h:(m.any fun u=>decide (u.path=t.path))=true
 .rw[A3 h]
  induction m with
  |nil=>simp_all
  |cons u m ih=>
   rw[Bo,EK,EK]
   by_cases e:u.path=t.path
   .rw[A3 e]
    by_cases ep:t.path=p
    .simp_all
    .rw[AN ep,AN ep,AN (fun c=>ep (e.symm.trans c))]
     by_cases hm:(m.any fun u=>decide (u.path=t.path))=true
     .simp_all
     .have:∀q∈m,q.path≠t.path:=fun q hq c=>hm (BC.2 ⟨q,hq,by simp[c]⟩)
      have:m.map (fun u=>if u.path=t.path then t else u)=m:=by
       conv=>rhs;rw[<-Mi m]
       grind [List.map_congr_left]
      simp_all
   grind
 .rw[AN h];have hn:∀q∈m,q.path≠t.path:=fun q hq e=>h (BC.2 ⟨q,hq,by simp[e]⟩)
  clear h
  induction m<;>grind [EK]
def EZ(m:List Tm):List ByteArray:=m.map (·.path)
open Classical in
theorem dy(m:List Tm)(t:Tm):EZ (Yn m t)=if t.path∈EZ m then EZ m else EZ m++[t.path]:=by
 grind [Yn,EZ,List.map_congr_left]
theorem jo{m:List Tm}(h:(EZ m).Nodup)(t:Tm):(EZ (Yn m t)).Nodup:=by
 grind [dy]
theorem RZ(h:i<l.length):Dv (l.take (i+1))=stepT (Dv (l.take i)) l[i]:=by
 grind [Dv,List.take_add_one]
theorem PB:∀(l m:List Tm),(EZ m).Nodup->(EZ (l.foldl stepT m)).Nodup
 | [],_,h=>h
 |_::l,_,h=>PB l _ (jo h _)
theorem Ia:(EZ (Dv l)).Nodup:=PB l [] .nil
theorem Zx(m:List Tm)(t:Tm)(p:ByteArray):Dp (stepT m t) p=Km p (Dp m p) t:=by
 grind [stepT,Km,Rf,Ll,im]
theorem Px(p:ByteArray):∀(l m:List Tm),Dp (l.foldl stepT m) p=l.foldl (Km p) (Dp m p)
 | [],_=>rfl
 |t::l,m=>by rw[FH,FH,Px p l,Zx]
theorem cA(p:ByteArray):Dp (Dv l) p=Dp (Db l) p:=by
 unfold Dv;rw[Px,Jq];rfl
theorem RQ{m:List Tm}(h:(EZ m).Nodup){t:Tm}:t∈m↔Dp m t.path=some t:=by
 constructor
 .induction m<;>grind [EZ,EK]
 .exact GZ
theorem ML{m:List Tm}(h:(EZ m).Nodup):m.Nodup:=by
 unfold EZ at h
 induction m<;>grind
theorem Ih{l:List Tm}{lo:Option ByteArray}(h:BN lo l):(EZ l).Nodup:=by
 unfold EZ
 induction l generalizing lo with
 |nil=>simp_all
 |cons t l ih=>
  rw[Bo,GE];refine⟨fun hm=>?_,ih h.2.2⟩;obtain⟨u,hu,e⟩:=Ar.1 hm
  have:=h.2.2.low u hu
  grind [Dg]
theorem Jy:t∈Dv l↔t∈Db l:=by
 grind [RQ,Ia,cA,Ih,DL]
theorem PT:∀t∈Dv l,Eo t.set:=fun t ht=>(DL l).canon t ((Jy l t).1 ht)
theorem jX(m:List Tm)(t:Tm):(stepT m t).length<=m.length+1:=by
 grind [stepT,Yn]
theorem OA:∀i,i<=l.length->(Dv (l.take i)).length<=i:=by
 intro i
 induction i<;>grind [Dv,RZ,jX]
theorem dM(hs:s.Pairwise fun x y=>Ez x.path y.path=true)(hc:∀t∈s,Eo t.set):BN none s:=by
 have:∀(s:List Tm) (lo:Option ByteArray),s.Pairwise (fun x y=>Ez x.path y.path=true)->(∀t∈s,Eo t.set)->(∀p,lo=some p->∀t∈s,Ez p t.path=true)->BN lo s:=by
  intro s
  induction s with
  |nil=>intro _ _ _ _;trivial
  |cons t s ih=>
   intro lo hs hc hl;obtain⟨h1,h2⟩:=Es.1 hs;exact⟨fun p e=>hl p e t (Ag ..),hc t (Ag ..),ih _ h2 (fun u hu=>hc u (Aj _ hu)) fun p e u hu=>by simp_all⟩
 simp_all
theorem QH{l:List Tm}(q:Tm->Bool)(hp:s.Perm ((Dv l).filter q))(hs:s.Pairwise fun x y=>Ez y.path x.path=false):s=(Db l).filter q:=by
 have hm:∀t,t∈s↔t∈(Db l).filter q:=fun t=>by
  grind [Jy]
 have Vu:(EZ s).Nodup:=by
  grind [EZ,Ia]
 have Jt:s.Pairwise fun x y=>Ez x.path y.path=true:=by
  grind [List.pairwise_iff_getElem,Iy,EZ]
 have hss:BN none s:=dM Jt fun t ht=>(DL l).canon t (Cr.1 ((hm t).1 ht)).1;have qy:BN none ((Db l).filter q):=BN.filter q (DL l)
 grind [M2,Dp,GQ]
theorem bZ:EH t t=Df t:=by grind [EH,Df,c8]
theorem fX(o:Option Tm)(t:Tm):Sz o t=EH (o.getD t) t:=by cases o with | none=>exact(bZ t).symm | some u=>rfl
theorem gF{t:Tm}(h:Eo t.set):(t.absent&&(BV t.set).isEmpty)=Fx t:=by
 unfold Fx
 congr 1
 rw[Cy,IU,A4];have ha:Eo [(0,1000000)]:=⟨Cb _,by omega,Cb _,trivial⟩;constructor
 .intro e;refine Fy h ha fun p=>?_
  have:=Fu t.set p
  grind [has,PM,BP]
 grind [Ra,GL,Fu,has,BP]
theorem mY{t:Tm}(h:Eo t.set):(!t.absent&&(canon t.set).isEmpty)=F4 t:=by grind [F4,JI]
end Go.Eng
namespace Go.Eng
open Go.Lib
theorem Ru(c:UInt8):∀(s:List UInt8) (k:Nat),s.count c<=k->splitK [c] 0 k s=CD c s
 | [],k,_=>by
  cases k with
  |zero=>rfl
  |succ k=>rfl
 |b::r,k,h=>by
  rw[CD]
  by_cases e:b=c
  .subst e;rw[List.count_cons_self]at h;obtain⟨k',rfl⟩:∃k',k=k'+1:=⟨k-1,by omega⟩;rw[A3 rfl,splitK,index_one,indexByte];simp only[beq_self_eq_true,if_true];rw[AN aa1];show []::splitK [b] 0 k' r=_;rw[Ru b r k' Wk]
  .have EG:(b == c)=false:=by simp_all
   rw[List.count_cons_of_ne Wk]at h;have ih:=Ru c r k h;rw[AN e];cases k with
   |zero=>
    rw[<-ih];rfl
   |succ k=>
    rw[<-ih,splitK,splitK,index_one,index_one,indexByte,EG]
    by_cases h0:indexByte r c=-1
    .simp_all
    .have h1:(indexByte r c == -1)=false:=by simp_all
     have h2:=indexByte_ge r c;have h3:(indexByte r c+1 == -1)=false:=by grind
     simp only[OW,if_false,h1,h3];obtain⟨i,hi⟩:∃i:Nat,indexByte r c=i:=⟨(indexByte r c).toNat,by omega⟩<;>simp_all
theorem Zi(c:UInt8):∀(n:Nat) (s:List UInt8),s.length<=n->count s [c]=s.count c
 |n,s,hn=>by
  rcases Int.lt_or_le (indexByte s c) 0 with h | h
  .have h2:=indexByte_ge s c;have h3:indexByte s c=-1:=by omega
   rw[count_miss (by grind [index_one])]
   symm
   rw[List.count_eq_zero];intro hm;obtain⟨k,hk,e⟩:=He hm;exact indexByte_none h3 k (by simp_all)
  .obtain⟨i,hi⟩:∃i:Nat,indexByte s c=i:=⟨(indexByte s c).toNat,by omega⟩;obtain⟨h1,h2⟩:=indexByte_some hi;obtain⟨hl,hg⟩:=Bf.1 h1;cases n with
   |zero=>omega
   |succ n=>
    have hc:=count_hit (s:=s) (sub:=[c]) (i:=i) aa0 (by grind [index_one]);rw[hc];have ih:=Zi c n (s.drop (i+1)) (by grind);have hsp:s=s.take i++c::s.drop (i+1):=by
     grind [List.drop_eq_getElem_cons,List.take_append_drop]
    grind [List.count_eq_zero,List.getElem_of_mem]
theorem jT(s:ByteArray)(c:UInt8):((splitB ⟨#[c]⟩ 0 (countB s ⟨#[c]⟩) s).map (·.data.toList))=CD c s.data.toList:=by
 rw[splitB_data];refine Ru c _ _ ?_;show _<=count s.data.toList [c];rw[Zi c _ _ (Ap _)];omega
end Go.Eng
namespace Go.Eng
variable {p:ByteArray}{t:List Tm}{D:List Sl}{U:List ByteArray}{d:List (List Tm)}{l c b:List Tm}{S:List Sl}{v:Ver}{k:Nat}{v':Ver}(x:List Rl)(roots:List Rq)
theorem WU{α:Type}:∀{l m:List α},l.Nodup->(∀x∈l,x∈m)->l.length<=m.length
 | [],_,_,_=>Al _
 |a::l,m,hn,hs=>by
  obtain⟨h1,h2⟩:=GE.1 hn;obtain⟨s,t,rfl⟩:=List.append_of_mem (hs a (Ag ..))
  have:l.length<=(s++t).length:=WU h2 fun x hx=>by
   grind
  grind
theorem LY(p:ByteArray):∀(l:List Tm) (o:Option Tm),(∀u∈l,u.path≠p)->l.foldl (Km p) o=o
 | [],_,_=>rfl
 |t::l,o,h=>by
  rw[FH,show Km p o t=o by grind [Km]];exact LY p l o fun u hu=>h u (Aj _ hu)
theorem dj{t:Tm}(h:t∈Db l):∃u∈l,u.path=t.path:=by
 grind [GQ,DL,Jq,LY]
def Qy(U:List ByteArray)(t:List Tm):Prop:=BN none t/\∀u∈t,u.path∈U
theorem Qy.len(h:Qy U t):t.length<=U.length:=by
 have:=WU (Ih h.1) (m:=U) fun p hp=>by
  obtain⟨u,hu,rfl⟩:=Ar.1 hp;exact h.2 u hu
 grind [EZ]
theorem cc(h:A7 l=some c){t:Tm}(ht:t∈c):t∈Db l:=by
 grind [A7]
theorem QG(h:A7 l=some c)(hu:∀u∈l,u.path∈U):Qy U c:=
 ⟨E2 h,fun t ht=>by
  obtain⟨u,h1,h2⟩:=dj (cc h ht)<;>grind⟩
theorem Qy.nil(U:List ByteArray):Qy U []:=⟨trivial,fun u hu=>by cases hu⟩
theorem UN(hu:∀u∈l,u.path∈U):Qy U (BU l):=by
 grind [BU,A7,QG,Qy.nil]
theorem Sf{a:List Tm}(ha:Qy U a)(hb:Qy U b):Qy U (AU a b p).1:=by
 have sp:∀{l r:List Tm} {t:Tm},Qy U l->DS l p=some (t,r)->t.path∈U/\∀u∈r,u.path∈U:=by
  intro l r t hl h;unfold DS at h;cases e:A7 l with
  |none=>simp_all
  |some c=>
   rw[e]at h;have h:(match Dp c p with | none=>none | some t=>some (t,AI c p))=some (t,r):=h;have hc:=QG e hl.2;cases e2:Dp c p with
   |none=>simp_all
   |some u=>
    rw[e2]at h;cases h;exact⟨hc.2 _ (GZ e2),fun u hu=>hc.2 u (Cr.1 hu).1⟩
 unfold AU;split
 .rename_i t r u m e1 e2;obtain⟨a1,a2⟩:=sp ha e1;obtain⟨b1,b2⟩:=sp hb e2;split
  .rename_i o e3;refine QG e3 fun v hv=>?_;rcases Bi.1 hv with hv | hv
   .grind
   .rw[AJ.1 hv];exact a1
  .exact .nil U
 .exact .nil U
def Hb(l:List Nf):List ByteArray:=(x.map (·.path))++((x.map (·.reqs)).flatten.map (·.path)++(roots.map (·.path)++l.map (·.path)))
theorem Nj{x:List Rl}{roots:List Rq}{l:List Nf}{i:Nf}(hi:i∈l)(hd:∀t∈d,Qy (Hb x roots l) t)(h:AQ x roots d i=some t):Qy (Hb x roots l) t:=by
 have hp:i.path∈Hb x roots l:=by
  grind [Hb]
 have nz:∀{α:Type} {l:List α} {k:Int} {a:α},DN l k=some a->a∈l:=by
  grind [DN]
 have n0:∀{a b:List Tm},OE a=some b->b=a:=by
  grind [OE]
 unfold AQ at h;split at h
 .split at h
  .cases e:DN roots i.number with
   |none=>simp_all
   |some q=>
    rw[e]at h;cases h;refine UN fun u hu=>?_;rw[AJ.1 hu];unfold Hb;exact B7 _ (B7 _ (Bw _ (Ar.2 ⟨q,nz e,rfl⟩)))
  simp_all
 split at h
 .split at h
  .cases e:Dj x i.path i.place with
   |none=>simp_all
   |some r=>
    rw[e]at h;have h:(match DN r.reqs i.number with | none=>none | some q=>OE (BM i.path i.place q))=some t:=h;cases e2:DN r.reqs i.number with
    |none=>simp_all
    |some q=>
     rw[e2]at h;have h:=n0 (show OE (BM i.path i.place q)=some t from h);subst h;refine UN fun u hu=>?_;rcases AR.1 hu with rfl | hu
     .exact hp
     .rw[AJ.1 hu];unfold Hb;refine B7 _ (Bw _ (Ar.2 ⟨q,?_,rfl⟩));exact Fm.2 ⟨r.reqs,Ar.2 ⟨r,Br e,rfl⟩,nz e2⟩
  simp_all
 split at h
 .split at h
  .have h:=n0 h;subst h;refine UN fun u hu=>?_;simp_all
  simp_all
 grind [Sf]
structure Cd where
 place:Int
 rel:Rl
structure Nd where
 rq:Rq
 path:ByteArray
 place:Int
 number:Int
variable (n:Nd)
structure SS where
 infs:List Nf
 drv:List (List Tm)
 full:Bool
variable {s':SS}(s:SS)
abbrev QT(c:Cd):Sl:=⟨c.rel.path,c.rel.ver⟩
abbrev AA(l:List Cd):List Sl:=l.map QT
def BA(p:ByteArray):List Cd:=(x.filter fun r=>decide (r.path=p)&&!r.yanked).map fun r=>⟨plc r.ver,r⟩
def MN(f:Rq->Nat->Nd):Nat->List Rq->List Nd
 |_,[]=>[]
 |i,q::l=>f q i::MN f (i+1) l
def bl:List Nd:=MN (fun q i=>⟨q,mt,0,i⟩) 0 roots
def Rh(c:Cd):List Nd:=MN (fun q i=>⟨q,c.rel.path,c.place,i⟩) 0 c.rel.reqs
def Dr(dec:List Cd):List Nd:=bl roots++(dec.map Rh).flatten
def Dz(dec:List Cd)(p:ByteArray):Bool:=dec.any fun c=>decide (c.rel.path=p)
def En(dec:List Cd)(a:ByteArray×List Nd)(n:Nd):ByteArray×List Nd:=
 if Dz dec n.rq.path=true\/(a.2≠[]/\Ez a.1 n.rq.path=true)then a
 else if a.2≠[]/\Ez n.rq.path a.1=true then(n.rq.path,[n])else(n.rq.path,a.2++[n])
def EV(dec:List Cd):ByteArray×List Nd:=(Dr roots dec).foldl (En dec) (mt,[])
def fI(l:List Cd)(n:Nd):Bool:=l.any fun d=>decide (d.rel.path=n.rq.path)&&!has n.rq.set d.place
def D3(dec:List Cd)(c:Cd):Option Nd:=(Rh c).find? (fI (dec++[c]))
def Pq(s:List Sl):Nat->List (List Tm)->Option Nat
 |_,[]=>none
 |i,t::l=>if Bp t s then some i else Pq s (i+1) l
def Og(d:List (List Tm))(s:List Sl):Option Nat:=Pq s 0 d
def DJ(l:List Tm)(p:ByteArray):Bool:=l.any fun t=>decide (t.path=p)
instance:DecidableEq Nf:=fun a b=>by
 obtain⟨a1,a2,a3,a4,a5,a6⟩:=a;obtain⟨b1,b2,b3,b4,b5,b6⟩:=b;exact decidable_of_iff (a1=b1/\a2=b2/\a3=b3/\a4=b4/\a5=b5/\a6=b6) ⟨fun⟨h1,h2,h3,h4,h5,h6⟩=>by simp_all,fun h=>by simp_all⟩
def Me(i:Nf):Nat->List Nf->Option Nat
 |_,[]=>none
 |k,j::l=>if j=i then some k else Me i (k+1) l
def Ea(i:Nf)(l:List Tm):Nat×SS:=
 match Me i 0 s.infs with
 |some k=>(k,s)
 |none=>if 65536<=s.infs.length then(s.infs.length-1,⟨s.infs,s.drv,true⟩)else(s.infs.length,⟨s.infs++[i],s.drv++[l],s.full⟩)
def PO:Nf:=if n.path=mt then⟨0,mt,0,n.number,0,0⟩else⟨1,n.path,n.place,n.number,0,0⟩
def Ir:List Tm:=if n.path=mt then Gy n.rq else BM n.path n.place n.rq
def Bx(n:Nd):Nat×SS:=Ea s (PO n) (Ir n)
abbrev Eh(k:Nat):List Tm:=s.drv.getD k []
def B4(p:ByteArray):List Nat->Nat->SS->Nat×SS
 | [],k,s=>(k,s)
 |r::l,k,s=>
  if s.full=true\/DJ (Eh s k) p=false then(k,s)
  else if r=k then B4 p l k s
  else if(AU (Eh s k) (Eh s r) p).2≠0 then B4 p l k s
  else B4 p l (Ea s ⟨3,p,0,0,k,r⟩ (AU (Eh s k) (Eh s r) p).1).1 (Ea s ⟨3,p,0,0,k,r⟩ (AU (Eh s k) (Eh s r) p).1).2
def Ep(p:ByteArray)(s:SS):Nat×SS:=Ea s ⟨2,p,0,0,0,0⟩ (D7 p (A9 x p))
def DC(p:ByteArray)(n:Nd)(reasons:List Nat)(s:SS):Nat×SS:=
 B4 p ((Ep x p (Bx s n).2).1::reasons) (Bx s n).1 (Ep x p (Bx s n).2).2
structure Kz where
 res:Nat
 found:Bool
 ss:SS
 dec:List Cd
 stack:List (List Sk)
def DR(rec:List Cd->SS->List (List Sk)->Kz)(x:List Rl)(p:ByteArray)(needs:List Nd)(n0:Nd)(dec:List Cd)(stack:List (List Sk)):List Cd->SS->List Nat->List Sk->Kz
 | [],s,reasons,_=>⟨(DC x p n0 reasons s).1,false,(DC x p n0 reasons s).2,dec,stack⟩
 |c::cs,s,reasons,skips=>
  let after (k:Nat) (s:SS):Kz:=if DJ (Eh s k) p=false then⟨k,false,s,dec,stack⟩else DR rec x p needs n0 dec stack cs s (reasons++[k]) (skips++[⟨p,c.place,k⟩])
  if s.full=true then⟨0,false,s,dec,stack⟩
  else match needs.find? fun n=>!has n.rq.set c.place with
   |some n=>DR rec x p needs n0 dec stack cs (Bx s n).2 (reasons++[(Bx s n).1]) skips
   |none=>match Og s.drv (AA (dec++[c]))with
    |some k=>after k s
    |none=>match D3 dec c with
     |some n=>after (Bx s n).1 (Bx s n).2
     |none=>
      let o:=rec (dec++[c]) s (stack++[skips])
      if o.found=true then⟨0,true,o.ss,o.dec,o.stack⟩
      else if o.ss.full=true then⟨0,false,o.ss,dec,stack⟩
      else after o.res o.ss
def CC(x:List Rl)(roots:List Rq):Nat->List Cd->SS->List (List Sk)->Kz
 |0,dec,s,stack=>⟨0,false,s,dec,stack⟩
 |n+1,dec,s,stack=>match(EV roots dec).2 with
  | []=>⟨0,true,s,dec,stack⟩
  |n0::l=>DR (CC x roots n) x (EV roots dec).1 (n0::l) n0 dec stack (BA x (EV roots dec).1) s [] []
abbrev z8:SS:=⟨[],[],false⟩
def FX(dec:List Cd):Nat:=(x.filter fun r=>!r.yanked&&!Dz dec r.path).length
def Fe:Kz:=CC x roots (x.length+1) [] z8 []
theorem Qd(f:Rq->Nat->Nd):∀(l:List Rq) (i k:Nat),(MN f i l)[k]?=(l[k]?).map fun q=>f q (i+k)
 | [],i,k=>by simp[MN]
 |q::l,i,0=>by simp[MN]
 |q::l,i,k+1=>by
  have h:=Qd f l (i+1) k
  grind [MN]
theorem MO(f:Rq->Nat->Nd):∀(l:List Rq) (i:Nat),(MN f i l).length=l.length
 | [],_=>rfl
 |_::l,i=>by simp[MN,MO f l (i+1)]
theorem Qe{f:Rq->Nat->Nd}{l:List Rq}{n:Nd}(h:n∈MN f 0 l):∃k q,l[k]?=some q/\n=f q k:=by
 grind [List.mem_iff_getElem?,Qd]
theorem SW{f:Rq->Nat->Nd}(hf:∀q i,(f q i).rq=q):∀(l:List Rq) (i:Nat),(MN f i l).map (·.rq)=l
 | [],_=>rfl
 |q::l,i=>by simp[MN,hf,SW hf l (i+1)]
abbrev Hk(dec:List Cd):List Rq:=roots++(dec.map fun c=>c.rel.reqs).flatten
theorem Jz(dec:List Cd):(Dr roots dec).map (·.rq)=Hk roots dec:=by
 unfold Dr bl;rw[Bk,SW (fun _ _=>rfl),List.map_flatten,BX]
 congr 2
 exact Ce fun c _=>SW (fun _ _=>rfl) _ _
theorem GM(dec:List Cd)(p:ByteArray):BS (AA dec) p=Dz dec p:=by
 grind [BS,Dz,List.any_map]
theorem JQ(before:List Sl):∀{l:List Rq} {a p:ByteArray},CG before l (some a)=some p->p=a\/Ez p a=true
 | [],a,p,h=>by cases h<;>simp_all
 |q::l,a,p,h=>by
  unfold CG at h;split at h
  .exact JQ before h
  .dsimp only at h;split at h
   .rename_i hb;rcases JQ before h with e | e<;>grind [Ei]
   .exact JQ before h
theorem IQ(before:List Sl):∀{l:List Rq} {a:ByteArray},CG before l (some a)≠none
 | [],a=>by simp[CG]
 |q::l,a=>by
  unfold CG;split
  .exact IQ before
  .dsimp only;split<;>exact IQ before
theorem Nt(dec:List Cd):∀(L:List Nd) (a:ByteArray×List Nd),(a.2≠[]->Dz dec a.1=false) ->
  L.foldl (En dec) a=match CG (AA dec) (L.map (·.rq)) (if a.2=[]then none else some a.1)with
   |none=>a
   |some p=>(p,(if a.2≠[]/\a.1=p then a.2 else [])++L.filter fun n=>decide (n.rq.path=p))
 | [],a,h=>by
  grind [CG]
 |n::L,a,h=>by
  obtain⟨p0,o⟩:=a;rw[FH,Bo];have Ag4:∀(acc:Option ByteArray) (l:List Rq),(∀p,acc=some p->Dz dec p=false)->∀p,CG (AA dec) l acc=some p->Dz dec p=false:=fun acc l ha p hp=>by
   grind [Kj,GM]
  cases hd:Dz dec n.rq.path with
  |true=>
   have e1:En dec (p0,o) n=(p0,o):=by grind [En]
   have e2:CG (AA dec) (n.rq::L.map (·.rq)) (if o=[]then none else some p0)=CG (AA dec) (L.map (·.rq)) (if o=[]then none else some p0):=by
    grind [CG,GM]
   rw[e1,e2,Nt dec L (p0,o) h];dsimp only;cases hg:CG (AA dec) (L.map (·.rq)) (if o=[]then none else some p0)<;>grind [CG]
  |false=>
   have Vu:BS (AA dec) n.rq.path=false:=by grind [GM]
   by_cases ho:o=[]
   .subst ho;have e1:En dec (p0,[]) n=(n.rq.path,[n]):=by
     grind [En]
    have e2:CG (AA dec) (n.rq::L.map (·.rq)) none=CG (AA dec) (L.map (·.rq)) (some n.rq.path):=by
     grind [CG]
    rw[e1,Nt dec L (n.rq.path,[n]) (fun _=>hd),A3 rfl,e2]
    grind [IQ]
   .have hif:(if o=[]then none else some p0)=some p0:=AN ho;rw[hif];cases hb:Ez p0 n.rq.path with
    |true=>
     have e1:En dec (p0,o) n=(p0,o):=by grind [En]
     have oL:Ez n.rq.path p0=false:=gP hb;have e2:CG (AA dec) (n.rq::L.map (·.rq)) (some p0)=CG (AA dec) (L.map (·.rq)) (some p0):=by
      grind [CG]
     rw[e1,e2,Nt dec L (p0,o) h]
     grind [JQ]
    |false=>
     cases oL:Ez n.rq.path p0 with
     |true=>
      have e1:En dec (p0,o) n=(n.rq.path,[n]):=by
       grind [En]
      have e2:CG (AA dec) (n.rq::L.map (·.rq)) (some p0)=CG (AA dec) (L.map (·.rq)) (some n.rq.path):=by
       grind [CG]
      rw[e1,e2,Nt dec L (n.rq.path,[n]) (fun _=>hd),AN aa0]
      grind [IQ,JQ]
     |false=>
      have e0:n.rq.path=p0:=Iy oL hb;have e1:En dec (p0,o) n=(p0,o++[n]):=by
       grind [En]
      have e2:CG (AA dec) (n.rq::L.map (·.rq)) (some p0)=CG (AA dec) (L.map (·.rq)) (some p0):=by
       grind [CG]
      rw[e1,e2,Nt dec L (p0,o++[n]) (fun _=>by simp_all),AN aa0];cases hg:CG (AA dec) (L.map (·.rq)) (some p0)<;>grind [IQ]
theorem UG(dec:List Cd):EV roots dec=match DM (Hk roots dec) (AA dec)with
  |none=>(mt,[])
  |some p=>(p,(Dr roots dec).filter fun n=>decide (n.rq.path=p)):=by
 grind [EV,DM,Nt,Jz]
theorem UH{roots:List Rq}{dec:List Cd}:(EV roots dec).2=[]↔DM (Hk roots dec) (AA dec)=none:=by
 rw[UG];cases h:DM (Hk roots dec) (AA dec)with
 |none=>simp
 |some p=>
  simp only[reduceCtorEq,iff_false];obtain⟨_,q,hq,e⟩:=Is h;rw[<-Jz]at hq;obtain⟨n,hn,rfl⟩:=Ar.1 hq;exact List.ne_nil_of_mem (Cr.2 ⟨hn,by simp_all⟩)
structure YL(roots:List Rq)(dec:List Cd)(p:ByteArray)(l:List Nd):Prop where
 next:DM (Hk roots dec) (AA dec)=some p
 undone:Dz dec p=false
 mem:∀n,n∈l↔n∈Dr roots dec/\n.rq.path=p
theorem Ly{roots:List Rq}{dec:List Cd}{n0:Nd}{l:List Nd}(h:(EV roots dec).2=n0::l):YL roots dec (EV roots dec).1 (n0::l):=by
 rw[<-h];rw[UG]at *
 cases hp:DM (Hk roots dec) (AA dec)with
 |none=>simp_all
 |some p=>
  dsimp only;refine⟨hp,by rw[<-GM];grind [Is],fun n=>?_⟩
  grind
theorem La{x:List Rl}{c:Cd}:c∈BA x p↔∃r∈x,r.path=p/\r.yanked=false/\c=⟨plc r.ver,r⟩:=by
 grind [BA]
theorem NA{i:Nf}:∀{l:List Nf} {k m:Nat},Me i k l=some m->∃j,m=k+j/\l[j]?=some i
 | [],_,_,h=>by cases h
 |y::l,k,m,h=>by
  unfold Me at h;split at h
  .simp_all
  .obtain⟨j,h1,h2⟩:=NA h;exact⟨j+1,by omega,h2⟩
theorem Rd{i:Nf}:∀{l:List Nf} {k:Nat},Me i k l=none->i∉l
 | [],_,_=>by simp
 |y::l,k,h=>by
  unfold Me at h;split at h
  .cases h
  .rename_i e
   have:=Rd h
   grind
theorem aN{α:Type}{d d' : List α}{i:Int}{a:α}(h:DN d i=some a)(hp:d <+: d'):DN d' i=some a:=by
 unfold DN at *
 split at h
 .cases h
 .rename_i hi;rw[AN hi];obtain⟨t,rfl⟩:=hp<;>grind
theorem ac{x:List Rl}{roots:List Rq}{d':List (List Tm)}{i:Nf}{o:List Tm}(h:AQ x roots d i=some o)(hp:d <+: d'):AQ x roots d' i=some o:=by
 grind [AQ,aN]
structure EP(x:List Rl)(roots:List Rq)(s:SS):Prop where
 der:BH x roots s.infs []=some s.drv
 len:s.infs.length<=65536
theorem EP.dlen{x:List Rl}{roots:List Rq}{s:SS}(h:EP x roots s):s.drv.length=s.infs.length:=by simpa using H3 h.der
theorem EP.nil:EP x roots z8:=⟨rfl,by simp⟩
theorem EP.at{x:List Rl}{roots:List Rq}{s:SS}(h:EP x roots s){k:Nat}{i:Nf}(hk:s.infs[k]?=some i):AQ x roots s.drv i=some (s.drv.getD k []):=by
 have h1:=Kp h.der (k+1);have h0:=Kp h.der k;have ET:=(Bf.1 hk).1;rw[Dm,hk,Ft,h0]at h1
 grind [BH,List.take_succ_eq_append_getElem,List.append_cancel_left,ac]
structure Grow(s s' : SS):Prop where
 pre:s.drv <+: s'.drv
 preI:s.infs <+: s'.infs
 full:s.full=true->s'.full=true
theorem Grow.refl:Grow s s:=⟨List.prefix_rfl,List.prefix_rfl,id⟩
theorem Grow.trans{a b c:SS}(h:Grow a b)(k:Grow b c):Grow a c:=⟨h.pre.trans k.pre,h.preI.trans k.preI,fun e=>k.full (h.full e)⟩
theorem Grow.at{s:SS}(h:Grow s s')(hk:k<s.drv.length):Eh s' k=Eh s k:=by
 obtain⟨t,e⟩:=h.pre<;>grind
theorem Grow.len{s:SS}(h:Grow s s'):s.drv.length<=s'.drv.length:=h.pre.length_le
theorem KC(i:Nf)(l:List Tm):Grow s (Ea s i l).2:=by
 grind [Ea,Grow.mk]
theorem KB{x:List Rl}{roots:List Rq}{s:SS}(h:EP x roots s){i:Nf}(hi:AQ x roots s.drv i=some l) :
  EP x roots (Ea s i l).2/\(Ea s i l).1<(Ea s i l).2.drv.length/\((Ea s i l).2.full=false->Eh (Ea s i l).2 (Ea s i l).1=l):=by
 grind [Ea,NA,BH,Ft,EP.dlen,EP.at,EP.mk,EP.der,EP.len]
theorem bQ(i:Nf)(l:List Tm):(Ea s i l).2.infs.length<=s.infs.length+1:=by
 grind [Ea]
theorem YQ{s:SS}(i:Nf)(l:List Tm)(hf:s.full=false)(hc:s.infs.length<65536):(Ea s i l).2.full=false:=by
 grind [Ea]
theorem TK(S:List Sl):∀{l:List (List Tm)} {i k:Nat},Pq S i l=some k->∃j,k=i+j/\∃t,l[j]?=some t/\Bp t S=true
 | [],_,_,h=>by cases h
 |t::l,i,k,h=>by
  unfold Pq at h;split at h
  .simp_all
  .obtain⟨j,h1,t',h2,h3⟩:=TK S h;exact⟨j+1,by omega,t',h2,h3⟩
theorem KH(h:Og d S=some k):k<d.length/\Bp (d.getD k []) S=true:=by
 obtain⟨j,h1,t,h2,h3⟩:=TK S h<;>grind
theorem Mo:∀{l:List Rq} {b:Option ByteArray},D2 b l=0->∀q∈l,q.set≠[]/\Eo q.set
 | [],_,_,q,hq=>by cases hq
 |r::l,b,h,q,hq=>by
  unfold D2 at h;split at h
  .rename_i e;rcases AR.1 hq with rfl | hq
   .unfold Hd at e
    grind [BG]
   .exact Mo h q hq
  omega
theorem Lb{l:List Rq}(h:AH l=0):∀q∈l,q.set≠[]/\Eo q.set:=by
 grind [AH,Mo]
abbrev dR(k:Int):Ver:=⟨0,k / 1000,k % 1000⟩
theorem HA(k:Int):place (dR k)=k:=by grind [place]
theorem Ff{k:Int}(h:0<=k/\k<1000000):By (dR k)=true:=by
 grind [By,okPart]
structure Vr(D:List Sl)(p:ByteArray)(S:List Sl):Prop where
 val:Gn S
 same:∀q,q≠p->AF S q=AF D q
abbrev MQ(D:List Sl)(p:ByteArray)(v:Ver):List Sl:=D++[⟨p,v⟩]
theorem VE(a b:List Sl)(p:ByteArray):AF (a++b) p=(AF a p).or (AF b p):=by
 grind [AF]
theorem H6{s:List Sl}(h:BS s p=false):AF s p=none:=by
 grind [Kd,AF]
theorem Vr.self(h:Gn D):Vr D p D:=⟨h,fun _ _=>rfl⟩
theorem Vr.ver(h:Gn D)(hv:By v=true):Vr D p (MQ D p v):=by
 refine⟨fun y hy=>?_,fun q hq=>?_⟩
 .rcases Bi.1 hy with hy | hy
  .exact h y hy
  simp_all
 grind [AF]
theorem JC(hp:BS D p=false)(v:Ver):AF (MQ D p v) p=some ⟨p,v⟩:=by
 grind [VE,H6,AF]
theorem ZS(hp:BS D p=false)(hv:By v=true)(hv' : By v'=true)(e:place v=place v')(q:ByteArray)(t:Tm) :
  Da t (AF (MQ D p v) q)=Da t (AF (MQ D p v') q):=by
 by_cases hq:q=p
 .subst hq;rw[JC hp,JC hp];show(By v&&has t.set (place v))=(By v'&&has t.set (place v'));simp_all
 grind [AF]
theorem dQ(hp:BS D p=false)(hv:By v=true)(hv' : By v'=true)(e:place v=place v')(t:List Tm):AX t (MQ D p v)=AX t (MQ D p v'):=by
 grind [Bs,ZS]
theorem K5{S':List Sl}(h:Vr D p S)(h' : Vr D p S')(ht:∀u∈t,u.path≠p):AX t S=AX t S':=by
 rw[Cy,Bs,Bs];exact⟨fun k u hu=>by rw[h'.same _ (ht u hu),<-h.same _ (ht u hu)];simp_all,fun k u hu=>by rw[h.same _ (ht u hu),<-h'.same _ (ht u hu)];simp_all⟩
theorem J8(h:DJ t p=false):∀u∈t,u.path≠p:=fun u hu e=>by
 grind [DJ]
theorem TB(h:DJ t p=true):∃u∈t,u.path=p:=by
 grind [DJ]
theorem Vo(hf:Form t)(hc:DJ t p=true):∃u r,DS t p=some (u,r)/\u.path=p/\∀v∈r,v.path≠p:=by
 obtain⟨u,hu,e⟩:=TB hc;have hs:=E2 hf;have wo:=(GQ hs).1 hu;rw[e]at wo;refine⟨u,AI t p,?_,e,fun v hv=>?_⟩
 .unfold DS;rw[show A7 t=some t from hf];simp_all
 .have:=(Cr.1 hv).2
  simp_all
theorem Ys(wq:Form t)(oO:Form b)(hct:DJ t p=true)(hcb:DJ b p=true){S1 S2:List Sl}(h1:Vr D p S1)(v1:AX t S1=true)(h2:Vr D p S2)(v2:AX b S2=true) :
  (AU t b p).2=0/\∀S,Vr D p S->AX t S=true\/AX b S=true->AX (AU t b p).1 S=true:=by
 obtain⟨u,r,e1,pu,nr⟩:=Vo wq hct;obtain⟨w,m,e2,pw,nm⟩:=Vo oO hcb;have key:∀S,Vr D p S->AX t S=true\/AX b S=true->AX (r++m++[CJ u w]) S=true:=fun S hS hv=>by
  have r1:AX r S=true:=by
   rw[K5 hS h1 nr];rw[(GV h1.val e1).1,Ak]at v1;simp_all
  have m1:AX m S=true:=by
   rw[K5 hS h2 nm];rw[(GV h2.val e2).1,Ak]at v2;simp_all
  rw[Hu,Hu,r1,m1]
  grind [Bs,CJ,NZ,GV,Vr.val]
 unfold AU
 grind [De,Vr.val]
theorem na(hp:BS D p=false)(hf:Form t)(h0:AX t D=true)(hk:∀k:Int,0<=k->k<1000000->AX t (MQ D p (dR k))=true):DJ t p=false:=by
 rw[A8];intro hc;obtain⟨u,hu,e⟩:=TB hc;have ha:u.absent=true:=by
  have:=Bs.1 h0 u hu
  rw[e,H6 hp]at this;exact this
 have hs:∀k:Int,0<=k->k<1000000->has u.set k=true:=fun k k0 k1=>by
  grind [Bs,JC,Da,HA]
 have hcn:Eo u.set:=BN.canon (E2 hf) u hu;have sx:u.set=[(0,1000000)]:=by
  refine Fy hcn ⟨by decide,by decide,by decide,trivial⟩ fun k=>?_;rw[Cy];constructor
  .intro h
   have:=On h
   grind [has,BP]
  grind [On]
 have xY:Fx u=true:=by grind [Fx]
 have hf2:A7 t=some t:=hf
 grind [A7]
end Go.Eng
