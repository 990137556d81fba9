/- Lemmas 2. -/
import Derived.Test.YtpgfieopnnkpfaaGreatDoorQA01
import Derived.Lib.SplitLaws
import Derived.Lib.IndexBytes
import Derived.Lib.ItoaNum
import Derived.Lib.Join
namespace Go.Eng
variable {B:List Int}{s:List Tm}(m:List (Int×Int))(S:AF)(l:List Tm)(i:Nat)(k:Int)(t:Tm)(v j:Int)
-- maps from numbers to numbers,as lists in the order in which they are met
def Fo:Int:=match m.find? (fun p=>decide (p.1=k))with | some p=>p.2 | none=>0
def KW:List (Int×Int):=if m.any (fun p=>decide (p.1=k))then m.map (fun p=>if p.1=k then(k,v)else p)else m++[(k,v)]
theorem MN(p:Int×Int)(m:List (Int×Int))(k:Int):Fo (p::m) k=if p.1=k then p.2 else Fo m k:=by
 grind [Fo]
theorem Pd:Fo (KW m k v) j=if j=k then v else Fo m j:=by
 unfold KW;split
 .rename_i h
  induction m with
  |nil=>simp_all
  |cons p m ih=>
   rw[BU,MN,MN]
   by_cases e:p.1=k
   .rw[AE e];dsimp only
    by_cases ej:j=k
    .omega
    .rw[Aw (fun c=>ej c.symm),Aw ej,Aw (fun c=>ej (c.symm.trans e))]
     by_cases hm:(m.any fun p=>decide (p.1=k))=true
     .simp_all
     .have:∀q∈m,q.1≠k:=fun q hq e=>hm (BQ.2 ⟨q,hq,by simp[e]⟩)
      have:m.map (fun p=>if p.1=k then(k,v)else p)=m:=by
       conv=>rhs;rw[<-List.map_id m]
       grind [List.map_congr_left]
      simp_all
   grind
 .rename_i h;have hn:∀q∈m,q.1≠k:=fun q hq e=>h (BQ.2 ⟨q,hq,by simp[e]⟩)
  induction m<;>grind [MN]
def EQ:List Int:=m.map (·.1)
theorem U0:EQ (KW m k v)=if k∈EQ m then EQ m else EQ m++[k]:=by
 grind [KW,EQ,List.map_congr_left]
theorem LX{m:List (Int×Int)}(h:(EQ m).Nodup)(k v:Int):(EQ (KW m k v)).Nodup:=by
 grind [U0]
theorem Kh:j∈EQ (KW m k v)↔j=k\/j∈EQ m:=by
 grind [U0]
theorem lP{m:List (Int×Int)}(h:(EQ m).Nodup){p:Int×Int}(hp:p∈m):Fo m p.1=p.2:=by
 induction m<;>grind [MN,EQ]
theorem lQ{m:List (Int×Int)}{k:Int}(h:k∉EQ m):Fo m k=0:=by
 unfold Fo
 have:m.find? (fun p=>decide (p.1=k))=none:=by
  rw[List.find?_eq_none];intro p hp;simp only[Bg];exact fun e=>h (Ay.2 ⟨p,hp,e⟩)
 grind
-- counting
def cF:Nat:=S.countP fun x=>decide (x.1=k)
def cT:Nat:=S.countP fun x=>decide (x.2=k)
def lF:Nat:=S.countP fun x=>decide (x.1<=k)
def lT:Nat:=S.countP fun x=>decide (x.2<=k)
theorem IM{α:Type}{p q r:α->Bool}:∀{l:List α},(∀x∈l,(p x=true↔q x=true\/r x=true)/\¬(q x=true/\r x=true))->l.countP p=l.countP q+l.countP r
 | [],_=>rfl
 |x::l,h=>by
  have ih:=IM fun y hy=>h y (At _ hy)
  grind
structure FN(m:List (Int×Int))(S:AF):Prop where
 nd:(EQ m).Nodup
 val:∀k,Fo m k=(cF S k:Int)-cT S k
 keys:0∈EQ m/\1000000∈EQ m/\∀x∈S,x.1∈EQ m/\x.2∈EQ m
 rng:∀k∈EQ m,0<=k/\k<=1000000
def tR:List (Int×Int):=[(0,0),(1000000,0)]
theorem mO:FN tR []:=⟨by decide,fun k=>by
  grind [tR,Fo,cF,cT],⟨by decide,by decide,fun _ h=>by cases h⟩,fun k hk=>by
  grind [tR,EQ]⟩
def Zq(x:Int×Int):List (Int×Int):=KW (KW m x.1 (Fo m x.1+1)) x.2 (Fo (KW m x.1 (Fo m x.1+1)) x.2-1)
theorem gE{m:List (Int×Int)}{S:AF}{x:Int×Int}(h:FN m S)(hx:0<=x.1/\x.1<x.2/\x.2<=1000000):FN (Zq m x) (S++[x]):=by
 unfold Zq;refine⟨LX (LX h.nd _ _) _ _,fun k=>?_,⟨?_,?_,fun y hy=>?_⟩,fun k hk=>?_⟩
 .rw[Pd,Pd,Pd,h.val,h.val,h.val];unfold cF cT;simp only[List.countP_append,List.countP_singleton,Bg]
  grind
 .grind [Kh,FN.keys]
 .grind [Kh,FN.keys]
 .grind [Kh,FN.keys]
 .rw[Kh,Kh]at hk;rcases hk with rfl | rfl | hk
  .omega
  .omega
  .exact h.rng k hk
def Iv(B:List Int):Int:=(B.map (Fo m)).foldl (·+·) 0
theorem Qd(B:List Int)(i:Nat)(h:i<B.length):Iv m (B.take (i+1))=Iv m (B.take i)+Fo m B[i]:=by
 grind [Iv,List.take_add_one]
structure mg(B:List Int)(m:List (Int×Int)):Prop where
 perm:B.Perm (EQ m)
 srt:B.Pairwise fun a b=>a<b
theorem df{m:List (Int×Int)}{S:AF}(h:FN m S)(hB:mg B m):∀i (hi:i<B.length),Iv m (B.take (i+1))=(lF S B[i]:Int)-lT S B[i]:=by
 have mem:∀k,k∈EQ m->∃j,∃hj:j<B.length,B[j]=k:=fun k hk=>by
  have:=hB.perm.mem_iff.2 hk
  grind [List.mem_iff_getElem]
 have lt:∀i j (hi:i<B.length) (hj:j<B.length),i<j->B[i]<B[j]:=fun i j hi hj jT=>(DM.1 hB.srt) i j hi hj jT;intro i
 induction i with
 |zero=>
  intro hi;rw[Qd m B 0 hi,h.val]
  have:Iv m (B.take 0)=0:=by simp[Iv]
  rw[this];have low:∀k∈EQ m,B[0]<=k:=fun k hk=>by
   grind
  have e1:lF S B[0]=cF S B[0]:=by
   grind [lF,cF,List.countP_congr,FN.keys]
  grind [lT,cT,List.countP_congr,FN.keys]
 |succ i ih=>
  intro hi;rw[Qd m B (i+1) hi,ih aa0,h.val];have nb:∀k∈EQ m,k<=B[i+1]↔k<=B[i]\/k=B[i+1]:=fun k hk=>by
   grind
  have l0:=lt i (i+1) aa0 hi aa0;have e1:lF S B[i+1]=lF S B[i]+cF S B[i+1]:=by
   unfold lF cF;apply IM
   grind [FN.keys]
  have e2:lT S B[i+1]=lT S B[i]+cT S B[i+1]:=by
   unfold lT cT;apply IM
   grind [FN.keys]
  omega
theorem XW{S:AF}(hS:∀x∈S,x.1<x.2)(p:Int):(lF S p:Int)-lT S p=(S.countP (BP p):Nat):=by
 have:lF S p=S.countP (BP p)+lT S p:=by
  unfold lF lT
  grind [IM,BP]
 omega
theorem Oi:∀{l:AF} {lo:Int} (p:Int),D7 lo l->l.countP (BP p)=if l.any (BP p)then 1 else 0
 | [],_,_,_=>rfl
 |y::r,lo,p,⟨h1,h2,h3,h4⟩=>by
  rw[List.countP_cons,Oi p h4,Er];cases hy:BP p y with
  |false=>grind
  |true=>
   have:=Fj.1 hy
   have:r.any (BP p)=false:=by
    rw[DQ];intro hr;have:=N8 h4 hr;omega
   simp_all
theorem LB:∀(l:List AF) (p:Int),((l.map canon).flatten).countP (BP p)=iK l p
 | [],_=>rfl
 |s::l,p=>by
  rw[BU,Dp,List.countP_append,LB l p,Oi p (Bc s),J8]
  grind [iK]
def Ef(keep:Nat->Bool)(m:List (Int×Int))(B:List Int):Nat->AF
 |0=>[]
 |i+1=>Ef keep m B i++(match B[i]?,B[i+1]? with
  |some a,some b=>if keep (Iv m (B.take (i+1))).toNat then [(a,b)]else []
  |_,_=>[])
theorem PF{keep:Nat->Bool}{m:List (Int×Int)}{B:List Int}{x:Int×Int}:∀{n:Nat},x∈Ef keep m B n↔∃i,i<n/\∃(h1:i<B.length) (h2:i+1<B.length),keep (Iv m (B.take (i+1))).toNat=true/\x=(B[i],B[i+1])
 |0=>by simp[Ef]
 |n+1=>by
  unfold Ef;rw[Bz,PF (n:=n)]
  grind
theorem Oc{B:List Int}(hs:B.Pairwise fun a b=>a<b){p:Int}:∀(n:Nat) (h0:0<B.length) (hn:n<B.length),B[0]<=p->p<B[n]->∃i,∃(h1:i<B.length) (h2:i+1<B.length),B[i]<=p/\p<B[i+1]
 |0,h0,hn,h1,h2=>by omega
 |n+1,h0,hn,h1,h2=>by
  by_cases e:B[n]<=p
  .grind
  .exact Oc hs n h0 aa0 h1 aa0
theorem kq{keep:Nat->Bool}{l:List AF}{m:List (Int×Int)}(h:FN m (l.map canon).flatten)(hB:mg B m)(p:Int):has (Ef keep m B (B.length-1)) p=(SJ p&&keep (iK l p)):=by
 have hS:∀x∈(l.map canon).flatten,x.1<x.2:=fun x hx=>by
  obtain⟨s,hs,hx⟩:=In.1 hx;obtain⟨t,_,rfl⟩:=Ay.1 hs;exact((Bc t).low x hx).2.1
 have mem:∀k,k∈EQ m->∃j,∃hj:j<B.length,B[j]=k:=fun k hk=>by
  obtain⟨j,hj,e⟩:=List.mem_iff_getElem.1 (hB.perm.mem_iff.2 hk)<;>grind [List.mem_iff_getElem]
 have lt:∀i j (hi:i<B.length) (hj:j<B.length),i<j->B[i]<B[j]:=fun i j hi hj jT=>(DM.1 hB.srt) i j hi hj jT;have rng:∀i (hi:i<B.length),0<=B[i]/\B[i]<=1000000:=fun i hi=>h.rng _ (hB.perm.mem_iff.1 (Ah hi))
 -- mD two bounds
 have mD:∀i (h1:i<B.length) (h2:i+1<B.length),B[i]<=p->p<B[i+1]->(Iv m (B.take (i+1))).toNat=iK l p:=fun i h1 h2 a b=>by
  have same:∀k∈EQ m,k<=B[i]↔k<=p:=fun k hk=>by
   grind
  have e1:lF (l.map canon).flatten B[i]=lF (l.map canon).flatten p:=by
   grind [lF,List.countP_congr,FN.keys]
  grind [lT,List.countP_congr,df,XW,LB,FN.keys]
 rw[Gn];constructor
 .grind [has,PF,Fj,SJ]
 .intro hh;simp only[Au,SJ,Bg]at hh;obtain⟨⟨p0,p1⟩,hk⟩:=hh;obtain⟨j0,hj0,e0⟩:=mem 0 h.keys.1;obtain⟨j1,zQ,e1⟩:=mem 1000000 h.keys.2.1;have hb0:B[0]' aa0<=p:=by
   grind
  obtain⟨i,h1,h2,a,b⟩:=Oc hB.srt j1 aa0 zQ hb0 aa0;unfold has;simp only[p0,p1,decide_true,Bool.true_and];exact BQ.2 ⟨(B[i],B[i+1]),PF.2 ⟨i,by omega,h1,h2,by simp_all,rfl⟩,Fj.2 ⟨a,b⟩⟩
theorem lI{l:List AF}{m:List (Int×Int)}(h:FN m (l.map canon).flatten)(hB:mg B m)(i:Nat)(hi:i<B.length):0<=Iv m (B.take (i+1))/\Iv m (B.take (i+1))<=l.length:=by
 have hS:∀x∈(l.map canon).flatten,x.1<x.2:=fun x hx=>by
  obtain⟨s,hs,hx⟩:=In.1 hx;obtain⟨t,_,rfl⟩:=Ay.1 hs;exact((Bc t).low x hx).2.1
 rw[df h hB i hi,XW hS,LB]
 grind [iK]
def WV(m:List Tm)(t:Tm):List Tm:=if m.any (fun u=>decide (u.path=t.path))then m.map (fun u=>if u.path=t.path then t else u)else m++[t]
def stepT(m:List Tm)(t:Tm):List Tm:=WV m (WU (Db m t.path) t)
def Da:List Tm:=l.foldl stepT []
theorem eH(p:ByteArray):∀m:List Tm,Db (WV m t) p=if t.path=p then some t else Db m p:=by
 intro m;unfold WV
 by_cases h:(m.any fun u=>decide (u.path=t.path))=true
 .rw[AE h]
  induction m with
  |nil=>simp_all
  |cons u m ih=>
   rw[BU,Ek,Ek]
   by_cases e:u.path=t.path
   .rw[AE e]
    by_cases ep:t.path=p
    .simp_all
    .rw[Aw ep,Aw ep,Aw (fun c=>ep (e.symm.trans c))]
     by_cases hm:(m.any fun u=>decide (u.path=t.path))=true
     .simp_all
     .have:∀q∈m,q.path≠t.path:=fun q hq c=>hm (BQ.2 ⟨q,hq,by simp[c]⟩)
      have:m.map (fun u=>if u.path=t.path then t else u)=m:=by
       conv=>rhs;rw[<-List.map_id m]
       grind [List.map_congr_left]
      simp_all
   grind
 .rw[Aw h];have hn:∀q∈m,q.path≠t.path:=fun q hq e=>h (BQ.2 ⟨q,hq,by simp[e]⟩)
  clear h
  induction m<;>grind [Ek]
def EA(m:List Tm):List ByteArray:=m.map (·.path)
open Classical in
theorem bp(m:List Tm)(t:Tm):EA (WV m t)=if t.path∈EA m then EA m else EA m++[t.path]:=by
 grind [WV,EA,List.map_congr_left]
theorem fJ{m:List Tm}(h:(EA m).Nodup)(t:Tm):(EA (WV m t)).Nodup:=by
 grind [bp]
theorem QD(h:i<l.length):Da (l.take (i+1))=stepT (Da (l.take i)) l[i]:=by
 grind [Da,List.take_add_one]
theorem Ox:∀(l m:List Tm),(EA m).Nodup->(EA (l.foldl stepT m)).Nodup
 | [],_,h=>h
 |_::l,_,h=>Ox l _ (fJ h _)
theorem HD:(EA (Da l)).Nodup:=Ox l [] .nil
theorem X4(m:List Tm)(t:Tm)(p:ByteArray):Db (stepT m t) p=QQ p (Db m p) t:=by
 grind [stepT,QQ,Vj,Nu,eH]
theorem Ou(p:ByteArray):∀(l m:List Tm),Db (l.foldl stepT m) p=l.foldl (QQ p) (Db m p)
 | [],_=>rfl
 |t::l,m=>by rw[DX,DX,Ou p l,X4]
theorem aq(p:ByteArray):Db (Da l) p=Db (Dh l) p:=by
 unfold Da;rw[Ou,Ov];rfl
theorem Qs{m:List Tm}(h:(EA m).Nodup){t:Tm}:t∈m↔Db m t.path=some t:=by
 constructor
 .induction m<;>grind [EA,Ek]
 .exact HV
theorem L5{m:List Tm}(h:(EA m).Nodup):m.Nodup:=by
 unfold EA at h
 induction m<;>grind
theorem HJ{l:List Tm}{lo:Option ByteArray}(h:BR lo l):(EA l).Nodup:=by
 unfold EA
 induction l generalizing lo with
 |nil=>simp_all
 |cons t l ih=>
  rw[BU,Gq];refine⟨fun hm=>?_,ih h.2.2⟩;obtain⟨u,hu,e⟩:=Ay.1 hm
  have:=h.2.2.low u hu
  grind [FF]
theorem IZ:t∈Da l↔t∈Dh l:=by
 grind [Qs,HD,aq,HJ,DH]
theorem OO:∀t∈Da l,EY t.set:=fun t ht=>(DH l).canon t ((IZ l t).1 ht)
theorem gH(m:List Tm)(t:Tm):(stepT m t).length<=m.length+1:=by
 grind [stepT,WV]
theorem NK:∀i,i<=l.length->(Da (l.take i)).length<=i:=by
 intro i
 induction i<;>grind [Da,QD,gH]
theorem bB(hs:s.Pairwise fun x y=>G1 x.path y.path=true)(hc:∀t∈s,EY t.set):BR none s:=by
 have:∀(s:List Tm) (lo:Option ByteArray),s.Pairwise (fun x y=>G1 x.path y.path=true)->(∀t∈s,EY t.set)->(∀p,lo=some p->∀t∈s,G1 p t.path=true)->BR lo s:=by
  intro s
  induction s with
  |nil=>intro _ _ _ _;trivial
  |cons t s ih=>
   intro lo hs hc hl;obtain⟨h1,h2⟩:=Hk.1 hs;exact⟨fun p e=>hl p e t (Ai ..),hc t (Ai ..),ih _ h2 (fun u hu=>hc u (At _ hu)) fun p e u hu=>by simp_all⟩
 simp_all
theorem Po{l:List Tm}(q:Tm->Bool)(hp:s.Perm ((Da l).filter q))(hs:s.Pairwise fun x y=>G1 y.path x.path=false):s=(Dh l).filter q:=by
 have hm:∀t,t∈s↔t∈(Dh l).filter q:=fun t=>by
  grind [IZ]
 have l7:(EA s).Nodup:=by
  grind [EA,HD]
 have IC:s.Pairwise fun x y=>G1 x.path y.path=true:=by
  grind [List.pairwise_iff_getElem,Q8,EA]
 have Rd:BR none s:=bB IC fun t ht=>(DH l).canon t (DF.1 ((hm t).1 ht)).1;have Xj:BR none ((Dh l).filter q):=BR.filter q (DH l)
 grind [Mh,Db,LH]
theorem ZR:EG t t=C3 t:=by grind [EG,C3,aS]
theorem cZ(o:Option Tm)(t:Tm):WU o t=EG (o.getD t) t:=by cases o with | none=>exact(ZR t).symm | some u=>rfl
theorem dw{t:Tm}(h:EY t.set):(t.absent&&(BJ t.set).isEmpty)=GC t:=by
 unfold GC
 congr 1
 rw[Gn,Ll,Bg];have ha:EY [(0,1000000)]:=⟨Cg _,by omega,Cg _,trivial⟩;constructor
 .intro e;refine FG h ha fun p=>?_
  have:=IY t.set p
  grind [has,SJ,BP]
 grind [PN,E0,IY,has,BP]
theorem kG{t:Tm}(h:EY t.set):(!t.absent&&(canon t.set).isEmpty)=GS t:=by grind [GS,I6]
end Go.Eng
namespace Go.Eng
open Go.Lib
theorem P0(c:UInt8):∀(s:List UInt8) (k:Nat),s.count c<=k->splitK [c] 0 k s=Ci c s
 | [],k,_=>by
  cases k with
  |zero=>rfl
  |succ k=>rfl
 |b::r,k,h=>by
  rw[Ci]
  by_cases e:b=c
  .subst e;rw[List.count_cons_self]at h;obtain⟨k',rfl⟩:∃k',k=k'+1:=⟨k-1,by omega⟩;rw[AE rfl,splitK,index_one,indexByte];simp only[beq_self_eq_true,Qx];rw[Aw aa2];show []::splitK [b] 0 k' r=_;rw[P0 b r k' aa0]
  .have Fi:(b == c)=false:=by simp_all
   rw[List.count_cons_of_ne aa0]at h;have ih:=P0 c r k h;rw[Aw e];cases k with
   |zero=>
    rw[<-ih];rfl
   |succ k=>
    rw[<-ih,splitK,splitK,index_one,index_one,indexByte,Fi]
    by_cases h0:indexByte r c=-1
    .simp_all
    .have h1:(indexByte r c == -1)=false:=by simp_all
     have h2:=indexByte_ge r c;have h3:(indexByte r c+1 == -1)=false:=by grind
     simp only[D4,LU,h1,h3];obtain⟨i,hi⟩:∃i:Nat,indexByte r c=i:=⟨(indexByte r c).toNat,by omega⟩<;>simp_all
theorem XV(c:UInt8):∀(n:Nat) (s:List UInt8),s.length<=n->count s [c]=s.count c
 |n,s,hn=>by
  rcases Int.lt_or_le (indexByte s c) 0 with h | h
  .have h2:=indexByte_ge s c;have h3:indexByte s c=-1:=by omega
   rw[count_miss (by grind [index_one])]
   symm
   rw[List.count_eq_zero];intro hm;obtain⟨k,hk,e⟩:=Ev hm;exact indexByte_none h3 k (by simp_all)
  .obtain⟨i,hi⟩:∃i:Nat,indexByte s c=i:=⟨(indexByte s c).toNat,by omega⟩;obtain⟨h1,h2⟩:=indexByte_some hi;obtain⟨hl,hg⟩:=AR.1 h1;cases n with
   |zero=>omega
   |succ n=>
    have hc:=count_hit (s:=s) (sub:=[c]) (i:=i) aa1 (by grind [index_one]);rw[hc];have ih:=XV c n (s.drop (i+1)) (by grind);have cC:s=s.take i++c::s.drop (i+1):=by
     grind [List.drop_eq_getElem_cons,List.take_append_drop]
    grind [List.count_eq_zero,List.getElem_of_mem]
theorem gC(s:ByteArray)(c:UInt8):((splitB ⟨#[c]⟩ 0 (countB s ⟨#[c]⟩) s).map (·.data.toList))=Ci c s.data.toList:=by
 rw[splitB_data];refine P0 c _ _ ?_;show _<=count s.data.toList [c];rw[XV c _ _ (Aq _)];omega
end Go.Eng
namespace Go.Eng
variable {d:List (List Tm)}{x:List Rl}{roots:List Rq}{l:List Nf}{U:List ByteArray}{i:Nat}{t:List Tm}{α:Type}{n:Nat}{b:List Tm}(a p sep:ByteArray)(m:Int)(used:List Nat)(u:List Bool)(s:AF)(k:Nat)(pl:Int)(c:List Tm)(y:Nf)
theorem U9{α:Type}:∀{l m:List α},l.Nodup->(∀x∈l,x∈m)->l.length<=m.length
 | [],_,_,_=>Ao _
 |a::l,m,hn,hs=>by
  obtain⟨h1,h2⟩:=Gq.1 hn;obtain⟨s,t,rfl⟩:=List.append_of_mem (hs a (Ai ..))
  have:l.length<=(s++t).length:=U9 h2 fun x hx=>by
   grind
  grind
theorem Lb(p:ByteArray):∀(l:List Tm) (o:Option Tm),(∀u∈l,u.path≠p)->l.foldl (QQ p) o=o
 | [],_,_=>rfl
 |t::l,o,h=>by
  rw[DX,show QQ p o t=o by grind [QQ]];exact Lb p l o fun u hu=>h u (At _ hu)
theorem bf{l:List Tm}{t:Tm}(h:t∈Dh l):∃u∈l,u.path=t.path:=by
 grind [LH,DH,Ov,Lb]
def TR(U:List ByteArray)(t:List Tm):Prop:=BR none t/\∀u∈t,u.path∈U
theorem TR.len(h:TR U t):t.length<=U.length:=by
 have:=U9 (HJ h.1) (m:=U) fun p hp=>by
  obtain⟨u,hu,rfl⟩:=Ay.1 hp;exact h.2 u hu
 grind [EA]
theorem ZT{l c:List Tm}(h:AW l=some c){t:Tm}(ht:t∈c):t∈Dh l:=by
 grind [AW]
theorem Mp{l c:List Tm}(h:AW l=some c)(hu:∀u∈l,u.path∈U):TR U c:=
 ⟨F0 h,fun t ht=>by
  obtain⟨u,h1,h2⟩:=bf (ZT h ht)<;>grind⟩
theorem TR.nil(U:List ByteArray):TR U []:=⟨trivial,fun u hu=>by cases hu⟩
theorem bl{l:List Tm}(hu:∀u∈l,u.path∈U):TR U (BM l):=by
 grind [BM,AW,Mp,TR.nil]
theorem Zf{a:List Tm}{p:ByteArray}(ha:TR U a)(hb:TR U b):TR U (Bn a b p).1:=by
 have sp:∀{l r:List Tm} {t:Tm},TR U l->Ep l p=some (t,r)->t.path∈U/\∀u∈r,u.path∈U:=by
  intro l r t hl h;unfold Ep at h;cases e:AW l with
  |none=>simp_all
  |some c=>
   rw[e]at h;have h:(match Db c p with | none=>none | some t=>some (t,AH c p))=some (t,r):=h;have hc:=Mp e hl.2;cases e2:Db c p with
   |none=>simp_all
   |some u=>
    rw[e2]at h;cases h;exact⟨hc.2 _ (HV e2),fun u hu=>hc.2 u (DF.1 hu).1⟩
 unfold Bn;split
 .rename_i t r u m e1 e2;obtain⟨a1,a2⟩:=sp ha e1;obtain⟨b1,b2⟩:=sp hb e2;split
  .rename_i o e3;refine Mp e3 fun v hv=>?_;rcases Bz.1 hv with hv | hv
   .grind
   .rw[A9.1 hv];exact a1
  .exact .nil U
 .exact .nil U
def Fk(x:List Rl)(roots:List Rq)(l:List Nf):List ByteArray:=(x.map (·.path))++((x.map (·.reqs)).flatten.map (·.path)++(roots.map (·.path)++l.map (·.path)))
theorem PE{i:Nf}(hi:i∈l)(hd:∀t∈d,TR (Fk x roots l) t)(h:AP x roots d i=some t):TR (Fk x roots l) t:=by
 have hp:i.path∈Fk x roots l:=by
  grind [Fk]
 have nz:∀{α:Type} {l:List α} {k:Int} {a:α},Di l k=some a->a∈l:=by
  grind [Di]
 have n0:∀{a b:List Tm},Rj a=some b->b=a:=by
  grind [Rj]
 unfold AP at h;split at h
 .split at h
  .cases e:Di roots i.number with
   |none=>simp_all
   |some q=>
    rw[e]at h;cases h;refine bl fun u hu=>?_;rw[A9.1 hu];unfold Fk;exact Bj _ (Bj _ (Bh _ (Ay.2 ⟨q,nz e,rfl⟩)))
  simp_all
 split at h
 .split at h
  .cases e:Dd x i.path i.place with
   |none=>simp_all
   |some r=>
    rw[e]at h;have h:(match Di r.reqs i.number with | none=>none | some q=>Rj (Cb i.path i.place q))=some t:=h;cases e2:Di r.reqs i.number with
    |none=>simp_all
    |some q=>
     rw[e2]at h;have h:=n0 (show Rj (Cb i.path i.place q)=some t from h);subst h;refine bl fun u hu=>?_;rcases AN.1 hu with rfl | hu
     .exact hp
     .rw[A9.1 hu];unfold Fk;refine Bj _ (Bh _ (Ay.2 ⟨q,?_,rfl⟩));exact In.2 ⟨r.reqs,Ay.2 ⟨r,Cw e,rfl⟩,nz e2⟩
  simp_all
 split at h
 .split at h
  .have h:=n0 h;subst h;refine bl fun u hu=>?_;simp_all
  simp_all
 grind [Zf]
theorem ki(x:Int×Int)(k:Nat){t:AF}(h:s.Perm t):(s.take k++([x]++s.drop k)).Perm (t++[x]):=by
 grind [List.take_append_drop]
theorem SO(x:Int×Int)(k:Nat)(hs:s.Pairwise fun a b=>a.1<=b.1)(h1:∀j (hj:j<s.length),k<=j->x.1<s[j].1)(h2:k=0\/∃h:k-1<s.length,s[k-1].1<=x.1):(s.take k++([x]++s.drop k)).Pairwise fun a b=>a.1<=b.1:=by
 have ve:∀a∈s.take k,a.1<=x.1:=fun a ha=>by
  grind [List.getElem_of_mem,List.pairwise_iff_getElem]
 have hhi:∀b∈s.drop k,x.1<=b.1:=fun b hb=>by
  grind [List.getElem_of_mem]
 grind
theorem NF(t:Tm):∀(A:List Tm) (k:Nat),k<=A.length->(∀j (h:j<A.length),j<k->G1 A[j].path t.path=true)->Ir t A=A.take k++Ir t (A.drop k)
 |A,0,_,_=>by simp
 | [],k+1,h,_=>by simp_all
 |u::r,k+1,h,hb=>by
  have h0:G1 u.path t.path=true:=hb 0 aa1 aa0;have ih:=NF t r k (by simp_all) (fun j hj hk=>hb (j+1) aa0 aa0);show(if _ then _ else _)=_;simp_all
theorem OH(t:Tm)(A:List Tm)(k:Nat)(hk:k<=A.length)(hb:∀j (h:j<A.length),j<k->G1 A[j].path t.path=true)
  (hn:∀h:k<A.length,G1 A[k].path t.path=false/\A[k].path≠t.path):Ir t A=A.take k++([C3 t]++A.drop k):=by
 rw[NF t A k hk hb]
 congr 1
 by_cases h:k<A.length
 .obtain⟨h1,h2⟩:=hn h;rw[Bd h];show(if _ then _ else if _ then _ else _)=_;simp_all
 .rw[Fw aa0];rfl
theorem Re(t:Tm)(A:List Tm)(k:Nat)(h:k<A.length)(hb:∀j (h:j<A.length),j<k->G1 A[j].path t.path=true)(he:A[k].path=t.path):Ir t A=A.set k (EG A[k] t):=by
 rw[NF t A k (Nat.le_of_lt h) hb,Bd h,List.set_eq_take_append_cons_drop,AE h]
 congr 1
 show(if _ then _ else if _ then _ else _)=_
 grind [FF]
theorem Fc(l:List Tm)(i:Nat)(h:i<l.length):Dh (l.take (i+1))=Ir l[i] (Dh (l.take i)):=by
 grind [Dh,List.take_add_one]
theorem Yv(t:Tm):∀A:List Tm,(Ir t A).length<=A.length+1
 | []=>by simp[Ir]
 |u::r=>by
  have:=Yv t r
  show(if _ then _ else if _ then _ else _:List Tm).length<=_
  grind
theorem S6(l:List Tm):∀i,i<=l.length->(Dh (l.take i)).length<=i:=by
 intro i
 induction i<;>grind [Dh,Fc,Yv]
theorem XN{p:ByteArray}{f:Bool}{s t:AF}(h:∀q,has s q=has t q):C3 ⟨p,f,s⟩=C3 ⟨p,f,t⟩:=by grind [C3,FG,Bc,EU]
theorem kP{a b t:Tm}(h:C3 a=C3 b):BM [a,t]=BM [b,t]:=by
 grind [Dh,Ir,BM,AW]
theorem nJ(n q:Int)(h:0<=n/\n<1000000):has (S8 (canon [(n,1000000)]) (canon [(n+1,1000000)])) q=has [(n,n+1)] q:=by
 grind [eT,EU,has,BP]
theorem lc:∀(n:Nat) (l:List Int),l.length<=n->∃k:Int,0<=k/\k<=n/\k∉l
 |0,l,h=>by
  have e:l=[]:=Az aa0;exact⟨0,by omega,by omega,by simp_all⟩
 |n+1,l,h=>by
  by_cases hn:((n+1:Nat):Int)∈l
  .obtain⟨k,h1,h2,h3⟩:=lc n (l.erase ((n+1:Nat):Int)) (by rw[List.length_erase_of_mem hn];omega)<;>grind
  grind
theorem dE(x:List Rl)(p:ByteArray)(h:AD x=0->x.length<=256):((((Jf x p).filter fun r=>!r.yanked).map fun r=>(plc r.ver,plc r.ver+1))).length<=256:=by
 grind [Jf]
theorem oD(x:List Rl)(p q:ByteArray)(h:AD x=0->x.length<=256):Gg q (B3 x p)≠[]:=by
 have hl:=dE x p h;obtain⟨S,hS⟩:∃S,S=(((Jf x p).filter fun r=>!r.yanked).map fun r=>(plc r.ver,plc r.ver+1)):=⟨_,rfl⟩;obtain⟨k,k1,k2,k3⟩:=lc 256 (S.map (·.1)) (by simp_all);have hk:has (BJ (B3 x p)) k=true:=by
  grind [IY,B3,EU,has,BP,SJ]
 intro h0;have hc:AW [⟨q,false,BJ (B3 x p)⟩]=some [C3 ⟨q,false,BJ (B3 x p)⟩]:=by
  have Fi:(C3 ⟨q,false,BJ (B3 x p)⟩).set≠[]:=fun e=>by
   have:has (canon (BJ (B3 x p))) k=true:=by grind [EU]
   rw[show canon (BJ (B3 x p))=[]from e]at this
   grind [has]
  have h1:GS (C3 ⟨q,false,BJ (B3 x p)⟩)=false:=by
   grind [GS]
  show(if([C3 ⟨q,false,BJ (B3 x p)⟩]).any GS then none else some (([C3 ⟨q,false,BJ (B3 x p)⟩]).filter fun t=>!GC t))=_;rw[Aw (by simp_all)]
  rfl
 grind [Gg,BM]
section
variable {x:List Rl}{roots:List Rq}{d:List (List Tm)}{i:Nf}
def Fr(x:List Rl)(roots:List Rq)(d:List (List Tm))(i:Nf):List Tm:=if i.kind=2 then Gg i.path (B3 x i.path)else(AP x roots d i).getD []
theorem od(h:i.kind=0):AP x roots d i=if i.path=mt/\i.place=0/\i.left=0/\i.right=0 then(Di roots i.number).map Li else none:=AE h
theorem aQ(h:i.kind=1):AP x roots d i=if i.left=0/\i.right=0 then match Dd x i.path i.place with
      |none=>none
      |some r=>match Di r.reqs i.number with
        |none=>none
        |some q=>Rj (Cb i.path i.place q)
    else none:=by grind [AP]
theorem rA(h:i.kind=2):AP x roots d i=if i.place=0/\i.number=0/\i.left=0/\i.right=0 then Rj (Gg i.path (B3 x i.path))else none:=by
 grind [AP]
theorem aR(h:i.kind=3):AP x roots d i=if i.place=0/\i.number=0 then match Di d i.left,Di d i.right with
      |some a,some b=>if(Bn a b i.path).2=0 then some (Bn a b i.path).1 else none
      |_,_=>none
    else none:=by grind [AP]
theorem Aan(h0:i.kind≠0)(h1:i.kind≠1)(h2:i.kind≠2)(h3:i.kind≠3):AP x roots d i=none:=by
 grind [AP]
theorem Yu(h:AP x roots d i=none)(h2:i.kind≠2):Fr x roots d i=[]:=by grind [Fr]
theorem kf{t:List Tm}(h:AP x roots d i=some t)(h2:i.kind≠2):Fr x roots d i=t:=by grind [Fr]
theorem fm{t:List Tm}(h:AP x roots d i=some t):Fr x roots d i=t:=by
 grind [rA,Rj,Fr]
theorem rO{l:List Tm}(h:l≠[]):Rj l=some l:=by
 grind [Rj]
end
theorem OV{l:List α}{n:Int}(h:n<0):Di l n=none:=AE h
theorem OT{l:List α}{n:Int}(h:(l.length:Int)<=n):Di l n=none:=by
 grind [Di]
theorem OU{l:List α}{n:Int}(h0:¬n<0)(h:¬(l.length:Int)<=n):∃x,Di l n=some x/\l[n.toNat]?=some x/\x∈l:=by
 have hl:n.toNat<l.length:=by omega
 exact⟨l[n.toNat],by grind [Di],AI hl,Ah hl⟩
abbrev gW(l:List UInt8):ByteArray:=⟨l.toArray⟩
def V5(n:Nat):ByteArray:=gW (Go.Lib.decDigits n)
def Gm(n:Int):ByteArray:=gW (Go.Lib.itoa n)
theorem p9(a b:List UInt8):gW a++gW b=gW (a++b):=JU aa1
theorem Df(b c:ByteArray):a++b++c=a++(b++c):=JU aa1
theorem kN:gW []++a=a:=JU aa1
theorem RS(h:n<10):V5 n=gW [UInt8.ofNat (48+n)]:=by
 grind [V5,Go.Lib.decDigits]
theorem iL(h:¬n<10):V5 n=V5 (n / 10)++gW [UInt8.ofNat (48+n % 10)]:=by
 grind [V5,p9,Go.Lib.decDigits]
theorem oh(n:Nat):Gm n=V5 n:=by grind [Gm,V5,Go.Lib.itoa]
theorem JX{n:Int}(h:0<=n):Gm n=V5 n.toNat:=by
 grind [oh]
def Bk(l:List ByteArray):ByteArray:=gW (Go.Lib.join (l.map (·.data.toList)) sep.data.toList)
theorem UW:Bk sep []=gW []:=rfl
theorem Kg(x:ByteArray):Bk sep [x]=x:=JU (by grind [Bk,Go.Lib.join_one])
theorem CF(x y:ByteArray)(r:List ByteArray):Bk sep (x::y::r)=x++(sep++Bk sep (y::r)):=JU (by
 unfold Bk
 grind [Go.Lib.join_cons,Go.Lib.joinTail,ByteArray.data_append])
theorem D2(x y:ByteArray):Bk sep [x,y]=x++(sep++y):=by rw[CF,Kg]
theorem SQ(sep z:ByteArray):∀(x:ByteArray) (l:List ByteArray),Bk sep (x::l++[z])=Bk sep (x::l)++sep++z
 |x,[]=>by grind [D2,Kg,Df]
 |x,y::l=>by
  rw[D8,D8,CF,CF,<-D8,SQ sep z y l]
  grind [Df]
theorem NG{l:List ByteArray}(h:i<l.length) :
  Bk sep (l.take (i+1))=(if 0<i then Bk sep (l.take i)++sep else Bk sep (l.take i))++l[i]:=by
 rw[A6 h]
 match l,i,h with
 |x::r,0,_=>grind [Kg,UW,kN]
 |x::r,k+1,h=>rw[AE (Nat.succ_pos k),List.take_succ_cons,SQ]
-- versions
abbrev RF:ByteArray:=⟨#[46]⟩
abbrev bR:ByteArray:=⟨#[46,46]⟩
abbrev pp:ByteArray:=⟨#[42]⟩
abbrev BE:ByteArray:=⟨#[32]⟩
abbrev GD:ByteArray:=⟨#[32,124,32]⟩
abbrev iq:ByteArray:=⟨#[110,111,110,101]⟩
def TM(a b c:Int):ByteArray:=Gm a++RF++Gm b++RF++Gm c
theorem gN(a b c:Int):Bk RF [Gm a,Gm b,Gm c]=TM a b c:=by
 grind [CF,D2,TM,Df]
def Lt(p:Int):ByteArray:=TM m (p / 1000) (p % 1000)
def Dn(x:Int×Int):ByteArray:=
 if x.1=0/\x.2=1000000 then pp else if x.2=x.1+1 then Lt m x.1 else if x.2=1000000 then Lt m x.1++bR
 else if x.1=0 then bR++Lt m x.2 else Lt m x.1++bR++Lt m x.2
def MZ:ByteArray:=if canon s=[]then iq else Bk GD ((canon s).map (Dn m))
def Ft:Int:=(A8 p).getD 0
def CP(l:List ByteArray):ByteArray:=Bk BE l
def MY:ByteArray:=MZ (Ft p) s
def CZ(t:Tm):ByteArray:=t.path++BE++MY t.path (if t.absent then BJ t.set else t.set)
abbrev IJ:ByteArray:=⟨#[32,97,110,100,32]⟩
abbrev VW:ByteArray:=⟨#[32,111,114,32]⟩
def A7:List ByteArray:=(c.filter fun t=>!t.absent).map CZ
def Br:List ByteArray:=(c.filter fun t=>t.absent).map CZ
abbrev Ob:ByteArray:=⟨#[110,111,116,104,105,110,103]⟩
abbrev bU:ByteArray:=(⟨#[116,104,105,115,32,105,115,32,105,109,112,111,115,115,105,98,108,101]⟩:ByteArray)
abbrev mB:ByteArray:=(⟨#[32,105,115,32,105,109,112,111,115,115,105,98,108,101]⟩:ByteArray)
abbrev wA:ByteArray:=(⟨#[32,100,111,32,110,111,116,32,103,111,32,116,111,103,101,116,104,101,114]⟩:ByteArray)
abbrev Q6:ByteArray:=(⟨#[32,105,115,32,110,101,101,100,101,100]⟩:ByteArray)
abbrev VV:ByteArray:=(⟨#[32,110,101,101,100,115,32]⟩:ByteArray)
abbrev bS:ByteArray:=(⟨#[32,110,101,101,100,32]⟩:ByteArray)
def Yr:ByteArray:=
 if Br c=[]then(if A7 c=[]then bU else if(A7 c).length=1 then Bk IJ (A7 c)++mB else Bk IJ (A7 c)++wA)
 else if A7 c=[]then Bk VW (Br c)++Q6
 else if(A7 c).length=1 then Bk IJ (A7 c)++VV++Bk VW (Br c)
 else Bk IJ (A7 c)++bS++Bk VW (Br c)
def BD(l:List Tm):ByteArray:=match AW l with
 |none=>Ob
 |some c=>Yr c
def BL:Nf:=⟨0,mt,0,0,0,0⟩
def FE(i:Nat)(y:Nf):Bool:=decide (y.left<0)||decide ((i:Int)<=y.left)||(decide (y.right<0)||decide ((i:Int)<=y.right))
def DT(l:List Nf):Nat->List Bool->Option (List Bool)
 |0,u=>some u
 |i+1,u=>if u.getD i false&&decide ((l.getD i BL).kind=3)then
   (if FE i (l.getD i BL)then none else DT l i ((u.set (l.getD i BL).left.toNat true).set (l.getD i BL).right.toNat true))
  else DT l i u
def Ez(l:List Nf)(t:Nat):Option (List Bool):=DT l (t+1) ((List.replicate l.length false).set t true)
def HS:List Nat:=(List.range u.length).filter fun i=>u.getD i false
def Dv(l:List Nf)(target:Int):List Nat:=
 if target<0\/(l.length:Int)<=target then []else match Ez l target.toNat with
  |none=>[]
  |some u=>HS u
def EJ(n:Int):Int:=match used.findIdx? (fun i:Nat=>decide ((i:Int)=n))with
 |none=>-1
 |some k=>k
def BV:Nf:=if y.kind=3 then { y with left:=EJ used y.left,right:=EJ used y.right }else y
def De(l:List Nf)(target:Int):List Nf:=(Dv l target).map fun i=>BV (Dv l target) (l.getD i BL)
theorem Yb(i j:Nat)(h:j<u.length):(u.set i true).getD j false=(decide (i=j)||u.getD j false):=by
 grind
theorem HZ{l:List Nf}:∀{n:Nat} {u v:List Bool},DT l n u=some v->v.length=u.length
 |0,u,v,h=>by cases h;rfl
 |i+1,u,v,h=>by
  unfold DT at h;split at h
  .split at h
   .cases h
   .have:=HZ h;simp_all
  .exact HZ h
def po(l:List Nf)(u:List Bool)(i:Nat):Prop:=u.getD i false=true->(l.getD i BL).kind=3 ->
 (0<=(l.getD i BL).left/\(l.getD i BL).left<i)/\(0<=(l.getD i BL).right/\(l.getD i BL).right<i)/\u.getD (l.getD i BL).left.toNat false=true/\u.getD (l.getD i BL).right.toNat false=true
theorem Mn{y:Nf}(h:FE i y=false):(0<=y.left/\y.left<i)/\(0<=y.right/\y.right<i):=by
 grind [FE]
theorem JK{l:List Nf}:∀{n:Nat} {u v:List Bool},n<=u.length->DT l n u=some v ->
  (∀i,n<=i+1->v.getD i false=u.getD i false)/\(∀i,u.getD i false=true->v.getD i false=true)/\(∀i,i<n->po l v i)
 |0,u,v,_,h=>by cases h<;>simp_all
 |n+1,u,v,hn,h=>by
  unfold DT at h;split at h
  .rename_i hk;rw[Au,Bg]at hk;split at h
   .cases h
   .rename_i hb;obtain⟨b1,b2⟩:=Mn (DQ.2 hb);have ih:=JK (by grind) h;generalize hA:(l.getD n BL).left.toNat=A at h ih;generalize hB:(l.getD n BL).right.toNat=B at h ih;have hg:∀j,j<u.length->((u.set A true).set B true).getD j false=(decide (B=j)||(decide (A=j)||u.getD j false)):=fun j hj=>by
     grind
    have wW:∀i,u.getD i false=true->((u.set A true).set B true).getD i false=true:=fun i hi=>by
     grind
    refine⟨fun i hi=>?_,fun i hi=>ih.2.1 i (wW i hi),fun i hi=>?_⟩
    .grind
    .by_cases e:i=n
     .subst e;intro _ _
      grind
     grind
  .rename_i hk;have ih:=JK aa0 h;refine⟨fun i hi=>ih.1 i aa0,ih.2.1,fun i hi=>?_⟩
   by_cases e:i=n
   .subst e;intro h1 h2;simp_all
   grind
theorem KN{t:Nat}{u:List Bool}(ht:t<l.length)(h:Ez l t=some u) :
  u.length=l.length/\u.getD t false=true/\(∀i,t<i->u.getD i false=false)/\∀i,po l u i:=by
 unfold Ez at h;have hl:=HZ h;have hs:=JK (by grind) h;have h0:∀i,(List.replicate l.length false).getD i false=false:=fun i=>by
  grind
 have l5:∀i,t<i->u.getD i false=false:=fun i hi=>by
  grind
 refine⟨by simp_all,?_,l5,fun i=>?_⟩
 .grind
 .by_cases hi:i<t+1
  .simp_all
  .intro h1;grind
theorem aZ{t:Nat}(hr:∀i,i<=t->(l.getD i BL).kind=3->FE i (l.getD i BL)=false):∃u,Ez l t=some u:=by
 unfold Ez;generalize (List.replicate l.length false).set t true=u
 suffices ∀(n:Nat) (u:List Bool),n<=t+1->∃v,DT l n u=some v from this _ _ (Aq _)
 intro n
 induction n with
 |zero=>exact fun u _=>⟨u,rfl⟩
 |succ n ih=>
  intro u hn;unfold DT;split
  .rename_i hk;rw[Au,Bg]at hk;rw[hr n aa0 hk.2];exact ih _ aa0
  .exact ih u aa0
theorem U6{u:List Bool}:i∈HS u↔u.getD i false=true:=by
 grind [HS]
theorem Pb:(HS u).Pairwise (· < ·):=List.Pairwise.filter _ List.pairwise_lt_range
theorem Ma{used:List Nat}(h:n∈used):∃k:Nat,EJ used n=k/\used[k]?=some n:=by
 unfold EJ;cases e:used.findIdx? (fun i:Nat=>decide ((i:Int)=n))with
 |none=>
  grind
 |some k=>
  obtain⟨hk,h1,_⟩:=List.findIdx?_eq_some_iff_getElem.1 e
  grind
theorem Vs{used:List Nat}(hs:used.Pairwise (· < ·)){j a b:Nat}(hi:used[i]?=some a)(hj:used[j]?=some b)(h:a<b):i<j:=by
 grind [List.pairwise_iff_getElem]
theorem Rc{l:List α}{a d:α}(h:l[i]?=some a):l.getD i d=a:=by simp_all
theorem sw{l:List α}(d:α)(h:i<l.length):l[i]?=some (l.getD i d):=by
 simp_all
theorem Jl{l:List α}(d:α)(h:i<l.length):l.take (i+1)=l.take i++[l.getD i d]:=by
 simp_all
theorem IV(h:Bu x roots l []=some d) :
  d.length=l.length/\∀i,i<l.length->AP x roots (d.take i) (l.getD i BL)=some (d.getD i []):=by
 have hl:d.length=l.length:=by have:=Hv h;simp_all
 refine⟨hl,fun i hi=>?_⟩;have h1:=M2 h i;have h2:=M2 h (i+1)
 grind [Jl,ET,Bu,List.append_cancel_left]
theorem d5(hl:d.length=l.length)(h:∀i,i<l.length->AP x roots (d.take i) (l.getD i BL)=some (d.getD i [])):Bu x roots l []=some d:=by
 suffices ∀k,k<=l.length->Bu x roots (l.take k) []=some (d.take k) by
  grind [List.take_length]
 intro k
 induction k<;>grind [Jl,ET,Bu]
theorem IQ{l:List α}{i:Int}{a:α}(h:Di l i=some a):0<=i/\i<l.length/\l[i.toNat]?=some a:=by
 grind [Di]
theorem Mx{y:Nf}(h:AP x roots d y=some t)(hk:y.kind=3) :
  ∃a b,Di d y.left=some a/\Di d y.right=some b/\y.place=0/\y.number=0/\(Bn a b y.path).2=0/\(Bn a b y.path).1=t:=by
 grind [AP]
theorem kg{d':List (List Tm)}{y:Nf}(hk:y.kind≠3):AP x roots d y=AP x roots d' y:=by
 grind [AP]
theorem T5{y:Nf}{a:List Tm}(hk:y.kind=3)(ha:Di d y.left=some a)(hb:Di d y.right=some b)(hp:y.place=0)(hn:y.number=0)(hr:(Bn a b y.path).2=0):AP x roots d y=some (Bn a b y.path).1:=by
 grind [AP]
theorem Qm(h:Bu x roots l []=some d) :
  ∀i,i<l.length->(l.getD i BL).kind=3->FE i (l.getD i BL)=false:=fun i hi hk=>by
 obtain⟨a,b,ha,hb,_⟩:=Mx ((IV h).2 i hi) hk;have h1:=IQ ha;have h2:=IQ hb
 grind [FE]
theorem IN(h:Bu x roots l []=some d){t:Nat}(ht:t<l.length) :
  ∃u,Ez l t=some u/\Dv l t=HS u:=by
 obtain⟨u,hu⟩:=aZ fun i hi hk=>Qm h i (Nat.lt_of_le_of_lt hi ht) hk<;>grind [Dv]
theorem JD(h:Bu x roots l []=some d){t:Nat}(ht:t<l.length) :
  Bu x roots (De l t) []=some ((Dv l t).map fun i=>d.getD i []):=by
 obtain⟨u,hu,hU⟩:=IN h ht;obtain⟨hl,h1,h2,h3⟩:=KN ht hu;unfold De;rw[hU];have hs:=Pb u;have hm:∀i,i∈HS u↔u.getD i false=true:=fun i=>U6;generalize HS u=used at hs hm;have Pf:∀i∈used,i<l.length:=fun i hi=>by
  grind
 refine d5 (by simp_all) fun k hk=>?_;rw[Bv]at hk;obtain⟨i,hi⟩:∃i,used[k]?=some i:=⟨_,AI hk⟩;have Xe:i∈used:=AO hi;have e1:(used.map fun i=>BV used (l.getD i BL)).getD k BL=BV used (l.getD i BL):=Rc (by simp_all);have e2:(used.map fun i=>d.getD i []).getD k []=d.getD i []:=Rc (by simp_all);rw[e1,e2];have eW:=(IV h).2 i (Pf i Xe)
 by_cases T0:(l.getD i BL).kind=3
 .obtain⟨a,b,ha,hb,hp,hn,hr,ht⟩:=Mx eW T0;obtain⟨⟨a1,a2⟩,⟨b1,b2⟩,a3,b3⟩:=h3 i ((hm i).1 Xe) T0;have key:∀(z:Int) (c:List Tm),0<=z->z<i->u.getD z.toNat false=true->Di (d.take i) z=some c->Di ((used.map fun i=>d.getD i []).take k) (EJ used z)=some c:=fun z c z0 zi zu hz=>by
   obtain⟨n,rfl⟩:=Rs z0;rw[Cj]at zu;obtain⟨j,hj,eX⟩:=Ma ((hm n).2 zu);have sK:j<k:=Vs hs eX hi aa0;have hc:=(IQ hz).2.2;rw[Cj,N3,AE aa0]at hc;rw[hj];unfold Di;simp_all
  rw[show d.getD i []=(Bn a b (l.getD i BL).path).1 from ht.symm];unfold BV;rw[AE T0];exact T5 (y:={ l.getD i BL with left:=EJ used (l.getD i BL).left,right:=EJ used (l.getD i BL).right }) T0 (key _ _ a1 a2 a3 ha) (key _ _ b1 b2 b3 hb) hp hn hr
 grind [BV,kg]
theorem L0{l:List Nf}:∀{n:Nat} {u v:List Bool},n<=u.length->DT l n u=some v->∀i,v.getD i false=true->u.getD i false=true \/
  ∃j,j<n/\v.getD j false=true/\(l.getD j BL).kind=3/\((l.getD j BL).left=i\/(l.getD j BL).right=i)
 |0,u,v,_,h=>by cases h<;>simp_all
 |n+1,u,v,hn,h=>by
  intro i hi;have Hy:=JK hn h;unfold DT at h;split at h
  .rename_i hk;rw[Au,Bg]at hk;split at h
   .cases h
   .rename_i hb;obtain⟨b1,b2⟩:=Mn (DQ.2 hb);have hv:v.getD n false=true:=Hy.2.1 n hk.1;rcases L0 (by simp only[Hq];omega) h i hi with h1 | ⟨j,j1,j2,j3,j4⟩<;>grind
  .rcases L0 aa0 h i hi with h1 | ⟨j,j1,j2,j3,j4⟩<;>grind
theorem aY{t:Nat}{u:List Bool}(ht:t<l.length)(h:Ez l t=some u)(hi:u.getD i false=true)(Fi:i≠t) :
  ∃j,u.getD j false=true/\(l.getD j BL).kind=3/\((l.getD j BL).left=i\/(l.getD j BL).right=i):=by
 unfold Ez at h;rcases L0 (by simp;omega) h i hi with h1 | ⟨j,_,j2,j3,j4⟩<;>grind
theorem L1{l:List Nf}{t:Nat}(hl:l.length=t+1)(hb:∀k,k<l.length->(l.getD k BL).kind=3->FE k (l.getD k BL)=false)
  (hr:∀k,k<t->∃j,k<j/\j<l.length/\(l.getD j BL).kind=3/\((l.getD j BL).left=k\/(l.getD j BL).right=k)) :
  ∀{n:Nat} {u:List Bool},n<=l.length->u.length=l.length->u.getD t false=true ->
   (∀k,n<=k->k<l.length->u.getD k false=true/\((l.getD k BL).kind=3->u.getD (l.getD k BL).left.toNat false=true/\u.getD (l.getD k BL).right.toNat false=true)) ->
   ∃v,DT l n u=some v/\v.length=l.length/\∀k,k<l.length->v.getD k false=true
 |0,u,_,hu,_,h=>⟨u,rfl,hu,fun k hk=>(h k (Ao k) hk).1⟩
 |n+1,u,hn,hu,ht,h=>by
  have hnt:u.getD n false=true:=by
   by_cases e:n=t
   .simp_all
   .obtain⟨j,j1,j2,j3,j4⟩:=hr n aa0
    have:=(h j aa0 j2).2 j3
    rcases j4 with j4 | j4
    all_goals simp_all
  unfold DT;rw[hnt,Bool.true_and]
  by_cases hk:(l.getD n BL).kind=3
  .rw[AE (A4 hk),hb n aa0 hk];rw[Aw aa2];obtain⟨b1,b2⟩:=Mn (hb n aa0 hk);generalize hA:(l.getD n BL).left.toNat=A;generalize hB:(l.getD n BL).right.toNat=B;have hg:∀j,j<u.length->((u.set A true).set B true).getD j false=(decide (B=j)||(decide (A=j)||u.getD j false)):=fun j hj=>by
    rw[Yb _ _ _ (by simp_all),Yb _ _ _ hj]
   have wW:∀j,u.getD j false=true->((u.set A true).set B true).getD j false=true:=fun j hj=>by
    grind
   refine L1 hl hb hr aa0 (by simp_all) (wW t ht) fun k zS N1=>?_
   by_cases e:k=n
   .subst e;refine⟨wW k hnt,fun _=>?_⟩;rw[hA,hB,hg A aa0,hg B aa0];simp
   .have:=h k aa0 N1
    simp_all
  .rw[Aw (by simp_all)];refine L1 hl hb hr aa0 hu ht fun k zS N1=>?_
   by_cases e:k=n
   .simp_all
   .exact h k aa0 N1
theorem bH{v:List Bool}(hl:v.length=n)(h:∀k,k<n->v.getD k false=true):HS v=List.range n:=by
 grind [HS,List.filter_eq_self]
theorem Th{z:Int}(h0:0<=z)(h1:z<n):EJ (List.range n) z=z:=by
 obtain⟨k,rfl⟩:=Rs h0;obtain⟨j,hj,eX⟩:=Ma (used:=List.range n) (n:=k) (GU.2 aa0)<;>grind
theorem TL(h:Bu x roots l []=some d){t:Nat}(ht:t<l.length) :
  ∃m,(Dv l t).length=m+1/\(De l t).length=m+1/\((Dv l t).map fun i=>d.getD i []).getD m []=d.getD t []/\((Dv l t).map fun i=>d.getD i []).length=m+1 /\
   Dv (De l t) m=List.range (m+1)/\De (De l t) m=De l t:=by
 obtain⟨u,hu,hU⟩:=IN h ht;obtain⟨hl,h1,h2,h3⟩:=KN ht hu;have uX:=fun i=>aY (i:=i) ht hu;have hD:=JD h ht;have hT:De l t=(HS u).map fun i=>BV (HS u) (l.getD i BL):=by grind [De]
 rw[hT]at hD⊢;rw[hU]at hD⊢;have hs:=Pb u;have hm:∀i,i∈HS u↔u.getD i false=true:=fun i=>U6;generalize HS u=used at hs hm hD;have SD:t∈used:=(hm t).2 h1;obtain⟨m,Cy⟩:∃m,used.length=m+1:=⟨used.length-1,by grind⟩;obtain⟨k,hk,N1⟩:=Ma SD;obtain⟨kl,_⟩:=AR.1 N1
 -- the target is the last Xm
 have Yl:∀i a,used[i]?=some a->a<=t:=fun i a ha=>by
  rcases Dq t a with e | e
  .have:=(hm a).1 (AO ha);simp_all
  omega
 have hkm:k=m:=by
  grind [List.pairwise_iff_getElem]
 subst hkm;generalize hO:(used.map fun i=>BV used (l.getD i BL))=own at hD⊢;have hol:own.length=k+1:=by grind
 have Mu:∀j a,used[j]?=some a->own.getD j BL=BV used (l.getD a BL):=fun j a ha=>Rc (by grind);have hb:=Qm hD;have jP:∃v,Ez own k=some v/\v.length=own.length/\∀j,j<own.length->v.getD j false=true:=by
  unfold Ez;refine L1 hol hb (fun j hj=>?_) aa0 aa1 (by simp_all) (fun j zQ eX=>absurd zQ aa0);obtain⟨a,ha⟩:∃a,used[j]?=some a:=⟨_,AI aa0⟩;have hau:u.getD a false=true:=(hm a).1 (AO ha);have zq : a≠t:=fun e=>by
   grind [List.pairwise_iff_getElem]
  obtain⟨b,b1,b2,b3⟩:=uX a hau zq;obtain⟨jb,hjb,nS⟩:=Ma ((hm b).2 b1);have Fp:a<b:=by
   obtain⟨⟨c1,c2⟩,⟨c3,c4⟩,_⟩:=h3 b b1 b2;omega
  obtain⟨jl,_⟩:=AR.1 nS;have hpa:EJ used a=j:=by
   obtain⟨j',q1,q2⟩:=Ma (AO ha);rw[q1];rcases Nat.lt_trichotomy j j' with e | e | e
   .obtain⟨l1,e1⟩:=AR.1 ha;obtain⟨l2,e2⟩:=AR.1 q2
    have:=DM.1 hs j j' l1 l2 e;omega
   .rw[e]
   .obtain⟨l1,e1⟩:=AR.1 ha;obtain⟨l2,e2⟩:=AR.1 q2
    have:=DM.1 hs j' j l2 l1 e;omega
  refine⟨jb,Vs hs ha nS Fp,by omega,?_,?_⟩
  .rw[Mu jb b nS];unfold BV;simp_all
  .rw[Mu jb b nS];unfold BV;grind
 obtain⟨v,hv,hvl,hvt⟩:=jP;have hUO:Dv own k=List.range (k+1):=by
  grind [Dv,Int.toNat_natCast,bH]
 refine⟨k,Cy,hol,Rc (by simp_all),by simp_all,hUO,?_⟩;unfold De;rw[hUO];refine List.ext_getElem (by simp_all) fun j j1 j2=>?_;rw[List.getElem_map,List.getElem_range];have nV:own.getD j BL=own[j]:=by simp_all
 rw[<-nV];unfold BV
 by_cases T0:(own.getD j BL).kind=3
 .obtain⟨⟨c1,c2⟩,⟨c3,c4⟩⟩:=Mn (hb j j2 T0);rw[AE T0,Th c1 aa0,Th c3 aa0]
 simp_all
theorem PS(v:Ver):0<=plc v/\plc v<1000000:=by
 grind [plc,Bo,okPart,place]
theorem dS{p:Int}(h:0<=p/\p<1000000):canon [(p,p+1)]=[(p,p+1)]:=I6 ⟨h.1,by omega,by omega,trivial⟩
theorem gA{p:Int}(_h:0<=p/\p<1000000):Dn m (p,p+1)=Lt m p:=by
 grind [Dn]
theorem lD{p:Int}(h:0<=p/\p<1000000):MZ m [(p,p+1)]=Lt m p:=by
 grind [MZ,dS,Kg,gA]
def Pk:ByteArray:=if 0<=pl/\pl<1000000 then Lt (Ft p) pl else TM 0 0 0
def XF:ByteArray:=MY p [(pl,pl+1)]
theorem im{p:ByteArray}{pl:Int}(h:0<=pl/\pl<1000000):Pk p pl=XF p pl:=by
 grind [Pk,XF,MY,lD]
abbrev Us:ByteArray:=⟨#[40]⟩
abbrev I4:ByteArray:=⟨#[41]⟩
abbrev ir:ByteArray:=(⟨#[40,114,111,111,116]⟩:ByteArray)
abbrev xk:ByteArray:=(⟨#[40,98,121]⟩:ByteArray)
abbrev XG:ByteArray:=(⟨#[40,110,111,32,111,116,104,101,114,32,114,101,108,101,97,115,101,115,41]⟩:ByteArray)
abbrev ip:ByteArray:=(⟨#[40,102,114,111,109]⟩:ByteArray)
abbrev io:ByteArray:=(⟨#[97,110,100]⟩:ByteArray)
def Fe:ByteArray:=
 if y.kind=0 then Bk BE [ir,Gm (y.number+1)++I4]
 else if y.kind=1 then Bk BE [xk,y.path,Pk y.path y.place++I4]
 else if y.kind=2 then XG
 else Bk BE [ip,Gm (y.left+1),io,Gm (y.right+1)++I4]
abbrev pV:ByteArray:=(⟨#[114,111,111,116,32]⟩:ByteArray)
abbrev rBy:ByteArray:=(⟨#[98,121,32]⟩:ByteArray)
abbrev Zc:ByteArray:=(⟨#[110,111,32,111,116,104,101,114,32,114,101,108,101,97,115,101,115]⟩:ByteArray)
abbrev pU:ByteArray:=(⟨#[102,114,111,109,32]⟩:ByteArray)
def HM(n:Int):ByteArray:=V5 n.toNat
def D5:ByteArray:=
 if y.kind=0 then pV++HM (y.number+1)
 else if y.kind=1 then rBy++y.path++BE++XF y.path y.place
 else if y.kind=2 then Zc
 else pU++HM (y.left+1)++IJ++HM (y.right+1)
def ZI:Prop:=(y.kind=0->0<=y.number)/\(y.kind=1->0<=y.place/\y.place<1000000)/\(y.kind=3->0<=y.left/\0<=y.right)/\(y.kind=0\/y.kind=1\/y.kind=2\/y.kind=3)
theorem se:ir++BE=Us++pV:=JU (by simp_all)
theorem AaP:xk++BE=Us++rBy:=JU (by simp_all)
theorem AaQ:XG=Us++Zc++I4:=JU (by simp_all)
theorem sd:ip++BE=Us++pU:=JU (by simp_all)
theorem ww:BE++(io++BE)=IJ:=JU (by simp_all)
theorem Vk{y:Nf}(h:ZI y):Fe y=Us++D5 y++I4:=by
 obtain⟨h0,h1,h3,hk⟩:=h;unfold Fe D5
 by_cases k0:y.kind=0
 .rw[AE k0,AE k0,D2,JX aa0,<-Df,se]
  grind [HM,Df]
 .rw[Aw k0,Aw k0]
  by_cases k1:y.kind=1
  .rw[AE k1,AE k1,CF,D2,im (h1 k1),<-Df,AaP]
   grind [Df]
  .rw[Aw k1,Aw k1]
   by_cases k2:y.kind=2
   .grind [AaQ]
   .rw[Aw k2,Aw k2];have k3:y.kind=3:=by omega
    have:=h3 k3
    rw[CF,CF,D2,JX aa0,JX aa0,<-Df,sd,<-ww]
    grind [HM,Df]
abbrev Ur:ByteArray:=⟨#[46,32]⟩
def SW(t:List Tm)(y:Nf):ByteArray:=Bk BE [Gm ((k:Int)+1)++RF,BD t,Fe y]
def OK(t:List Tm)(y:Nf):ByteArray:=HM ((k:Int)+1)++Ur++BD t++(⟨#[32,40]⟩:ByteArray)++D5 y++I4
theorem ou{k:Nat}{y:Nf}(h:ZI y):SW k t y=OK k t y:=by
 unfold SW OK;rw[CF,D2,Vk h,JX aa0,show Ur=RF++BE from JU (by simp_all),show(⟨#[32,40]⟩:ByteArray)=BE++Us from JU (by simp_all)]
 grind [HM,Df]
theorem kh{y:Nf}(h:AP x roots d y=some t):ZI y:=by
 have h':=h;unfold AP at h
 by_cases k0:y.kind=0
 .rw[AE k0]at h;split at h
  .cases e:Di roots y.number with
   |none=>simp_all
   |some q=>exact⟨fun _=>(IQ e).1,fun k=>by omega,fun k=>by omega,.inl k0⟩
  simp_all
 .rw[Aw k0]at h
  by_cases k1:y.kind=1
  .rw[AE k1]at h;split at h
   .split at h
    .cases h
    .rename_i r hr
     have:=Jr hr
     simp only[Au,Bg]at this;have hp:=PS r.ver;exact⟨fun k=>by omega,fun _=>by omega,fun k=>by omega,.inr (.inl k1)⟩
   simp_all
  .rw[Aw k1]at h
   by_cases k2:y.kind=2
   .exact⟨fun k=>by omega,fun k=>by omega,fun k=>by omega,.inr (.inr (.inl k2))⟩
   .rw[Aw k2]at h
    by_cases k3:y.kind=3
    .obtain⟨a,b,ha,hb,_⟩:=Mx h' k3;exact⟨fun k=>by omega,fun k=>by omega,fun _=>⟨(IQ ha).1,(IQ hb).1⟩,.inr (.inr (.inr k3))⟩
    simp_all
theorem Pt(h:Bu x roots l []=some d)(hi:i<l.length):ZI (l.getD i BL):=kh ((IV h).2 i hi)
def KM(f:Nat->List Tm->Nf->ByteArray)(own:List Nf)(d:List (List Tm)):List ByteArray:=(List.range own.length).map fun k=>f k (d.getD k []) (own.getD k BL)
def FH(x:List Rl)(roots:List Rq)(l:List Nf)(target:Int):List ByteArray×Int:=
 if(Ax x roots l).2≠0 then([],(Ax x roots l).2)
 else if target<0\/(l.length:Int)<=target then([],2)
 else(KM SW (De l target) ((Dv l target).map fun i=>(Ax x roots l).1.getD i []),0)
def HC(x:List Rl)(roots:List Rq)(l:List Nf)(target:Int):List ByteArray×Int:=
 if(Ax x roots l).2≠0 then([],(Ax x roots l).2)
 else if target<0\/(l.length:Int)<=target then([],2)
 else(KM OK (De l target) (Ax x roots (De l target)).1,0)
theorem YI(x:List Rl)(roots:List Rq)(l:List Nf)(target:Int):FH x roots l target=HC x roots l target:=by
 unfold FH HC
 by_cases h:(Ax x roots l).2≠0
 .simp_all
 .rw[Aw h,Aw h]
  by_cases ht:target<0\/(l.length:Int)<=target
  .simp_all
  .rw[Aw ht,Aw ht];obtain⟨h1,h2,h3,h4⟩:=DN (Decidable.not_not.1 h);obtain⟨t,rfl⟩:=Rs (a:=target) aa0;have ZE : t<l.length:=by omega
   have hD:=JD h4 ZE;obtain⟨m,f1,f2,f3,f4,_⟩:=TL h4 ZE;have HB:(De l t).length<=65536:=by
    have:(De l t).length<=l.length:=by
     unfold De;rw[Bv];obtain⟨u,hu,hU⟩:=IN h4 ZE;rw[hU]
     have:=(KN ZE hu).1
     grind [HS]
    omega
   rw[RT h1 h2 HB hD]
   grind [KM,List.map_congr_left,ou,Pt]
end Go.Eng
