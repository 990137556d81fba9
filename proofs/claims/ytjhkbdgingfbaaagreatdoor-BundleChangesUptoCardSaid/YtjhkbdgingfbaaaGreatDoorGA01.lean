/- Lemmas 1. -/
import Derived.Test.YtjhkbdgingfbaaaGreatDoorGA00
import Derived.Lib.SplitLaws
import Derived.Lib.IndexBytes
import Derived.Lib.ItoaNum
import Derived.Lib.Join
import Derived.Lib.LastIndexLaws
import Derived.Lib.IndexMore
import Derived.Lib.AtoiAll
import Derived.Lib.ItoaLen
namespace Go.Eng
variable {a b:ByteArray}{lo:Int}(s:List UInt8)(c:UInt8)
def Cb(p:Int)(s:Int×Int):Bool:=decide (s.1<=p)&&decide (p<s.2)
def has(s:List (Int×Int))(p:Int):Bool:=decide (0<=p)&&decide (p<1000000)&&s.any (Cb p)
abbrev Bz:=List (Int×Int)
variable {l:Bz}
def Em(lo:Int):Bz->Prop
 | []=>True
 |y::r=>lo<=y.1/\y.1<y.2/\y.2<=1000000/\Em (y.2+1) r
abbrev Nc(l:Bz):Prop:=Em 0 l
def QJ(x:Int×Int):Bz->Bz
 | []=>[x]
 |y::r=>if x.2<y.1 then x::y::r else if y.2<x.1 then y::QJ x r else QJ (min x.1 y.1,max x.2 y.2) r
def DL(x:Int×Int):Int×Int:=(max x.1 0,min x.2 1000000)
def canon:Bz->Bz
 | []=>[]
 |x::r=>if(DL x).1<(DL x).2 then QJ (DL x) (canon r)else canon r
def T7(at_:Int):Bz->Bz
 | []=>if at_<1000000 then [(at_,1000000)]else []
 |y::r=>if at_<y.1 then(at_,y.1)::T7 y.2 r else T7 y.2 r
def Sf(s:Bz):Bz:=T7 0 (canon s)
def gz(l:List Bz):Bz:=Sf (l.map Sf).flatten
def kN(a b:Bz):Bz:=gz [a,b]
def kT(a b:Bz):Bz:=kN a (Sf b)
def pk(a b:Bz):Bool:=(kT a b).isEmpty
theorem Em.mono{FM:Int}:∀{l:Bz},Em lo l->FM<=lo->Em FM l
 | [],_,_=>trivial
 |_::_,⟨h1,h2,h3,h4⟩,h=>⟨Int.le_trans h h1,h2,h3,h4⟩
theorem Em.low{lo:Int}:∀{l:Bz},Em lo l->∀y∈l,lo<=y.1/\y.1<y.2/\y.2<=1000000
 |y::r,⟨h1,h2,h3,h4⟩,z,hz=>by
  rcases AS.1 hz with rfl | hz
  .exact⟨h1,h2,h3⟩
  .have:=h4.low z hz
   exact⟨by omega,this.2.1,this.2.2⟩
theorem Ep{p:Int}{s:Int×Int}:Cb p s=true↔s.1<=p/\p<s.2:=by simp[Cb]
theorem MZ(h:Em lo l){p:Int}(hp:l.any (Cb p)=true):lo<=p:=by
 obtain⟨y,hy,h2⟩:=Br.1 hp
 have:=h.low y hy
 have:=Ep.1 h2
 omega
theorem XO(h:Em lo l){p:Int}(hp:l.any (Cb p)=true):p<1000000:=by
 obtain⟨y,hy,h2⟩:=Br.1 hp
 have:=h.low y hy
 have:=Ep.1 h2
 omega
theorem Kd:∀(l:Bz) {lo:Int} {x:Int×Int},Em lo l->lo<=x.1->x.1<x.2->x.2<=1000000->Em lo (QJ x l)
 | [],lo,x,_,h1,h2,h3=>⟨h1,h2,h3,trivial⟩
 |y::r,lo,x,⟨g1,g2,g3,g4⟩,h1,h2,h3=>by
  unfold QJ;split
  .exact⟨h1,h2,h3,by omega,g2,g3,g4⟩
  .split
   .exact⟨g1,g2,g3,Kd r g4 sP h2 h3⟩
   .refine Kd r (g4.mono sP) ?_ ?_ ?_<;>dsimp only<;>omega
theorem KM:∀(l:Bz) {lo:Int} {x:Int×Int} (p:Int),Em lo l->x.1<x.2->(QJ x l).any (Cb p)=(Cb p x||l.any (Cb p))
 | [],lo,x,p,_,_=>by simp[QJ]
 |y::r,lo,x,p,⟨g1,g2,g3,g4⟩,h2=>by
  unfold QJ;split
  .simp
  .split
   .rw[Cj,KM r p g4 h2,Cj,<-Bool.or_assoc,<-Bool.or_assoc,Bool.or_comm (Cb p y)]
   .rw[KM r p g4 (by dsimp only;omega),Cj,<-Bool.or_assoc]
    congr 1
    simp only[Cb];rw[Dp];simp only[Ak,CO,A3];omega
theorem Fm:∀s:Bz,Nc (canon s)
 | []=>trivial
 |x::r=>by
  unfold canon;split
  .rename_i h;refine Kd _ (Fm r) ?_ h ?_<;>simp only[DL]<;>omega
  .exact Fm r
theorem LF:∀(s:Bz) (p:Int),(canon s).any (Cb p)=has s p
 | [],p=>by simp[has,canon]
 |x::r,p=>by
  have ih:=LF r p;unfold canon;have hx:Cb p (DL x)=(decide (0<=p)&&decide (p<1000000)&&Cb p x):=by
   simp only[Cb,DL];rw[Dp];simp only[Ak,A3,Int.max_le,Int.lt_min];omega
  split
  .rename_i h;rw[KM _ p (Fm r) h,ih,hx];simp only[has,Cj];cases decide (0<=p)<;>cases decide (p<1000000)<;>simp
  .rename_i h;rw[ih];simp only[has,Cj]
   have:Cb p (DL x)=false:=by
    rw[A8];intro h3
    have:=Ep.1 h3
    omega
   rw[this]at hx;cases h1:decide (0<=p)<;>cases h2:decide (p<1000000)<;>simp_all
theorem GN(h:Nc l)(p:Int):has l p=l.any (Cb p):=by
 unfold has;cases e:l.any (Cb p)with
 |false=>simp
 |true=>have h1:0<=p:=MZ h e;have h2:=XO h e;simp[h1,h2]
theorem Wp(s:Bz)(p:Int):has (canon s) p=has s p:=by
 rw[GN (Fm s),LF]
theorem JV:∀{a b:Bz} {lo:Int},Em lo a->Em lo b->(∀p,a.any (Cb p)=b.any (Cb p))->a=b
 | [],[],_,_,_,_=>rfl
 | [],z::s,_,_,⟨g1,g2,g3,g4⟩,h=>by
  have:=h z.1
  rw[Cj,Ep.2 ⟨CR _,g2⟩]at this;simp at this
 |y::r,[],_,⟨g1,g2,g3,g4⟩,_,h=>by
  have:=h y.1
  rw[Cj,Ep.2 ⟨CR _,g2⟩]at this;simp at this
 |y::r,z::s,lo,⟨f1,f2,f3,f4⟩,⟨g1,g2,g3,g4⟩,h=>by
  have below:∀{x:Int×Int} {t:Bz} {p:Int},Em (x.2+1) t->(x::t).any (Cb p)=true->p<=x.2->x.1<=p/\p<x.2:=fun {x t p} ht hp Fc=>by
   rw[Cj,CO]at hp;rcases hp with hp | hp
   .exact Ep.1 hp
   .have:=MZ ht hp;omega
  have low:∀{x:Int×Int} {t:Bz} {p:Int},x.1<x.2->Em (x.2+1) t->(x::t).any (Cb p)=true->x.1<=p:=fun {x t p} hx ht hp=>by
   rw[Cj,CO]at hp;rcases hp with hp | hp
   .exact(Ep.1 hp).1
   .have:=MZ ht hp;omega
  have cov:∀{x:Int×Int} {t:Bz} {p:Int},x.1<=p->p<x.2->(x::t).any (Cb p)=true:=fun {x t p} h1 h2=>by
   rw[Cj,Ep.2 ⟨h1,h2⟩,Bool.true_or]
  have e1:y.1=z.1:=by
   have a1:=low f2 f4 ((h z.1).trans (cov (CR _) g2));have a2:=low g2 g4 ((h y.1).symm.trans (cov (CR _) f2));omega
  have e2:y.2=z.2:=by
   rcases Int.lt_trichotomy y.2 z.2 with hl | he | hl
   .have:=below f4 ((h y.2).trans (cov sP hl)) (CR _);omega
   .exact he
   .have:=below g4 ((h z.2).symm.trans (cov sP hl)) (CR _);omega
  have e:y=z:=Prod.ext e1 e2;subst e
  congr 1
  refine JV f4 g4 fun p=>?_;have hp:=h p;simp only[Cj]at hp;cases hs:Cb p y with
  |false=>rw[hs,MG,MG]at hp;exact hp
  |true=>
   have:=Ep.1 hs
   have n:∀{t:Bz},Em (y.2+1) t->t.any (Cb p)=false:=fun {t} ht=>by
    rw[A8];intro hx;have:=MZ ht hx;omega
   rw[n f4,n g4]
theorem QV{a b:Bz}(ha:Nc a)(hb:Nc b)(h:∀p,has a p=has b p):a=b:=
 JV ha hb fun p=>by rw[<-GN ha,<-GN hb,h]
theorem Yt{a s:Bz}(ha:Nc a)(h:∀p,has a p=has s p):a=canon s:=
 QV ha (Fm s) fun p=>by rw[h,Wp]
structure Ver where
 (a b c:Int)
variable (v:Ver)
structure Rq where
 path:ByteArray
 set:List (Int×Int)
structure Rl where
 path:ByteArray
 ver:Ver
 reqs:List Rq
 (arch ifc cert:ByteArray)
 yanked:Bool
variable (r:Rl)
structure Sl where
 path:ByteArray
 ver:Ver
structure Tm where
 path:ByteArray
 absent:Bool
 set:List (Int×Int)
structure Nf where
 kind:Int
 path:ByteArray
 (place number left right:Int)
instance:DecidableEq Ver:=fun x y=>decidable_of_iff (x.a=y.a/\x.b=y.b/\x.c=y.c) ⟨fun⟨h1,h2,h3⟩=>by cases x;cases y;simp_all,fun h=>by subst h;exact⟨rfl,rfl,rfl⟩⟩
instance:DecidableEq Sl:=fun x y=>decidable_of_iff (x.path=y.path/\x.ver=y.ver) ⟨fun⟨h1,h2⟩=>by cases x;cases y;simp_all,fun h=>by subst h;exact⟨rfl,rfl⟩⟩
def okPart(n:Int):Prop:=0<=n/\n<=999
instance (n:Int):Decidable (okPart n):=by unfold okPart;infer_instance
def Cy:Bool:=decide (okPart v.a)&&decide (okPart v.b)&&decide (okPart v.c)
def place:Int:=1000*v.b+v.c
def plc:Int:=if Cy v then place v else 0
def IB(t:Tm)(s:List Sl):Bool:=
 match s.find? (fun x=>decide (x.path=t.path))with
 |none=>t.absent
 |some x=>Cy x.ver&&has t.set (place x.ver)
def Ht:List UInt8->List UInt8->Bool
 | [],[]=>false
 | [],_::_=>true
 |_::_,[]=>false
 |a::x,b::y=>decide (a<b)||(decide (a=b)&&Ht x y)
def FC(a b:ByteArray):Bool:=Ht a.data.toList b.data.toList
theorem Mv:∀x,Ht x x=false
 | []=>rfl
 |a::x=>by
  unfold Ht;simp[Mv x]
theorem Oe:∀{x y z},Ht x y=true->Ht y z=true->Ht x z=true
 | [],[],_,h,_=>by simp[Ht]at h
 | [],_::_,[],_,h=>by simp[Ht]at h
 | [],_::_,_::_,_,_=>rfl
 |_::_,[],_,h,_=>by simp[Ht]at h
 |_::_,_::_,[],_,h=>by simp[Ht]at h
 |a::x,b::y,c::z,h1,h2=>by
  unfold Ht at *
  simp only[CO,Ak,A3]at *
  rcases h1 with h1 | ⟨rfl,h1⟩
  .rcases h2 with h2 | ⟨rfl,h2⟩
   .exact .inl (UInt8.lt_trans h1 h2)
   .exact .inl h1
  .rcases h2 with h2 | ⟨rfl,h2⟩
   .exact .inl h2
   .exact .inr ⟨rfl,Oe h1 h2⟩
theorem SZ:∀{x y},Ht x y=false->Ht y x=false->x=y
 | [],[],_,_=>rfl
 | [],_::_,h,_=>by simp[Ht]at h
 |_::_,[],_,h=>by simp[Ht]at h
 |a::x,b::y,h1,h2=>by
  unfold Ht at *
  simp only[Bool.or_eq_false_iff,Iy,CB]at *
  have e:a=b:=by
   have l1:=UInt8.not_lt.1 h1.1;have l2:=UInt8.not_lt.1 h2.1;exact UInt8.le_antisymm l2 l1
  subst e
  have:=SZ (x:=x) (y:=y) (by simpa using h1.2) (by simpa using h2.2)
  rw[this]
theorem bA(h:a.data.toList=b.data.toList):a=b:=by
 cases a;cases b;simp only[ByteArray.mk.injEq];exact IF.1 h
theorem Dw(a:ByteArray):FC a a=false:=Mv _
theorem GO{c:ByteArray}(h:FC a b=true)(k:FC b c=true):FC a c=true:=Oe h k
theorem QU(h:FC a b=false)(k:FC b a=false):a=b:=bA (SZ h k)
def mj(q:Rq):Tm:=⟨q.path,true,Sf q.set⟩
theorem Ft{v:Ver}(h:Cy v=true):0<=v.a/\v.a<=999/\0<=v.b/\v.b<=999/\0<=v.c/\v.c<=999:=by
 unfold Cy at h;simp only[Ak]at h;obtain⟨⟨a,b⟩,c⟩:=h;obtain⟨a1,a2⟩:=AZ a;obtain⟨b1,b2⟩:=AZ b;obtain⟨c1,c2⟩:=AZ c;exact⟨a1,a2,b1,b2,c1,c2⟩
-- paths
def Ds:Bool:=decide (97<=c)&&decide (c<=122)
def IW:Bool:=decide (65<=c)&&decide (c<=90)
def BT:Bool:=decide (48<=c)&&decide (c<=57)
def Ei:Bool:=Ds c||IW c||BT c||decide (c=95)
def Uw:List UInt8:=[32,97,110,100,32,97,110,121,32,97,115,32,98,111,111,108,32,100,101,112,114,101,99,97,116,101,100,32,101,108,115,101,32,101,120,112,111,114,116,32,102,97,108,115,101,32,102,110,32,102,111,108,100,32,102,114,111,109,32,105,102,32,105,109,112,111,114,116,32,105,110,32,105,110,116,32,108,101,110,103,116,104,32,108,101,116,32,108,105,115,116,32,109,97,116,99,104,32,109,111,100,117,108,101,32,110,111,110,101,32,110,111,116,32,111,114,32,116,101,120,116,32,116,104,101,110,32,116,114,117,101,32,116,121,112,101,32,117,115,101,32]
def JO:List UInt8->List UInt8->Bool
 | [],_=>true
 |_::_,[]=>false
 |a::x,b::y=>decide (a=b)&&JO x y
def Zl(x:List UInt8):List UInt8->Bool
 | []=>JO x []
 |b::y=>JO x (b::y)||Zl x y
def Pl:Bool:=Zl (32::(s++[32])) Uw
def EE:Bool:=!s.isEmpty&&decide (s.length<=32)&&Ds (s.headD 0)&&s.all Ei&&!Pl s
def Fa:Bool:=EE s&&s.all fun c=>Ds c||BT c
def Da:Int:=s.foldl (fun n c=>10*n+((c.toNat:Int)-48)) 0
def EC:Option Int:=match s with
 |c::r=>if c=118 then(if r.isEmpty||decide (3<r.length)||(decide (1<r.length)&&decide (r.headD 0=48))||!r.all BT then none else some (Da r))else none
 | []=>none
def BC(c:UInt8):List UInt8->List (List UInt8)
 | []=>[[]]
 |b::r=>if b=c then []::BC c r else match BC c r with
  | []=>[[b]]
  |x::l=>(b::x)::l
def Kr(p:List UInt8):Option Int:=match EC ((BC 47 p).getLastD [])with
 |none=>none
 |some n=>if 64<p.length||(BC 47 p).length<2 then none else if(BC 47 p).all Fa then some n else none
def AU(p:ByteArray):Option Int:=Kr p.data.toList
-- indexes
def E9(before:Option ByteArray)(q:Rq):Int:=
 if(AU q.path).isNone then 4 else if q.set.isEmpty||!decide (q.set=canon q.set)||(match before with | some b=>!FC b q.path | none=>false)then 1 else 0
def Dx(before:Option ByteArray):List Rq->Int
 | []=>0
 |q::r=>if E9 before q=0 then Dx (some q.path) r else E9 before q
def B8(l:List Rq):Int:=if 16<l.length then 7 else Dx none l
def CU(s:ByteArray):Bool:=decide (s.size=0)||decide (s.size=32)
def CG:Int:=match AU r.path with
 |none=>4
 |some m=>if !Cy r.ver||!decide (r.ver.a=m)then 2 else if B8 r.reqs≠0 then B8 r.reqs else if CU r.arch&&CU r.ifc&&CU r.cert then 0 else 1
def cmpI(a b:Int):Int:=if a<b then -1 else if b<a then 1 else 0
def II(a b:ByteArray):Int:=if FC a b then -1 else if FC b a then 1 else 0
def GL(a b:Ver):Int:=if cmpI a.a b.a≠0 then cmpI a.a b.a else if cmpI a.b b.b≠0 then cmpI a.b b.b else cmpI a.c b.c
def GK(a b:Rl):Int:=if II a.path b.path≠0 then II a.path b.path else GL a.ver b.ver
def Ej:Sl:=⟨r.path,r.ver⟩
def Cf(before:Option Rl):List Rl->Int
 | []=>0
 |r::l=>if CG r≠0 then CG r else match before with
  |none=>Cf (some r) l
  |some b=>if Ej b=Ej r then 5 else if 0<GK b r then 1 else Cf (some r) l
def BA(l:List Rl):Int:=if 256<l.length then 7 else Cf none l
def CM(x:List Rl)(y:Sl):Option Rl:=if BA x≠0 then none else x.find? fun r=>decide (Ej r=y)
def HR(before:Option ByteArray):List Sl->Bool
 | []=>true
 |y::r=>(match before with |some b=>FC b y.path |none=>true)&&HR (some y.path) r
def Bw(s:List Sl):Bool:=HR none s
-- solutions
-- derivations
def mt:ByteArray:=⟨#[]⟩
-- decisions
structure qw where
 before:List Sl
 needs:List Rq
 rel:Rl
-- answers
-- the example
def bs(l:List UInt8):ByteArray:=⟨⟨l⟩⟩
-- the order of releases
theorem HM{a b:Int}(h:cmpI a b=0):a=b:=by
 unfold cmpI at h;split at h
 .cases h
 .split at h
  .cases h
  .omega
theorem QX{a b:Int}(h:cmpI a b<0):a<b:=by
 unfold cmpI at h;split at h
 .assumption
 .split at h<;>omega
theorem PI(h:II a b=0):a=b:=by
 unfold II at h;cases h1:FC a b with
 |true=>rw[h1]at h;simp at h
 |false=>
  cases h2:FC b a with
  |true=>rw[h1,h2]at h;simp at h
  |false=>exact QU h1 h2
theorem bK(h:II a b<0):FC a b=true:=by
 unfold II at h;cases h1:FC a b with
 |true=>rfl
 |false=>rw[h1]at h;cases h2:FC b a<;>rw[h2]at h<;>simp at h
def gJ(a b:Ver):Prop:=a.a<b.a\/(a.a=b.a/\(a.b<b.b\/(a.b=b.b/\a.c<b.c)))
def Zw(a b:Rl):Prop:=FC a.path b.path=true\/(a.path=b.path/\gJ a.ver b.ver)
theorem bM{a b:Ver}(h:GL a b<0):gJ a b:=by
 unfold GL at h;split at h
 .exact .inl (QX h)
 .rename_i h1;have h1:=HM (BP.1 h1);split at h
  .exact .inr ⟨h1,.inl (QX h)⟩
  .rename_i h2;exact .inr ⟨h1,.inr ⟨HM (BP.1 h2),QX h⟩⟩
theorem Wa{a b:Ver}(h:GL a b=0):a=b:=by
 unfold GL at h;split at h
 .rename_i h1;exact absurd h h1
 .rename_i h1;have h1:=HM (BP.1 h1);split at h
  .rename_i h2;exact absurd h h2
  .rename_i h2;have h2:=HM (BP.1 h2);have h3:=HM h;cases a;cases b;simp_all
theorem PJ{a b:Rl}(h:GK a b=0):Ej a=Ej b:=by
 unfold GK at h;split at h
 .rename_i h1;exact absurd h h1
 .rename_i h1;have h1:=PI (BP.1 h1);have h2:=Wa h;unfold Ej;rw[h1,h2]
theorem bL{a b:Rl}(h:GK a b<0):Zw a b:=by
 unfold GK at h;split at h
 .exact .inl (bK h)
 .rename_i h1;exact .inr ⟨PI (BP.1 h1),bM h⟩
theorem WO{a b c:Ver}(h:gJ a b)(k:gJ b c):gJ a c:=by unfold gJ at *;omega
theorem WN{a b c:Rl}(h:Zw a b)(k:Zw b c):Zw a c:=by
 rcases h with h | ⟨h1,h2⟩
 .rcases k with k | ⟨k1,k2⟩
  .exact .inl (GO h k)
  .exact .inl (k1▸h)
 .rcases k with k | ⟨k1,k2⟩
  .exact .inl (h1▸k)
  .exact .inr ⟨h1.trans k1,WO h2 k2⟩
theorem Kq{a b:Rl}(h:Zw a b)(k:Ej a=Ej b):False:=by
 unfold Ej at k;simp only[Sl.mk.injEq]at k;rcases h with h | ⟨_,h⟩
 .rw[k.1,Dw]at h;cases h
 .rw[k.2]at h;unfold gJ at h;omega
-- a valid index
structure br(r:Rl):Prop where
 maj:AU r.path=some r.ver.a
 val:Cy r.ver=true
 reqs:B8 r.reqs=0
theorem T5{r:Rl}(h:CG r=0):br r:=by
 unfold CG at h;split at h
 .cases h
 .rename_i m hm;split at h
  .cases h
  .rename_i h1;split at h
   .rename_i h2;exact absurd h h2
   .rename_i h2;simp only[CO,CE,CB,not_or,BP]at h1;refine⟨by rw[hm,h1.2],by simpa using h1.1,BP.1 h2⟩
theorem Ik:∀{l:List Rl} {b:Option Rl},Cf b l=0->(∀r∈l,br r)/\(l.Pairwise Zw/\∀c,b=some c->∀r∈l,Zw c r)
 | [],b,_=>⟨fun _ h=>(by cases h),.nil,fun _ _ _ h=>(by cases h)⟩
 |r::l,b,h=>by
  unfold Cf at h;split at h
  .rename_i h1;exact absurd h h1
  .rename_i h1;have hr:=T5 (BP.1 h1);have go:Cf (some r) l=0->(∀c,b=some c->Zw c r)->(∀z∈r::l,br z)/\((r::l).Pairwise Zw/\∀c,b=some c->∀z∈r::l,Zw c z):=fun h hc=>by
    obtain⟨i1,i2,i3⟩:=Ik h;refine⟨fun z hz=>?_,.cons (i3 r rfl) i2,fun c e z hz=>?_⟩
    .rcases AS.1 hz with rfl | hz
     .exact hr
     .exact i1 z hz
    .rcases AS.1 hz with rfl | hz
     .exact hc c e
     .exact WN (hc c e) (i3 r rfl z hz)
   cases b with
   |none=>exact go h fun _ e=>by cases e
   |some b=>
    dsimp only at h;split at h
    .cases h
    .rename_i hk;split at h
     .cases h
     .rename_i hc;refine go h fun c e=>?_;cases e;refine bL ?_
      have:GK b r≠0:=fun e=>hk (PJ e)
      omega
theorem Ki{l:List Rl}(h:BA l=0):(∀r∈l,br r)/\l.Pairwise Zw:=by
 unfold BA at h;split at h
 .cases h
 .exact⟨(Ik h).1,(Ik h).2.1⟩
theorem PO{x:List Rl}{y:Sl}{r:Rl}(h:CM x y=some r):BA x=0/\r∈x/\Ej r=y:=by
 unfold CM at h;split at h
 .cases h
 .rename_i h1;refine⟨BP.1 h1,GA h,?_⟩
  have:=Pt h;simpa using this
theorem F3:∀{s:List Sl} {b:Option ByteArray},HR b s=true->s.Pairwise (fun a b=>FC a.path b.path=true)/\∀c,b=some c->∀y∈s,FC c y.path=true
 | [],_,_=>⟨.nil,fun _ _ _ h=>by cases h⟩
 |y::r,b,h=>by
  unfold HR at h;simp only[Ak]at h;obtain⟨h1,h2⟩:=h;obtain⟨i1,i2⟩:=F3 h2;refine⟨.cons (i2 _ rfl) i1,fun c e z hz=>?_⟩;subst e;rcases AS.1 hz with rfl | hz
  .exact h1
  .exact GO h1 (i2 _ rfl z hz)
-- soundness
abbrev ja(s:List Sl):Prop:=s.Pairwise (fun a b=>FC a.path b.path=true)
-- the next path
-- what is needed
-- skips
-- right answers
-- the first decision that differs
-- prefixes
-- tampering
def CA(l:Bz):Bz:=(l.map DL).filter fun x=>decide (x.1<x.2)
theorem KR(a b:Bz):CA (a++b)=CA a++CA b:=by unfold CA;rw[AK,Fw]
theorem PH{x:Int×Int}(h:x∈CA l):0<=x.1/\x.1<x.2/\x.2<=1000000:=by
 unfold CA at h;rw[JF,AA]at h;obtain⟨⟨y,_,rfl⟩,h2⟩:=h;have h2:=AZ h2;refine⟨?_,h2,?_⟩<;>simp only[DL]<;>omega
theorem V8(l:Bz)(p:Int):(CA l).any (Cb p)=has l p:=by
 rw[<-LF]
 induction l with
 |nil=>rfl
 |cons x r ih=>
  have e:CA (x::r)=(if(DL x).1<(DL x).2 then [DL x]else [])++CA r:=by
   unfold CA;rw[Bq,List.filter_cons]
   by_cases h:(DL x).1<(DL x).2<;>simp[h]
  have ec:canon (x::r)=if(DL x).1<(DL x).2 then QJ (DL x) (canon r)else canon r:=rfl
  rw[e,Pq,ih,ec]
  by_cases h:(DL x).1<(DL x).2
  .rw[Av h,Av h,KM _ p (Fm r) h];simp
  .rw[Aj h,Aj h];simp
theorem Kf:∀{l:Bz} {lo:Int},Em lo l↔(∀y∈l,lo<=y.1/\y.1<y.2/\y.2<=1000000)/\l.Pairwise fun a b=>a.2<b.1
 | [],lo=>by simp[Em]
 |y::r,lo=>by
  rw[Fx];constructor
  .intro h;have hl:=h.low;refine⟨hl,fun z hz=>?_,((Kf (l:=r)).1 h.2.2.2).2⟩
   have:=h.2.2.2.low z hz;omega
  .intro⟨h1,h2,h3⟩;have hy:=h1 y (Ab ..);refine⟨hy.1,hy.2.1,hy.2.2,Kf.2 ⟨fun z hz=>?_,h3⟩⟩
   have:=h1 z (Ai _ hz)
   have:=h2 z hz
   omega
def G6(r:Bz)(x:Int×Int):Bz:=match r with
 | []=>[x]
 |y::t=>if x.1<=y.2 then(y.1,max y.2 x.2)::t else x::y::t
def Bc(s:Bz):Bz:=s.foldl G6 []
theorem D4(s:Bz)(i:Nat)(h:i<s.length):Bc (s.take (i+1))=G6 (Bc (s.take i)) s[i]:=by
 unfold Bc;rw[A2,At h,List.foldl_append];rfl
theorem Xu(r:Bz)(x:Int×Int):(G6 r x).length<=r.length+1/\r.length<=(G6 r x).length/\0<(G6 r x).length:=by
 unfold G6;split
 .simp
 .split<;>simp
theorem Ks(s:Bz):∀i,i<=s.length->(Bc (s.take i)).length<=i/\(0<i->0<(Bc (s.take i)).length):=by
 intro i
 induction i with
 |zero=>intro _;simp[Bc]
 |succ i ih=>
  intro h;rw[D4 s i sP]
  have:=Xu (Bc (s.take i)) s[i]
  have:=ih sP
  omega
structure eJ(r done:Bz):Prop where
 ok:∀y∈r,0<=y.1/\y.1<y.2/\y.2<=1000000
 pw:r.Pairwise fun a b=>b.2<a.1
 has:∀p,r.any (Cb p)=done.any (Cb p)
 first:∀y t,r=y::t->∃x∈done,y.1=x.1
theorem Xt{r done:Bz}{x:Int×Int}(h:eJ r done)(hx:0<=x.1/\x.1<x.2/\x.2<=1000000)(hs:∀y∈done,y.1<=x.1):eJ (G6 r x) (done++[x]):=by
 unfold G6;split
 .refine⟨fun y hy=>?_,by simp,fun p=>?_,fun y t e=>?_⟩
  .rw[Bh.1 hy];exact hx
  .rw[Pq,<-h.has];rfl
  .cases e;exact⟨x,by simp,rfl⟩
 .rename_i y t;have hy:=h.ok y (Ab ..);obtain⟨qo,r6⟩:=Fx.1 h.pw;obtain⟨z,hz,e⟩:=h.first y t rfl
  have oO:=hs z hz;split
  .rename_i Fc;refine⟨fun u hu=>?_,Fx.2 ⟨qo,r6⟩,fun p=>?_,fun u t' e'=>?_⟩
   .rcases AS.1 hu with rfl | hu
    .exact⟨hy.1,by dsimp only;omega,by dsimp only;omega⟩
    .exact h.ok u (Ai _ hu)
   .rw[Pq,<-h.has,Cj,Cj,Cj,List.any_nil,Bool.or_false]
    have:Cb p (y.1,max y.2 x.2)=(Cb p y||Cb p x):=by
     simp only[Cb];rw[Dp];simp only[Ak,CO,A3];omega
    rw[this];cases Cb p y<;>cases Cb p x<;>cases t.any (Cb p)<;>rfl
   .cases e';exact⟨z,BS _ hz,e⟩
  .rename_i Fc;refine⟨fun u hu=>?_,Fx.2 ⟨fun u hu=>?_,h.pw⟩,fun p=>?_,fun u t' e'=>?_⟩
   .rcases AS.1 hu with rfl | hu
    .exact hx
    .exact h.ok u hu
   .rcases AS.1 hu with rfl | hu
    .omega
    .have:=qo u hu;omega
   .rw[Pq,<-h.has,Cj,Cj,Cj,List.any_nil,Bool.or_false];cases Cb p y<;>cases Cb p x<;>cases t.any (Cb p)<;>rfl
   .cases e';exact⟨x,by simp,rfl⟩
theorem UA{s:Bz}(JL:∀y∈s,0<=y.1/\y.1<y.2/\y.2<=1000000)(hs:s.Pairwise fun a b=>a.1<=b.1):∀i,i<=s.length->eJ (Bc (s.take i)) (s.take i):=by
 intro i
 induction i with
 |zero=>intro _;exact⟨fun _ h=>by simp[Bc]at h,by simp[Bc],fun p=>by simp[Bc],fun y t e=>by simp[Bc]at e⟩
 |succ i ih=>
  intro h;have hi:i<s.length:=by omega
  rw[D4 s i hi];have e:s.take (i+1)=s.take i++[s[i]]:=by rw[A2,At hi];rfl
  rw[e];refine Xt (ih sP) (JL _ (Af hi)) fun y hy=>?_;obtain⟨j,hj,rfl⟩:=A9.1 hy;rw[FY];rw[Al]at hj;exact(A5.1 hs) j i sP hi sP
theorem IA{s:Bz}(hp:s.Perm (CA l))(hs:s.Pairwise fun a b=>a.1<=b.1):(Bc s).reverse=canon l:=by
 have hi:=UA (s:=s) (fun y hy=>PH (hp.mem_iff.1 hy)) hs s.length (Ad _);rw[DS]at hi;have hc:Nc (Bc s).reverse:=by
  unfold Nc;rw[Kf];refine⟨fun y hy=>hi.ok y (List.mem_reverse.1 hy),?_⟩;rw[List.pairwise_reverse];exact hi.pw
 refine Yt hc fun p=>?_;rw[GN hc,List.any_reverse,hi.has,<-V8];rw[Dp,Br,Br];constructor
 .rintro⟨y,h1,h2⟩;exact⟨y,hp.mem_iff.1 h1,h2⟩
 .rintro⟨y,h1,h2⟩;exact⟨y,hp.mem_iff.2 h1,h2⟩
-- maps from numbers to numbers,as lists in the order in which they are met
-- counting
end Go.Eng
namespace Go.Eng
open Go.Lib
theorem Mc(c:UInt8):∀(s:List UInt8) (k:Nat),s.count c<=k->splitK [c] 0 k s=BC c s
 | [],k,_=>by
  cases k with
  |zero=>rfl
  |succ k=>rfl
 |b::r,k,h=>by
  rw[BC]
  by_cases e:b=c
  .subst e;rw[List.count_cons_self]at h;obtain⟨k',rfl⟩:∃k',k=k'+1:=⟨k-1,by omega⟩;rw[Av rfl,splitK,index_one,indexByte];simp only[beq_self_eq_true,if_true];rw[Aj sR];show []::splitK [b] 0 k' r=_;rw[Mc b r k' sP]
  .have Dn:(b == c)=false:=by simpa using e
   rw[List.count_cons_of_ne (by simpa using e)]at h;have ih:=Mc c r k h;rw[Aj e];cases k with
   |zero=>
    rw[<-ih];rfl
   |succ k=>
    rw[<-ih,splitK,splitK,index_one,index_one,indexByte,Dn]
    by_cases h0:indexByte r c=-1
    .rw[h0];rfl
    .have h1:(indexByte r c == -1)=false:=by simpa using h0
     have h2:=indexByte_ge r c;have h3:(indexByte r c+1 == -1)=false:=by rw[GJ];omega
     simp only[Cg,FK,h1,h3];obtain⟨i,hi⟩:∃i:Nat,indexByte r c=i:=⟨(indexByte r c).toNat,by omega⟩;rw[hi];show(b::r).take (((i:Int)+1).toNat+0)::_=(b::r.take ((i:Int).toNat+0))::_;rw[show((i:Int)+1).toNat=i+1 by omega,show((i:Nat):Int).toNat=i by omega]
     rfl
theorem Sh(c:UInt8):∀(n:Nat) (s:List UInt8),s.length<=n->count s [c]=s.count c
 |n,s,hn=>by
  rcases Int.lt_or_le (indexByte s c) 0 with h | h
  .have h2:=indexByte_ge s c;have h3:indexByte s c=-1:=by omega
   rw[count_miss (by rw[index_one];exact h3)]
   symm
   rw[List.count_eq_zero];intro hm;obtain⟨k,hk,e⟩:=BB hm;exact indexByte_none h3 k (by rw[At hk,e])
  .obtain⟨i,hi⟩:∃i:Nat,indexByte s c=i:=⟨(indexByte s c).toNat,by omega⟩;obtain⟨h1,h2⟩:=indexByte_some hi;obtain⟨hl,hg⟩:=Au.1 h1;cases n with
   |zero=>omega
   |succ n=>
    have hc:=count_hit (s:=s) (sub:=[c]) (i:=i) sS (by rw[index_one];exact hi);rw[hc];have ih:=Sh c n (s.drop (i+1)) (by rw[BX];omega);have Zf:s=s.take i++c::s.drop (i+1):=by
     rw[<-hg,<-AG hl,Ev]
    have h0:(s.take i).count c=0:=by
     rw[List.count_eq_zero];intro hm;obtain⟨k,hk,e⟩:=BB hm;rw[Al]at hk;rw[FY]at e;exact h2 k sP (by rw[At sP,e])
    conv=>rhs;rw[Zf]
    rw[List.count_append,h0,List.count_cons_self];show 1+count (s.drop (i+1)) [c]=_;rw[ih];omega
theorem Qt(s:ByteArray)(c:UInt8):((splitB ⟨#[c]⟩ 0 (countB s ⟨#[c]⟩) s).map (·.data.toList))=BC c s.data.toList:=by
 rw[splitB_data];refine Mc c _ _ ?_;show _<=count s.data.toList [c];rw[Sh c _ _ (Ad _)];exact Ad _
end Go.Eng
namespace Go.Eng
variable {s:List UInt8}{n:Nat}(roots:List Rq)(OW:ByteArray)
structure Cd where
 place:Int
 rel:Rl
variable (dec:List Cd)(c:Cd)
structure Nd where
 rq:Rq
 path:ByteArray
 place:Int
 number:Int
structure SS where
 infs:List Nf
 drv:List (List Tm)
 full:Bool
def fq(x:List Rl)(p:ByteArray):List Cd:=(x.filter fun r=>decide (r.path=p)&&!r.yanked).map fun r=>⟨plc r.ver,r⟩
def gQ(f:Rq->Nat->Nd):Nat->List Rq->List Nd
 |_,[]=>[]
 |i,q::l=>f q i::gQ f (i+1) l
def k9:List Nd:=gQ (fun q i=>⟨q,mt,0,i⟩) 0 roots
def k7:List Nd:=gQ (fun q i=>⟨q,c.rel.path,c.place,i⟩) 0 c.rel.reqs
def gN:List Nd:=k9 roots++(dec.map k7).flatten
def jF(p:ByteArray):Bool:=dec.any fun c=>decide (c.rel.path=p)
def gS(a:ByteArray×List Nd)(n:Nd):ByteArray×List Nd:=
 if jF dec n.rq.path=true\/(a.2≠[]/\FC a.1 n.rq.path=true)then a
 else if a.2≠[]/\FC n.rq.path a.1=true then(n.rq.path,[n])else(n.rq.path,a.2++[n])
def d8:ByteArray×List Nd:=(gN roots dec).foldl (gS dec) (mt,[])
def kU(l:List Cd)(n:Nd):Bool:=l.any fun d=>decide (d.rel.path=n.rq.path)&&!has n.rq.set d.place
def fu:Option Nd:=(k7 c).find? (kU (dec++[c]))
structure Grow(s s' : SS):Prop where
 pre:s.drv <+: s'.drv
 preI:s.infs <+: s'.infs
 full:s.full=true->s'.full=true
theorem N7:∀{l:List Sl} {b:Option ByteArray},ja l->(∀c,b=some c->∀y∈l,FC c y.path=true)->HR b l=true
 | [],_,_,_=>by unfold HR;rfl
 |y::l,b,h,hb=>by
  obtain⟨h1,h2⟩:=Fx.1 h;unfold HR;cases b with
  |none=>simpa using N7 h2 fun c e z hz=>by cases e;exact h1 z hz
  |some c=>
   have:=hb c rfl y (Ab ..)
   simp only[this,Bool.true_and];exact N7 h2 fun c e z hz=>by cases e;exact h1 z hz
theorem Zo{l:List Sl}(h:ja l):Bw l=true:=N7 h fun _ e=>by cases e
def rY(needs:List Nd)(c:Cd):Bool:=(needs.all fun n=>has n.rq.set c.place)&&(fu dec c).isNone
def Zt(x:List Rl)(roots:List Rq):Nat->List Cd->List (List Cd)
 |0,_=>[]
 |n+1,dec=>match(d8 roots dec).2 with
  | []=>[dec]
  |n0::l=>((fq x (d8 roots dec).1).map fun c=>if rY dec (n0::l) c then Zt x roots n (dec++[c])else []).flatten
def gE:List (List UInt8):=[[97,110,100],[97,110,121],[97,115],[98,111,111,108],[100,101,112,114,101,99,97,116,101,100],[101,108,115,101],[101,120,112,111,114,116],[102,97,108,115,101],[102,110],[102,111,108,100],[102,114,111,109],[105,102],[105,109,112,111,114,116],[105,110],[105,110,116],[108,101,110,103,116,104],[108,101,116],[108,105,115,116],[109,97,116,99,104],[109,111,100,117,108,101],[110,111,110,101],[110,111,116],[111,114],[116,101,120,116],[116,104,101,110],[116,114,117,101],[116,121,112,101],[117,115,101]]
theorem WJ:Uw=32::gE.flatMap (fun w=>w++[32]):=by decide +kernel
theorem gF:∀w∈gE,∀c∈w,c≠32:=by decide +kernel
theorem Ql:∀(s w r:List UInt8),(∀c∈s,c≠32)->(∀c∈w,c≠32)->JO (s++[32]) (w++32::r)=decide (w=s)
 | [],[],r,_,_=>by simp[JO]
 | [],b::w,r,_,hw=>by
  have:=hw b (Ab ..)
  simp[JO,this.symm]
 |a::s,[],r,hs,_=>by
  have:=hs a (Ab ..)
  simp[JO,this]
 |a::s,b::w,r,hs,hw=>by
  have ih:=Ql s w r (fun c hc=>hs c (Ai _ hc)) (fun c hc=>hw c (Ai _ hc));rw[De,De,JO,ih]
  by_cases e:a=b
  .subst e;simp
  .have e2:¬b=a:=fun h=>e h.symm;simp[e,e2]
theorem SK(x:List UInt8):∀(w r:List UInt8),(∀c∈w,c≠32)->Zl (32::x) (w++r)=Zl (32::x) r
 | [],_,_=>rfl
 |b::w,r,h=>by
  have hb:=h b (Ab ..);rw[De,Zl,SK x w r (fun c hc=>h c (Ai _ hc))]
  have:JO (32::x) (b::(w++r))=false:=by simp[JO,hb.symm]
  rw[this,MG]
theorem PU(s:List UInt8)(hs:∀c∈s,c≠32):∀ws:List (List UInt8),(∀w∈ws,∀c∈w,c≠32)->Zl (32::(s++[32])) (32::ws.flatMap (fun w=>w++[32]))=ws.any (fun w=>decide (w=s))
 | [],_=>by
  cases s with
  |nil=>simp[Zl,JO]
  |cons a s=>simp[Zl,JO]
 |w::ws,h=>by
  have hw:=h w (Ab ..);have ih:=PU s hs ws (fun v hv=>h v (Ai _ hv));have e:(w::ws).flatMap (fun w=>w++[32])=w++32::ws.flatMap (fun w=>w++[32]):=by simp[List.flatMap_cons]
  rw[e,Zl,JO,Ql s w _ hs hw,SK _ w _ hw,ih,Cj];simp
theorem dq(h:s.all Ei=true):∀c∈s,c≠32:=fun c hc e=>by
 have:=AJ.1 h c hc
 rw[e]at this;exact absurd this sR
theorem Uv(h:s.all Ei=true):Pl s=gE.any (fun w=>decide (w=s)):=by
 unfold Pl;rw[WJ,PU s (dq h) gE gF]
theorem SM(s:Bz)(x:Int×Int)(k:Nat){t:Bz}(h:s.Perm t):(s.take k++([x]++s.drop k)).Perm (t++[x]):=by
 have h1:(s.take k++([x]++s.drop k)).Perm (x::(s.take k++s.drop k)):=by
  rw[List.singleton_append];exact List.perm_middle
 rw[Ev]at h1;exact h1.trans ((List.Perm.cons x h).trans (List.perm_append_singleton x t).symm)
theorem N9(s:Bz)(x:Int×Int)(k:Nat)(hs:s.Pairwise fun a b=>a.1<=b.1)(h1:∀j (hj:j<s.length),k<=j->x.1<s[j].1)(h2:k=0\/∃h:k-1<s.length,s[k-1].1<=x.1):(s.take k++([x]++s.drop k)).Pairwise fun a b=>a.1<=b.1:=by
 have fZ:∀a∈s.take k,a.1<=x.1:=fun a ha=>by
  obtain⟨j,hj,e⟩:=BB ha;rw[Al]at hj;rw[FY]at e;rcases h2 with h2 | ⟨hk,h2⟩
  .omega
  .rcases Be j (k-1)with z | z
   .have:=A5.1 hs j (k-1) sP hk z
    rw[e]at this;omega
   .have:j=k-1:=by omega
    subst this;rw[<-e];exact h2
 have p6:∀b∈s.drop k,x.1<=b.1:=fun b hb=>by
  obtain⟨j,hj,e⟩:=BB hb;rw[BX]at hj;rw[List.getElem_drop]at e
  have:=h1 (k+j) sP sP
  rw[e]at this;omega
 rw[List.pairwise_append];refine⟨hs.sublist (List.take_sublist ..),?_,fun a ha b hb=>?_⟩
 .rw[List.singleton_append,Fx];exact⟨p6,hs.sublist (List.drop_sublist ..)⟩
 .rw[List.singleton_append]at hb;rcases AS.1 hb with e | hb
  .rw[e];exact fZ a ha
  .have:=fZ a ha
   have:=p6 b hb
   omega
abbrev iT(l:List UInt8):ByteArray:=⟨l.toArray⟩
def F6(n:Int):ByteArray:=iT (Go.Lib.itoa n)
theorem T2(a b c:ByteArray):a++b++c=a++(b++c):=bA sS
def Et(l:List ByteArray):ByteArray:=iT (Go.Lib.join (l.map (·.data.toList)) OW.data.toList)
theorem WH(x:ByteArray):Et OW [x]=x:=bA (by unfold Et;simp[Go.Lib.join_one])
theorem Iq(x y:ByteArray)(r:List ByteArray):Et OW (x::y::r)=x++(OW++Et OW (y::r)):=bA (by
 unfold Et;simp only[Bq];rw[Go.Lib.join_cons,Go.Lib.join_cons];simp[Go.Lib.joinTail])
theorem LU(x y:ByteArray):Et OW [x,y]=x++(OW++y):=by rw[Iq,WH]
-- versions
abbrev RZ:ByteArray:=⟨#[46]⟩
def Gm(a b c:Int):ByteArray:=F6 a++RZ++F6 b++RZ++F6 c
theorem XE(a b c:Int):Et RZ [F6 a,F6 b,F6 c]=Gm a b c:=by
 rw[Iq,LU];unfold Gm;simp only[T2]
theorem iC{α:Type}{l:List α}{i:Nat}(d:α)(h:i<l.length):l[i]?=some (l.getD i d):=by
 rw[Ga,At h];rfl
def XC(v:Ver):ByteArray:=if Cy v then Gm v.a v.b v.c else iT []
theorem Gu(h:n<10):Go.Lib.decDigits n=[UInt8.ofNat (48+n)]:=by rw[Go.Lib.decDigits,dif_pos h]
theorem Hq(h:¬n<10):Go.Lib.decDigits n=Go.Lib.decDigits (n / 10)++[UInt8.ofNat (48+n % 10)]:=by rw[Go.Lib.decDigits,dif_neg h]
theorem Hh{k:Nat}(h:k<10):BT (UInt8.ofNat (48+k))=true/\(UInt8.ofNat (48+k)).toNat=48+k:=by
 have:(UInt8.ofNat (48+k)).toNat=48+k:=by rw[UInt8.toNat_ofNat'];omega
 refine⟨?_,this⟩;unfold BT;simp only[Ak,A3,Ew,this];exact⟨by show 48<=48+k;omega,by show 48+k<=57;omega⟩
theorem MK:∀(n:Nat),∀c∈Go.Lib.decDigits n,BT c=true:=by
 intro n
 induction n using Nat.strongRecOn with
 |ind n ih=>
  intro c hc
  by_cases h:n<10
  .rw[Gu h,Bh]at hc;rw[hc];exact(Hh h).1
  .rw[Hq h,By,Bh]at hc;rcases hc with hc | hc
   .exact ih (n / 10) sP c hc
   .rw[hc];exact(Hh sP).1
theorem QY(n:Nat):Go.Lib.decDigits n≠[]:=by
 by_cases h:n<10
 .rw[Gu h];simp
 .rw[Hq h];simp
def Stop(r:List UInt8):Prop:=r=[]\/∃c t,r=32::c::t/\c≠124
def lx(t:Tm):Bz:=if t.absent then Sf t.set else t.set
theorem Ix(s:UInt8):∀(p:List UInt8) (c:UInt8),c∈p->c=s\/∃g∈BC s p,c∈g
 |b::r,c,hc=>by
  unfold BC
  by_cases hb:b=s
  .rw[Av hb];rcases AS.1 hc with rfl | hc
   .exact .inl hb
   .rcases Ix s r c hc with h | ⟨g,h1,h2⟩
    .exact .inl h
    .exact .inr ⟨g,Ai _ h1,h2⟩
  .rw[Aj hb];cases e:BC s r with
   |nil=>
    rcases AS.1 hc with rfl | hc
    .exact .inr ⟨[c],Bh.2 rfl,Bh.2 rfl⟩
    .rcases Ix s r c hc with h | ⟨g,h1,h2⟩
     .exact .inl h
     .rw[e]at h1;cases h1
   |cons x l=>
    rcases AS.1 hc with rfl | hc
    .exact .inr ⟨c::x,Ab ..,Ab ..⟩
    .rcases Ix s r c hc with h | ⟨g,h1,h2⟩
     .exact .inl h
     .rw[e]at h1;rcases AS.1 h1 with rfl | h1
      .exact .inr ⟨b::g,Ab ..,Ai _ h2⟩
      .exact .inr ⟨g,Ai _ h1,h2⟩
end Go.Eng
namespace Go.Eng
open Go.Lib (lastIndex index cut occAt atoiAll parseUint10 parseMag decDigits)
theorem Qh:∀(l:List UInt8) (Ig u:Nat) (m:List UInt8),parseUint10 Ig l=.ok u->parseUint10 Ig (l++m)=parseUint10 u m
 | [],Ig,u,m,h=>by
  simp only[parseUint10]at h
  injection h with h
  rw[h];rfl
 |c::r,Ig,u,m,h=>by
  rw[De];simp only[parseUint10]at h⊢;split at h
  .rename_i h1;rw[Av h1];split at h
   .cases h
   .rename_i h2;rw[Aj h2];split at h
    .cases h
    .rename_i h3;rw[Aj h3];exact Qh r _ u m h
  .cases h
theorem W9(n:Nat):n<1000000000000000->parseUint10 0 (decDigits n)=.ok n:=by
 induction n using Nat.strongRecOn with
 |ind n ih=>
  intro hn
  by_cases h:n<10
  .rw[Gu h];simp only[parseUint10];rw[(Hh h).2,Av sP,Aj sP,Aj sP]
   congr 1;omega
  .rw[Hq h,Qh _ _ _ _ (ih (n / 10) sP sP)];simp only[parseUint10];rw[(Hh (by omega:n % 10<10)).2,Av sP,Aj sP,Aj sP]
   congr 1;omega
theorem XT{n:Nat}(h:n<1000000000000000):atoiAll (decDigits n)=.ok (n:Int):=by
 have hp:=W9 n h;cases e:decDigits n with
 |nil=>exact absurd e (QY n)
 |cons c r=>
  have hd:=MK n c (by rw[e];exact Ab ..);unfold BT at hd;simp only[Ak,A3,Ew]at hd;have h1:48<=c.toNat:=hd.1;unfold atoiAll;dsimp only;rw[Aj sP]
  have:parseMag (c::r)=.ok n:=by unfold parseMag;rw[Aj (IG _ _),<-e];exact hp
  rw[this];dsimp only;rw[Aj sP,Aj sP,Aj sP]
end Go.Eng
namespace Go.Eng
theorem V2(a b:ByteArray):(a++b).size=a.size+b.size:=AR
theorem Yp(l:List UInt8):(iT l).size=l.length:=by simp[ByteArray.size]
theorem Ob{n:Int}(h0:-9223372036854775808<=n)(h1:n<=9223372036854775807):(F6 n).size<=21:=by
 unfold F6;rw[Yp];exact Go.Lib.itoa_length_le n h0 h1
theorem Mg{a b c:Int}(ha:-1000000000<=a/\a<=1000000000)(hb:-1000000000<=b/\b<=1000000000)(hc:-1000000000<=c/\c<=1000000000):(Gm a b c).size<=65:=by
 unfold Gm;simp only[V2]
 have:=Ob (n:=a) sP sP
 have:=Ob (n:=b) sP sP
 have:=Ob (n:=c) sP sP
 have:RZ.size=1:=rfl
 omega
end Go.Eng
