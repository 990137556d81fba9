/- Lemmas 1. -/
import Derived.Test.YteaiieomnhbmgaaGreatDoorEA00
namespace Go.Eng
variable {a b:ByteArray}{lo:Option ByteArray}{α:Type}(c:UInt8)(p:ByteArray)
def BX(p:Int)(s:Int×Int):Bool:=decide (s.1<=p)&&decide (p<s.2)
def has(s:List (Int×Int))(p:Int):Bool:=decide (0<=p)&&decide (p<1000000)&&s.any (BX p)
abbrev Bx:=List (Int×Int)
def Fb(lo:Int):Bx->Prop
 | []=>True
 |y::r=>lo<=y.1/\y.1<y.2/\y.2<=1000000/\Fb (y.2+1) r
abbrev E6(l:Bx):Prop:=Fb 0 l
def Yg(x:Int×Int):Bx->Bx
 | []=>[x]
 |y::r=>if x.2<y.1 then x::y::r else if y.2<x.1 then y::Yg x r else Yg (min x.1 y.1,max x.2 y.2) r
def Jf(x:Int×Int):Int×Int:=(max x.1 0,min x.2 1000000)
def canon:Bx->Bx
 | []=>[]
 |x::r=>if(Jf x).1<(Jf x).2 then Yg (Jf x) (canon r)else canon r
def Mb(at_:Int):Bx->Bx
 | []=>if at_<1000000 then [(at_,1000000)]else []
 |y::r=>if at_<y.1 then(at_,y.1)::Mb y.2 r else Mb y.2 r
def EZ(s:Bx):Bx:=Mb 0 (canon s)
def Se(l:List Bx):Bx:=canon l.flatten
def RC(l:List Bx):Bx:=EZ (l.map EZ).flatten
def QZ(a b:Bx):Bx:=Se [a,b]
def Qu(a b:Bx):Bx:=RC [a,b]
theorem Fb.mono{lo Iu : Int}:∀{l:Bx},Fb lo l->Iu<=lo->Fb Iu l
 | [],_,_=>trivial
 |_::_,⟨h1,h2,h3,h4⟩,h=>⟨Int.le_trans h h1,h2,h3,h4⟩
theorem Fb.low{lo:Int}:∀{l:Bx},Fb lo l->∀y∈l,lo<=y.1/\y.1<y.2/\y.2<=1000000
 |y::r,⟨h1,h2,h3,h4⟩,z,hz=>by
  rcases AC.1 hz with rfl | hz
  .exact⟨h1,h2,h3⟩
  .have:=h4.low z hz
   exact⟨by omega,this.2.1,this.2.2⟩
theorem D4{p:Int}{s:Int×Int}:BX p s=true↔s.1<=p/\p<s.2:=by simp[BX]
theorem NH{lo:Int}{l:Bx}(h:Fb lo l){p:Int}(hp:l.any (BX p)=true):lo<=p:=by
 obtain⟨y,hy,h2⟩:=Bd.1 hp
 have:=h.low y hy
 have:=D4.1 h2
 omega
theorem kY{lo:Int}{l:Bx}(h:Fb lo l){p:Int}(hp:l.any (BX p)=true):p<1000000:=by
 obtain⟨y,hy,h2⟩:=Bd.1 hp
 have:=h.low y hy
 have:=D4.1 h2
 omega
theorem OK:∀(l:Bx) {lo:Int} {x:Int×Int},Fb lo l->lo<=x.1->x.1<x.2->x.2<=1000000->Fb lo (Yg x l)
 | [],lo,x,_,h1,h2,h3=>⟨h1,h2,h3,trivial⟩
 |y::r,lo,x,⟨g1,g2,g3,g4⟩,h1,h2,h3=>by
  unfold Yg;split
  .exact⟨h1,h2,h3,by omega,g2,g3,g4⟩
  .split
   .exact⟨g1,g2,g3,OK r g4 ch h2 h3⟩
   .refine OK r (g4.mono ch) ?_ ?_ ?_<;>dsimp only<;>omega
theorem PF:∀(l:Bx) {lo:Int} {x:Int×Int} (p:Int),Fb lo l->x.1<x.2->(Yg x l).any (BX p)=(BX p x||l.any (BX p))
 | [],lo,x,p,_,_=>by simp[Yg]
 |y::r,lo,x,p,⟨g1,g2,g3,g4⟩,h2=>by
  unfold Yg;split
  .simp
  .split
   .rw[Cj,PF r p g4 h2,Cj,<-Bool.or_assoc,<-Bool.or_assoc,Bool.or_comm (BX p y)]
   .rw[PF r p g4 (by dsimp only;omega),Cj,<-Bool.or_assoc]
    congr 1
    simp only[BX];rw[B5];simp only[Ag,CO,AD];omega
theorem CB:∀s:Bx,E6 (canon s)
 | []=>trivial
 |x::r=>by
  unfold canon;split
  .rename_i h;refine OK _ (CB r) ?_ h ?_<;>simp only[Jf]<;>omega
  .exact CB r
theorem LA:∀(s:Bx) (p:Int),(canon s).any (BX p)=has s p
 | [],p=>by simp[has,canon]
 |x::r,p=>by
  have ih:=LA r p;unfold canon;have hx:BX p (Jf x)=(decide (0<=p)&&decide (p<1000000)&&BX p x):=by
   simp only[BX,Jf];rw[B5];simp only[Ag,AD,Int.max_le,Int.lt_min];omega
  split
  .rename_i h;rw[PF _ p (CB r) h,ih,hx];simp only[has,Cj];cases decide (0<=p)<;>cases decide (p<1000000)<;>simp
  .rename_i h;rw[ih];simp only[has,Cj]
   have:BX p (Jf x)=false:=by
    rw[AN];intro h3
    have:=D4.1 h3
    omega
   rw[this]at hx;cases h1:decide (0<=p)<;>cases h2:decide (p<1000000)<;>simp_all
theorem Ir{l:Bx}(h:E6 l)(p:Int):has l p=l.any (BX p):=by
 unfold has;cases e:l.any (BX p)with
 |false=>simp
 |true=>have h1:0<=p:=NH h e;have h2:=kY h e;simp[h1,h2]
theorem H3(s:Bx)(p:Int):has (canon s) p=has s p:=by
 rw[Ir (CB s),LA]
theorem Oh:∀{a b:Bx} {lo:Int},Fb lo a->Fb lo b->(∀p,a.any (BX p)=b.any (BX p))->a=b
 | [],[],_,_,_,_=>rfl
 | [],z::s,_,_,⟨g1,g2,g3,g4⟩,h=>by
  have:=h z.1
  rw[Cj,D4.2 ⟨Bn _,g2⟩]at this;simp at this
 |y::r,[],_,⟨g1,g2,g3,g4⟩,_,h=>by
  have:=h y.1
  rw[Cj,D4.2 ⟨Bn _,g2⟩]at this;simp at this
 |y::r,z::s,lo,⟨f1,f2,f3,f4⟩,⟨g1,g2,g3,g4⟩,h=>by
  have below:∀{x:Int×Int} {t:Bx} {p:Int},Fb (x.2+1) t->(x::t).any (BX p)=true->p<=x.2->x.1<=p/\p<x.2:=fun {x t p} ht hp Ib=>by
   rw[Cj,CO]at hp;rcases hp with hp | hp
   .exact D4.1 hp
   .have:=NH ht hp;omega
  have low:∀{x:Int×Int} {t:Bx} {p:Int},x.1<x.2->Fb (x.2+1) t->(x::t).any (BX p)=true->x.1<=p:=fun {x t p} hx ht hp=>by
   rw[Cj,CO]at hp;rcases hp with hp | hp
   .exact(D4.1 hp).1
   .have:=NH ht hp;omega
  have cov:∀{x:Int×Int} {t:Bx} {p:Int},x.1<=p->p<x.2->(x::t).any (BX p)=true:=fun {x t p} h1 h2=>by
   rw[Cj,D4.2 ⟨h1,h2⟩,Bool.true_or]
  have e1:y.1=z.1:=by
   have a1:=low f2 f4 ((h z.1).trans (cov (Bn _) g2));have a2:=low g2 g4 ((h y.1).symm.trans (cov (Bn _) f2));omega
  have e2:y.2=z.2:=by
   rcases Int.lt_trichotomy y.2 z.2 with hl | he | hl
   .have:=below f4 ((h y.2).trans (cov ch hl)) (Bn _);omega
   .exact he
   .have:=below g4 ((h z.2).symm.trans (cov ch hl)) (Bn _);omega
  have e:y=z:=Prod.ext e1 e2;subst e
  congr 1
  refine Oh f4 g4 fun p=>?_;have hp:=h p;simp only[Cj]at hp;cases hs:BX p y with
  |false=>rw[hs,MQ,MQ]at hp;exact hp
  |true=>
   have:=D4.1 hs
   have n:∀{t:Bx},Fb (y.2+1) t->t.any (BX p)=false:=fun {t} ht=>by
    rw[AN];intro hx;have:=NH ht hx;omega
   rw[n f4,n g4]
theorem Il{a b:Bx}(ha:E6 a)(hb:E6 b)(h:∀p,has a p=has b p):a=b:=
 Oh ha hb fun p=>by rw[<-Ir ha,<-Ir hb,h]
theorem Ut{a s:Bx}(ha:E6 a)(h:∀p,has a p=has s p):a=canon s:=
 Il ha (CB s) fun p=>by rw[h,H3]
theorem J9{a:Bx}(ha:E6 a):canon a=a:=(Ut ha fun _=>rfl).symm
theorem Ng{s:Bx}{p:Int}(h:has s p=true):0<=p/\p<1000000:=by
 unfold has at h;simp only[Ag,AD]at h;exact h.1
def MN(p:Int):Bool:=decide (0<=p)&&decide (p<1000000)
theorem Mc:∀(l:Bx) {at_ lo:Int},0<=at_->Fb lo l->lo<=at_+1->at_<=lo->Fb at_ (Mb at_ l)/\∀p,(Mb at_ l).any (BX p)=(decide (at_<=p)&&decide (p<1000000)&&!l.any (BX p))
 | [],at_,lo,h0,_,h1,h2=>by
  unfold Mb;split
  .exact⟨⟨Bn _,by dsimp only;omega,Bn _,trivial⟩,fun p=>by simp[BX]⟩
  .refine⟨trivial,fun p=>?_⟩
   have:(decide (at_<=p)&&decide (p<1000000))=false:=by
    rw[AN];simp only[XE,Ag,AD];omega
   simp[this]
 |y::r,at_,lo,h0,⟨g1,g2,g3,g4⟩,h1,h2=>by
  have ih:=Mc r (at_:=y.2) ch g4 (Bn _) ch;have key:∀p,(decide (at_<=p)&&decide (p<y.1)||(Mb y.2 r).any (BX p))=(decide (at_<=p)&&decide (p<1000000)&&!(y::r).any (BX p)):=fun p=>by
   rw[ih.2,Cj];cases hr:r.any (BX p)with
   |true=>
    have:=NH g4 hr
    have a:decide (p<y.1)=false:=Av ch;simp[a]
   |false=>
    rw[B5];simp only[BX,Ag,CO,AD,CJ,Bool.or_false,Mt,Hy,Bool.not_false,and_true];omega
  unfold Mb;split
  .rename_i h;refine⟨⟨Bn _,h,by dsimp only;omega,ih.1 |> fun c=>?_⟩,fun p=>?_⟩
   .dsimp only;cases e:Mb y.2 r with
    |nil=>trivial
    |cons z s=>
     rw[e]at c;exact⟨by have:=c.1;omega,c.2⟩
   .rw[Cj,<-key];rfl
  .rename_i h;refine⟨ih.1.mono ch,fun p=>?_⟩;rw[<-key]
   have:(decide (at_<=p)&&decide (p<y.1))=false:=by
    rw[AN];simp only[XE,Ag,AD];omega
   rw[this,MQ]
theorem H1(s:Bx):E6 (EZ s):=by
 unfold EZ;exact(Mc _ (Bn _) (CB s) ch (Bn _)).1
theorem F5(s:Bx)(p:Int):has (EZ s) p=(MN p&&!has s p):=by
 rw[Ir (H1 s)];unfold EZ;rw[(Mc _ (Bn _) (CB s) ch (Bn _)).2,LA];rfl
theorem di(a b:Bx)(p:Int):has (a++b) p=(has a p||has b p):=by
 simp only[has,Ig];cases decide (0<=p)<;>cases decide (p<1000000)<;>simp
theorem Nc:∀(l:List Bx) (p:Int),has l.flatten p=l.any fun s=>has s p
 | [],p=>by simp[has]
 |s::l,p=>by rw[BC,di,Nc l p,Cj]
theorem UV(l:List Bx)(p:Int):has (Se l) p=l.any fun s=>has s p:=by
 unfold Se;rw[H3,Nc]
theorem Zk(l:List Bx):E6 (Se l):=CB _
theorem Y0(l:List Bx):E6 (RC l):=H1 _
theorem UU(l:List Bx)(p:Int):has (RC l) p=(MN p&&l.all fun s=>has s p):=by
 unfold RC;rw[F5,Nc,List.any_map];cases h:MN p with
 |false=>rfl
 |true=>
  rw[E5,E5,List.not_any_eq_all_not]
  congr 1
  funext s
  simp[F5,h]
theorem bW(a b:Bx):E6 (QZ a b):=CB _
theorem SL(a b:Bx):E6 (Qu a b):=H1 _
theorem i7(a b:Bx)(p:Int):has (QZ a b) p=(has a p||has b p):=by
 unfold QZ;rw[UV];simp
theorem Xq(a b:Bx)(p:Int):has (Qu a b) p=(has a p&&has b p):=by
 unfold Qu;rw[UU];simp only[List.all_cons,List.all_nil,Bool.and_true];cases h:has a p with
 |false=>simp
 |true=>have:=Ng h;simp[MN,this]
theorem dy(s:Bx):Qu s s=canon s:=Il (SL _ _) (CB _) fun p=>by rw[Xq,H3,Bool.and_self]
theorem Wn{s:Bx}:canon s=[]↔∀p,has s p=false:=by
 constructor
 .intro h p;rw[<-H3,h];simp[has]
 .intro h;exact Il (CB s) (b:=[]) trivial fun p=>by rw[H3,h p];simp[has]
theorem RI{s:Bx}(hs:E6 s):s=[]↔∀p,has s p=false:=by
 rw[<-Wn,J9 hs]
def kE(l:List Bx)(p:Int):Nat:=l.countP fun s=>has s p
theorem Us:∀{l:Bx} {lo:Int},Fb lo l->lo<=1000000->(l.length:Int)<=1000000-lo
 | [],lo,_,h=>by simp;omega
 |y::r,lo,⟨g1,g2,g3,g4⟩,h=>by
  by_cases h3:y.2+1<=1000000
  .have:=Us g4 h3
   simp only[Am];omega
  .cases r with
   |nil=>simp;omega
   |cons z s=>have:=g4.1;have:=g4.2.1;have:=g4.2.2.1;omega
theorem IR{l:Bx}(h:E6 l):l.length<=1000000:=by have:=Us h ch;omega
structure Ver where
 (a b c:Int)
variable (v:Ver)
structure Rq where
 path:ByteArray
 set:List (Int×Int)
variable {roots:List Rq}(q:Rq)
structure Rl where
 path:ByteArray
 ver:Ver
 reqs:List Rq
 (arch ifc cert:ByteArray)
 yanked:Bool
variable (x:List Rl)(r:Rl)
structure Sl where
 path:ByteArray
 ver:Ver
variable {s:List Sl}{y:Sl}
structure Tm where
 path:ByteArray
 absent:Bool
 set:List (Int×Int)
variable {d:List (List Tm)}(l:List Tm)(u t:Tm)
structure Nf where
 kind:Int
 path:ByteArray
 (place number left right:Int)
variable {i:Nf}
structure Sk where
 path:ByteArray
 (place inf:Int)
structure An where
 found:Bool
 sel:List Sl
 infs:List Nf
 skips:List Sk
instance:DecidableEq Ver:=fun x y=>decidable_of_iff (x.a=y.a/\x.b=y.b/\x.c=y.c) ⟨fun⟨h1,h2,h3⟩=>by cases x;cases y;simp_all,fun h=>by subst h;exact⟨rfl,rfl,rfl⟩⟩
instance:DecidableEq Sl:=fun x y=>decidable_of_iff (x.path=y.path/\x.ver=y.ver) ⟨fun⟨h1,h2⟩=>by cases x;cases y;simp_all,fun h=>by subst h;exact⟨rfl,rfl⟩⟩
theorem vP{x y:Tm}(h1:x.path=y.path)(h2:x.absent=y.absent)(h3:x.set=y.set):x=y:=by cases x;cases y;simp_all
def okPart(n:Int):Prop:=0<=n/\n<=999
instance (n:Int):Decidable (okPart n):=by unfold okPart;infer_instance
def Cz:Bool:=decide (okPart v.a)&&decide (okPart v.b)&&decide (okPart v.c)
def place:Int:=1000*v.b+v.c
def plc:Int:=if Cz v then place v else 0
def B2(s:List Sl)(p:ByteArray):Option Sl:=s.find? fun x=>decide (x.path=p)
def Hf(s:List Sl):Bool:=
 match s.find? (fun x=>decide (x.path=t.path))with
 |none=>t.absent
 |some x=>Cz x.ver&&has t.set (place x.ver)
def CZ(s:List Sl)(p:ByteArray):Bool:=s.any fun x=>decide (x.path=p)
def Bo(s:List Sl):Bool:=l.all fun t=>Hf t s
def Dg(s:List Sl):Bool:=Bo l s&&!l.any fun t=>!CZ s t.path
def IW:List UInt8->List UInt8->Bool
 | [],[]=>false
 | [],_::_=>true
 |_::_,[]=>false
 |a::x,b::y=>decide (a<b)||(decide (a=b)&&IW x y)
def Ef(a b:ByteArray):Bool:=IW a.data.toList b.data.toList
theorem SO:∀x,IW x x=false
 | []=>rfl
 |a::x=>by
  unfold IW;simp[SO x]
theorem Pc:∀{x y z},IW x y=true->IW y z=true->IW x z=true
 | [],[],_,h,_=>by simp[IW]at h
 | [],_::_,[],_,h=>by simp[IW]at h
 | [],_::_,_::_,_,_=>rfl
 |_::_,[],_,h,_=>by simp[IW]at h
 |_::_,_::_,[],_,h=>by simp[IW]at h
 |a::x,b::y,c::z,h1,h2=>by
  unfold IW at *
  simp only[CO,Ag,AD]at *
  rcases h1 with h1 | ⟨rfl,h1⟩
  .rcases h2 with h2 | ⟨rfl,h2⟩
   .exact .inl (UInt8.lt_trans h1 h2)
   .exact .inl h1
  .rcases h2 with h2 | ⟨rfl,h2⟩
   .exact .inl h2
   .exact .inr ⟨rfl,Pc h1 h2⟩
theorem Vh:∀{x y},IW x y=false->IW y x=false->x=y
 | [],[],_,_=>rfl
 | [],_::_,h,_=>by simp[IW]at h
 |_::_,[],_,h=>by simp[IW]at h
 |a::x,b::y,h1,h2=>by
  unfold IW at *
  simp only[Bool.or_eq_false_iff,Mt,Hy]at *
  have e:a=b:=by
   have l1:=UInt8.not_lt.1 h1.1;have l2:=UInt8.not_lt.1 h2.1;exact UInt8.le_antisymm l2 l1
  subst e
  have:=Vh (x:=x) (y:=y) (by simpa using h1.2) (by simpa using h2.2)
  rw[this]
theorem Abd(h:a.data.toList=b.data.toList):a=b:=by
 cases a;cases b;simp only[ByteArray.mk.injEq];exact Js.1 h
theorem Dm(a:ByteArray):Ef a a=false:=SO _
theorem D6{c:ByteArray}(h:Ef a b=true)(k:Ef b c=true):Ef a c=true:=Pc h k
theorem Ik(h:Ef a b=false)(k:Ef b a=false):a=b:=Abd (Vh h k)
theorem IQ(h:Ef a b=true):a≠b:=fun e=>by subst e;rw[Dm]at h;cases h
theorem NJ(h:Ef a b=true):Ef b a=false:=by
 rw[AN];intro k;have:=D6 h k;rw[Dm]at this;cases this
def My:Tm:=⟨t.path,t.absent,canon t.set⟩
def Hv:Tm:=⟨u.path,u.absent&&t.absent,Qu u.set t.set⟩
def O0(t:Tm):List Tm->List Tm
 | []=>[My t]
 |u::r=>if Ef u.path t.path then u::O0 t r else if u.path=t.path then Hv u t::r else My t::u::r
def Fq:List Tm:=l.foldl (fun acc t=>O0 t acc) []
def IZ:Bool:=!t.absent&&t.set.isEmpty
def G5:Bool:=t.absent&&decide (t.set=[(0,1000000)])
def Df:Option (List Tm):=if(Fq l).any IZ then none else some ((Fq l).filter fun t=>!G5 t)
def RK:List Tm:=(Df l).getD []
def DZ:Tm:=⟨q.path,true,EZ q.set⟩
def Ks:List Tm:=RK [DZ q]
def EG(path:ByteArray)(pl:Int)(q:Rq):List Tm:=RK [⟨path,false,[(pl,pl+1)]⟩,DZ q]
def IM(path:ByteArray)(xl:Bx):List Tm:=RK [⟨path,false,EZ xl⟩]
def DC(p:ByteArray):Option Tm:=l.find? fun t=>decide (t.path=p)
def Ga(p:ByteArray):List Tm:=l.filter fun t=>!decide (t.path=p)
def Dz(a b:Tm):Tm:=⟨a.path,a.absent||b.absent,QZ a.set b.set⟩
def FN(p:ByteArray):Option (Tm×List Tm):=match Df l with
 |none=>none
 |some c=>match DC c p with
  |none=>none
  |some t=>some (t,Ga c p)
def B1(a b:List Tm)(p:ByteArray):List Tm×Int:=
 match FN a p,FN b p with
 |some (t,r),some (u,m)=>match Df (r++m++[Dz t u])with
  |some o=>(o,0)
  |none=>([],8)
 |_,_=>([],1)
def Cs(lo:Option ByteArray):List Tm->Prop
 | []=>True
 |t::r=>(∀p,lo=some p->Ef p t.path=true)/\E6 t.set/\Cs (some t.path) r
theorem Cs.weak:∀{l:List Tm},Cs lo l->Cs none l
 | [],_=>trivial
 |_::_,⟨_,h2,h3⟩=>⟨fun _ h=>(by cases h),h2,h3⟩
theorem Cs.low{p:ByteArray}:∀{l:List Tm},Cs (some p) l->∀t∈l,Ef p t.path=true
 |t::r,⟨h1,h2,h3⟩,u,hu=>by
  rcases AC.1 hu with rfl | hu
  .exact h1 p rfl
  .exact D6 (h1 p rfl) (h3.low u hu)
theorem Cs.canon{lo:Option ByteArray}:∀{l:List Tm},Cs lo l->∀t∈l,E6 t.set
 |t::r,⟨h1,h2,h3⟩,u,hu=>by
  rcases AC.1 hu with rfl | hu
  .exact h2
  .exact h3.canon u hu
theorem Cs.mono{p q:ByteArray}:∀{l:List Tm},Cs (some p) l->Ef q p=true->Cs (some q) l
 | [],_,_=>trivial
 |t::r,⟨h1,h2,h3⟩,h=>⟨fun _ e=>by cases e;exact D6 h (h1 p rfl),h2,h3⟩
theorem Ni:∀{l:List Tm} {lo:Option ByteArray} (t:Tm),Cs lo l->(∀p,lo=some p->Ef p t.path=true)->Cs lo (O0 t l)
 | [],lo,t,_,h=>⟨h,CB _,trivial⟩
 |u::r,lo,t,⟨h1,h2,h3⟩,h=>by
  unfold O0;split
  .rename_i DE;exact⟨h1,h2,Ni t h3 fun p e=>by cases e;exact DE⟩
  .rename_i DE;split
   .rename_i he;exact⟨h1,SL _ _,h3⟩
   .rename_i he;refine⟨h,CB _,fun p e=>?_,h2,h3⟩;cases e
    have:Ef u.path t.path=false:=by simpa using DE
    cases hb:Ef t.path u.path with
    |true=>exact hb
    |false=>exact absurd (Ik this hb) he
theorem Ql:∀(l acc:List Tm),Cs none acc->Cs none (l.foldl (fun acc t=>O0 t acc) acc)
 | [],_,h=>h
 |t::l,acc,h=>Ql l _ (Ni t h fun _ e=>by cases e)
theorem EL:Cs none (Fq l):=Ql l [] trivial
theorem De(r:List Tm)(p:ByteArray):DC (t::r) p=if t.path=p then some t else DC r p:=by
 unfold DC;rw[Fg];by_cases h:t.path=p<;>simp[h]
theorem Im{p q:ByteArray}{l:List Tm}(h:Cs (some p) l)(hq:Ef p q=false):DC l q=none:=by
 unfold DC;rw[DU];intro t ht
 have:=h.low t ht
 simp only[AD];intro e;subst e;rw[hq]at this;cases this
def Pi(o:Option Tm)(t:Tm):Tm:=match o with | none=>My t | some u=>Hv u t
theorem RO(o:Option Tm)(t:Tm)(h:∀u,o=some u->u.path=t.path):(Pi o t).path=t.path:=by
 cases o with
 |none=>rfl
 |some u=>exact h u rfl
theorem HL{l:List Tm}{p:ByteArray}{u:Tm}(h:DC l p=some u):u.path=p:=by
 have:=DP h;simpa using this
theorem Fz{l:List Tm}{p:ByteArray}{u:Tm}(h:DC l p=some u):u∈l:=BF h
theorem UK:∀{l:List Tm} {lo:Option ByteArray} (t:Tm) (p:ByteArray),Cs lo l->DC (O0 t l) p=if t.path=p then some (Pi (DC l p) t)else DC l p
 | [],lo,t,p,_=>by
  unfold O0;rw[De];show(if t.path=p then some (My t)else none)=_
  by_cases h:t.path=p<;>simp[h,DC,Pi]
 |u::r,lo,t,p,⟨h1,h2,h3⟩=>by
  unfold O0;split
  .rename_i DE;rw[De,De,UK t p h3]
   by_cases hu:u.path=p
   .have:¬t.path=p:=fun e=>IQ DE (hu.trans e.symm)
    simp[hu,this]
   .simp[hu]
  .rename_i DE;split
   .rename_i he;rw[De,De];show(if u.path=p then some (Hv u t)else _)=_
    by_cases hu:u.path=p
    .simp[hu,he▸hu,Pi]
    .have:¬t.path=p:=fun e=>hu (he.trans e)
     simp[hu,this]
   .rename_i he;rw[De];show(if t.path=p then some (My t)else _)=_
    by_cases ht:t.path=p
    .have hn:DC (u::r) p=none:=by
      rw[De];have hu:¬u.path=p:=fun e=>he (e.trans ht.symm);simp only[hu,Gu];exact Im h3 (by subst ht;simpa using DE)
     simp[ht,hn,Pi]
    .simp[ht]
def KY(o:Option Tm)(t:Tm):Option Tm:=if t.path=p then some (Pi o t)else o
theorem Sz(p:ByteArray):∀(l acc:List Tm),Cs none acc->DC (l.foldl (fun acc t=>O0 t acc) acc) p=l.foldl (KY p) (DC acc p)
 | [],_,_=>rfl
 |t::l,acc,h=>by
  rw[D0,Sz p l _ (Ni t h fun _ e=>by cases e),UK t p h];rfl
theorem JR(p:ByteArray):DC (Fq l) p=l.foldl (KY p) none:=Sz p l [] trivial
theorem NC:∀{a b:List Tm} {lo:Option ByteArray},Cs lo a->Cs lo b->(∀p,DC a p=DC b p)->a=b
 | [],[],_,_,_,_=>rfl
 | [],z::s,_,_,_,h=>by have:=h z.path;rw[De,Ao rfl]at this;cases this
 |z::s,[],_,_,_,h=>by have:=h z.path;rw[De,Ao rfl]at this;cases this
 |y::r,z::s,lo,⟨f1,f2,f3⟩,⟨g1,g2,g3⟩,h=>by
  have e:y=z:=by
   have a1:=h y.path;have a2:=h z.path;rw[De,Ao rfl,De]at a1;rw[De,De z,Ao rfl]at a2
   by_cases e:z.path=y.path
   .rw[Ao e]at a1;exact Cq a1
   .rw[Aj e]at a1;rw[Aj (fun c=>e c.symm)]at a2;have b1:=Cs.low g3 y (Fz a1.symm);have b2:=Cs.low f3 z (Fz a2)
    have:=D6 b1 b2
    rw[Dm]at this;cases this
  subst e
  congr 1
  refine NC f3 g3 fun p=>?_;have hp:=h p;rw[De,De]at hp
  by_cases e:y.path=p
  .subst e;rw[Im f3 (Dm _),Im g3 (Dm _)]
  .simpa[e]using hp
theorem Cs.filter(q:Tm->Bool):∀{l:List Tm} {lo:Option ByteArray},Cs lo l->Cs lo (l.filter q)
 | [],_,_=>trivial
 |t::r,lo,⟨h1,h2,h3⟩=>by
  have ih:=Cs.filter q h3;rw[El];split
  .exact⟨h1,h2,ih⟩
  .cases lo with
   |none=>exact ih.weak
   |some p=>exact ih.mono (h1 p rfl)
theorem F4{l:List Tm}{t:Tm}(h:Cs lo l):t∈l↔DC l t.path=some t:=by
 constructor
 .induction l generalizing lo with
  |nil=>intro h;cases h
  |cons u r ih=>
   intro ht;rw[De];rcases AC.1 ht with rfl | ht
   .rw[Ao rfl]
   .have:=Cs.low h.2.2 t ht
    rw[Aj (IQ this)];exact ih h.2.2 ht
 .exact Fz
def DA(o:Option Sl):Bool:=match o with | none=>t.absent | some x=>Cz x.ver&&has t.set (place x.ver)
theorem mF(s:List Sl):Hf t s=DA t (B2 s t.path):=by
 unfold Hf DA B2;rfl
theorem M6{p:ByteArray}{x:Sl}(h:B2 s p=some x):x.path=p:=by
 have:=DP h;simpa using this
theorem Kc{p:ByteArray}{x:Sl}(h:B2 s p=some x):x∈s:=BF h
theorem KO{p:ByteArray}:CZ s p=(B2 s p).isSome:=by
 unfold CZ B2;rw[B5,List.find?_isSome,Bd]
theorem dt(o:Option Sl):DA (My t) o=DA t o:=by
 unfold DA My;cases o<;>simp[H3]
theorem aQ(o:Option Sl):DA (Hv u t) o=(DA u o&&DA t o):=by
 unfold DA Hv;cases o with
 |none=>rfl
 |some x=>simp only[Xq];cases Cz x.ver<;>simp
theorem Ov(o:Option Sl):DA (Dz u t) o=(DA u o||DA t o):=by
 unfold DA Dz;cases o with
 |none=>rfl
 |some x=>simp only[i7];cases Cz x.ver<;>simp
def Wh(o:Option Sl)(l:List Tm):Bool:=l.all fun t=>!decide (t.path=p)||DA t o
theorem KN(p:ByteArray)(o:Option Sl):∀(l:List Tm) (a:Option Tm),(∀u,a=some u->u.path=p) ->
  (l.foldl (KY p) a=none↔a=none/\l.all (fun t=>!decide (t.path=p))=true)/\(∀u,l.foldl (KY p) a=some u->u.path=p/\DA u o=((match a with | none=>true | some b=>DA b o)&&Wh p o l))
 | [],a,ha=>by
  refine⟨by simp,fun u h=>?_⟩;have h:a=some u:=h;subst h;exact⟨ha u rfl,by simp[Wh]⟩
 |t::l,a,ha=>by
  rw[D0]
  by_cases e:t.path=p
  .have hs:KY p a t=some (Pi a t):=by unfold KY;rw[Ao e]
   rw[hs];have ih:=KN p o l (some (Pi a t)) (fun u h=>by cases h;rw[RO a t fun u h=>(ha u h).trans e.symm];exact e);refine⟨⟨fun h=>?_,fun h=>?_⟩,fun u h=>?_⟩
   .have:=ih.1.1 h;cases this.1
   .simp[e]at h
   .obtain⟨h1,h2⟩:=ih.2 u h;refine⟨h1,?_⟩;rw[h2]
    have:Wh p o (t::l)=(DA t o&&Wh p o l):=by simp[Wh,e]
    rw[this];cases a with
    |none=>simp[Pi,dt]
    |some b=>simp[Pi,aQ,Bool.and_assoc]
  .have hs:KY p a t=a:=by unfold KY;rw[Aj e]
   rw[hs];have ih:=KN p o l a ha
   have:Wh p o (t::l)=Wh p o l:=by simp[Wh,e]
   rw[this];refine⟨?_,ih.2⟩;rw[ih.1];simp[e]
theorem BL{l:List Tm}:Bo l s=true↔∀t∈l,DA t (B2 s t.path)=true:=by
 unfold Bo;rw[AZ];simp only[mF]
theorem MJ(s:List Sl):Bo (Fq l) s=Bo l s:=by
 rw[B5,BL,BL];constructor
 .intro h t ht
  have:=KN t.path (B2 s t.path) l none (fun _ e=>by cases e)
  rw[<-JR]at this;cases e:DC (Fq l) t.path with
  |none=>
   have:=(this.1.1 e).2
   rw[AZ]at this
   have:=this t ht
   simp at this
  |some u=>
   obtain⟨h1,h2⟩:=this.2 u e;have hu:=h u (Fz e);rw[h1,h2]at hu;simp only[E5,Wh,AZ]at hu
   have:=hu t ht
   simpa using this
 .intro h u hu;have e:=(F4 (EL l)).1 hu
  have:=KN u.path (B2 s u.path) l none (fun _ e=>by cases e)
  rw[<-JR]at this;obtain⟨h1,h2⟩:=this.2 u e;rw[h2];simp only[E5,Wh,AZ];intro t ht
  by_cases e:t.path=u.path
  .have:=h t ht;rw[e]at this;simp[this]
  .simp[e]
theorem dH{t:Tm}(h:IZ t=true)(o:Option Sl):DA t o=false:=by
 unfold IZ at h;simp only[Ag,CJ,Ht]at h;unfold DA;cases o with
 |none=>exact h.1
 |some x=>dsimp only;rw[h.2];simp[has]
def GD(s:List Sl):Prop:=∀x∈s,Cz x.ver=true
theorem Jq{v:Ver}(h:Cz v=true):0<=v.a/\v.a<=999/\0<=v.b/\v.b<=999/\0<=v.c/\v.c<=999:=by
 unfold Cz at h;simp only[Ag]at h;obtain⟨⟨a,b⟩,c⟩:=h;obtain⟨a1,a2⟩:=AK a;obtain⟨b1,b2⟩:=AK b;obtain⟨c1,c2⟩:=AK c;exact⟨a1,a2,b1,b2,c1,c2⟩
theorem Kq{v:Ver}(h:Cz v=true):0<=place v/\place v<1000000:=by
 have:=Jq h;unfold place;omega
theorem Wi{t:Tm}(h:G5 t=true)(hs:GD s):DA t (B2 s t.path)=true:=by
 unfold G5 at h;simp only[Ag,AD]at h;unfold DA;cases e:B2 s t.path with
 |none=>exact h.1
 |some x=>
  have:=hs x (Kc e)
  have hp:=Kq this;dsimp only;rw[this,h.2];simp[has,BX,hp]
theorem Ds{l:List Tm}(hs:GD s):Bo l s=(match Df l with | none=>false | some c=>Bo c s):=by
 unfold Df;split
 .rename_i h;split at h
  .rename_i hn;rw[<-MJ,AN];intro hv;rw[BL]at hv;obtain⟨t,ht,hn⟩:=Bd.1 hn
   have:=hv t ht
   rw[dH hn]at this;cases this
  .cases h
 .rename_i c h;split at h
  .cases h
  .rename_i hn;cases h;rw[<-MJ,B5,BL,BL];constructor
   .intro h t ht;exact h t (By.1 ht).1
   .intro h t ht;cases ha:G5 t with
    |true=>exact Wi ha hs
    |false=>exact h t (By.2 ⟨ht,by simp[ha]⟩)
theorem HI(a b:List Tm)(s:List Sl):Bo (a++b) s=(Bo a s&&Bo b s):=by unfold Bo;rw[List.all_append]
theorem Fj{l c:List Tm}(h:Df l=some c):Cs none c:=by
 unfold Df at h;split at h
 .cases h
 .cases h;exact Cs.filter _ (EL l)
theorem F9{l r:List Tm}{p:ByteArray}{t:Tm}(hs:GD s)(h:FN l p=some (t,r)):Bo l s=(DA t (B2 s p)&&Bo r s)/\t.path=p:=by
 unfold FN at h;cases hc:Df l with
 |none=>rw[hc]at h;cases h
 |some c=>
  rw[hc]at h;dsimp only at h;cases hf:DC c p with
  |none=>rw[hf]at h;cases h
  |some u=>
   rw[hf]at h;cases h;have hp:=HL hf;refine⟨?_,hp⟩;rw[Ds hs,hc];dsimp only;rw[B5,Ag,BL,BL];constructor
   .intro h
    have:=h t (Fz hf)
    rw[hp]at this;exact⟨this,fun v hv=>h v (By.1 hv).1⟩
   .intro⟨h1,h2⟩ v hv
    by_cases e:v.path=p
    .have:=(F4 (Fj hc)).1 hv
     rw[e,hf]at this;cases this;rw[e];exact h1
    .exact h2 v (By.2 ⟨hv,by simp[e]⟩)
theorem VH{a b o:List Tm}{p:ByteArray}(hs:GD s)(h:B1 a b p=(o,0))(hv:Bo o s=true):Bo a s=true\/Bo b s=true:=by
 unfold B1 at h;cases h1:FN a p with
 |none=>rw[h1]at h;simp at h
 |some x=>
  cases h2:FN b p with
  |none=>rw[h1,h2]at h;simp at h
  |some y=>
   obtain⟨t,r⟩:=x;obtain⟨u,m⟩:=y;rw[h1,h2]at h;dsimp only at h;cases hc:Df (r++m++[Dz t u])with
   |none=>rw[hc]at h;simp at h
   |some c=>
    rw[hc]at h
    have:c=o:=by simpa using h
    subst this;have e:=Ds (l:=r++m++[Dz t u]) hs;rw[hc]at e;dsimp only at e;rw[hv,HI,HI]at e;simp only[Ag]at e;obtain⟨⟨e1,e2⟩,e3⟩:=e;obtain⟨va,pa⟩:=F9 hs h1;obtain⟨vb,pb⟩:=F9 hs h2;have e3:=BL.1 e3 _ (Aq.2 rfl)
    have:(Dz t u).path=p:=pa
    rw[this,Ov,CO]at e3;rcases e3 with e3 | e3
    .exact .inl (by rw[va,e3,e1];rfl)
    .exact .inr (by rw[vb,e3,e2];rfl)
theorem RL{l:List Tm}(hs:GD s)(DD:RK l≠[]):Bo (RK l) s=Bo l s:=by
 have:=Ds (l:=l) hs
 unfold RK at *
 cases h:Df l with
 |none=>rw[h]at DD;exact absurd rfl DD
 |some c=>rw[h]at this;exact this.symm
-- paths
def HQ:Bool:=decide (97<=c)&&decide (c<=122)
def Yt:Bool:=decide (65<=c)&&decide (c<=90)
def Fp:Bool:=decide (48<=c)&&decide (c<=57)
def NF:Bool:=HQ c||Yt c||Fp c||decide (c=95)
def mZ:List UInt8:=[32,97,110,100,32,97,110,121,32,97,115,32,98,111,111,108,32,100,101,112,114,101,99,97,116,101,100,32,101,108,115,101,32,101,120,112,111,114,116,32,102,97,108,115,101,32,102,110,32,102,111,108,100,32,102,114,111,109,32,105,102,32,105,109,112,111,114,116,32,105,110,32,105,110,116,32,108,101,110,103,116,104,32,108,101,116,32,108,105,115,116,32,109,97,116,99,104,32,109,111,100,117,108,101,32,110,111,110,101,32,110,111,116,32,111,114,32,116,101,120,116,32,116,104,101,110,32,116,114,117,101,32,116,121,112,101,32,117,115,101,32]
def j8:List UInt8->List UInt8->Bool
 | [],_=>true
 |_::_,[]=>false
 |a::x,b::y=>decide (a=b)&&j8 x y
def inL(x:List UInt8):List UInt8->Bool
 | []=>j8 x []
 |b::y=>j8 x (b::y)||inL x y
def dA(s:List UInt8):Bool:=inL (32::(s++[32])) mZ
def I4(s:List UInt8):Bool:=!s.isEmpty&&decide (s.length<=32)&&HQ (s.headD 0)&&s.all NF&&!dA s
def OF(s:List UInt8):Bool:=I4 s&&s.all fun c=>HQ c||Fp c
def G9(s:List UInt8):Int:=s.foldl (fun n c=>10*n+((c.toNat:Int)-48)) 0
def MP(s:List UInt8):Option Int:=match s with
 |c::r=>if c=118 then(if r.isEmpty||decide (3<r.length)||(decide (1<r.length)&&decide (r.headD 0=48))||!r.all Fp then none else some (G9 r))else none
 | []=>none
def FM(c:UInt8):List UInt8->List (List UInt8)
 | []=>[[]]
 |b::r=>if b=c then []::FM c r else match FM c r with
  | []=>[[b]]
  |x::l=>(b::x)::l
def dE(p:List UInt8):Option Int:=match MP ((FM 47 p).getLastD [])with
 |none=>none
 |some n=>if 64<p.length||(FM 47 p).length<2 then none else if(FM 47 p).all OF then some n else none
def CG:Option Int:=dE p.data.toList
-- indexes
def I2(before:Option ByteArray)(q:Rq):Int:=
 if(CG q.path).isNone then 4 else if q.set.isEmpty||!decide (q.set=canon q.set)||(match before with | some b=>!Ef b q.path | none=>false)then 1 else 0
def Gl(before:Option ByteArray):List Rq->Int
 | []=>0
 |q::r=>if I2 before q=0 then Gl (some q.path) r else I2 before q
def BK(l:List Rq):Int:=if 16<l.length then 7 else Gl none l
def Fo(s:ByteArray):Bool:=decide (s.size=0)||decide (s.size=32)
def DX:Int:=match CG r.path with
 |none=>4
 |some m=>if !Cz r.ver||!decide (r.ver.a=m)then 2 else if BK r.reqs≠0 then BK r.reqs else if Fo r.arch&&Fo r.ifc&&Fo r.cert then 0 else 1
def G6(a b:Int):Int:=if a<b then -1 else if b<a then 1 else 0
def La(a b:ByteArray):Int:=if Ef a b then -1 else if Ef b a then 1 else 0
def PU(a b:Ver):Int:=if G6 a.a b.a≠0 then G6 a.a b.a else if G6 a.b b.b≠0 then G6 a.b b.b else G6 a.c b.c
def Dy(a b:Rl):Int:=if La a.path b.path≠0 then La a.path b.path else PU a.ver b.ver
def Gn:Sl:=⟨r.path,r.ver⟩
def DR(before:Option Rl):List Rl->Int
 | []=>0
 |r::l=>if DX r≠0 then DX r else match before with
  |none=>DR (some r) l
  |some b=>if Gn b=Gn r then 5 else if 0<Dy b r then 1 else DR (some r) l
def A6(l:List Rl):Int:=if 256<l.length then 7 else DR none l
def Dh(y:Sl):Option Rl:=if A6 x≠0 then none else x.find? fun r=>decide (Gn r=y)
def Li(p:ByteArray):List Rl:=if A6 x≠0 then []else x.filter fun r=>decide (r.path=p)
def Cn(p:ByteArray):Bx:=canon (((Li x p).filter fun r=>!r.yanked).map fun r=>(plc r.ver,plc r.ver+1))
def U5(before:Option ByteArray):List Sl->Bool
 | []=>true
 |y::r=>(match before with |some b=>Ef b y.path |none=>true)&&U5 (some y.path) r
def E3(s:List Sl):Bool:=U5 none s
-- solutions
-- derivations
def QM(p:ByteArray)(pl:Int):Option Rl:=x.find? fun r=>decide (r.path=p)&&decide (plc r.ver=pl)
def mt:ByteArray:=⟨#[]⟩
def Ko(l:List α)(i:Int):Option α:=if i<0 then none else l[i.toNat]?
def jx:Option (List Tm):=if l.isEmpty then none else some l
def Ei(roots:List Rq)(d:List (List Tm))(i:Nf):Option (List Tm):=
 if i.kind=0 then
  if i.path=mt/\i.place=0/\i.left=0/\i.right=0 then(Ko roots i.number).map Ks else none
 else if i.kind=1 then
  if i.left=0/\i.right=0 then match QM x i.path i.place with
   |none=>none
   |some r=>match Ko r.reqs i.number with
    |none=>none
    |some q=>jx (EG i.path i.place q)
  else none
 else if i.kind=2 then
  if i.place=0/\i.number=0/\i.left=0/\i.right=0 then jx (IM i.path (Cn x i.path))else none
 else if i.kind=3 then
  if i.place=0/\i.number=0 then match Ko d i.left,Ko d i.right with
   |some a,some b=>if(B1 a b i.path).2=0 then some (B1 a b i.path).1 else none
   |_,_=>none
  else none
 else none
def Dv(x:List Rl)(roots:List Rq):List Nf->List (List Tm)->Option (List (List Tm))
 | [],d=>some d
 |i::l,d=>match Ei x roots d i with
  |none=>none
  |some t=>Dv x roots l (d++[t])
-- decisions
def DO(before:List Sl):List Rq->Option ByteArray->Option ByteArray
 | [],acc=>acc
 |q::l,acc=>DO before l (if CZ before q.path then acc else match acc with
  |none=>some q.path
  |some p=>if Ef q.path p then some q.path else some p)
def LJ(needs:List Rq)(before:List Sl):Option ByteArray:=DO before needs none
structure Vis where
 before:List Sl
 needs:List Rq
 rel:Rl
-- answers
-- the example
-- the order of releases
theorem LB{a b:Int}(h:G6 a b=0):a=b:=by
 unfold G6 at h;split at h
 .cases h
 .split at h
  .cases h
  .omega
theorem Yy{a b:Int}(h:G6 a b<0):a<b:=by
 unfold G6 at h;split at h
 .assumption
 .split at h<;>omega
theorem Xe(h:La a b=0):a=b:=by
 unfold La at h;cases h1:Ef a b with
 |true=>rw[h1]at h;simp at h
 |false=>
  cases h2:Ef b a with
  |true=>rw[h1,h2]at h;simp at h
  |false=>exact Ik h1 h2
theorem qb(h:La a b<0):Ef a b=true:=by
 unfold La at h;cases h1:Ef a b with
 |true=>rfl
 |false=>rw[h1]at h;cases h2:Ef b a<;>rw[h2]at h<;>simp at h
def qN(a b:Ver):Prop:=a.a<b.a\/(a.a=b.a/\(a.b<b.b\/(a.b=b.b/\a.c<b.c)))
def cj(a b:Rl):Prop:=Ef a.path b.path=true\/(a.path=b.path/\qN a.ver b.ver)
theorem ft{a b:Ver}(h:PU a b<0):qN a b:=by
 unfold PU at h;split at h
 .exact .inl (Yy h)
 .rename_i h1;have h1:=LB (B7.1 h1);split at h
  .exact .inr ⟨h1,.inl (Yy h)⟩
  .rename_i h2;exact .inr ⟨h1,.inr ⟨LB (B7.1 h2),Yy h⟩⟩
theorem iI{a b:Ver}(h:PU a b=0):a=b:=by
 unfold PU at h;split at h
 .rename_i h1;exact absurd h h1
 .rename_i h1;have h1:=LB (B7.1 h1);split at h
  .rename_i h2;exact absurd h h2
  .rename_i h2;have h2:=LB (B7.1 h2);have h3:=LB h;cases a;cases b;simp_all
theorem iG{a b:Rl}(h:Dy a b=0):Gn a=Gn b:=by
 unfold Dy at h;split at h
 .rename_i h1;exact absurd h h1
 .rename_i h1;have h1:=Xe (B7.1 h1);have h2:=iI h;unfold Gn;rw[h1,h2]
theorem qc{a b:Rl}(h:Dy a b<0):cj a b:=by
 unfold Dy at h;split at h
 .exact .inl (qb h)
 .rename_i h1;exact .inr ⟨Xe (B7.1 h1),ft h⟩
theorem ju{a b c:Ver}(h:qN a b)(k:qN b c):qN a c:=by unfold qN at *;omega
theorem XB{a b c:Rl}(h:cj a b)(k:cj b c):cj a c:=by
 rcases h with h | ⟨h1,h2⟩
 .rcases k with k | ⟨k1,k2⟩
  .exact .inl (D6 h k)
  .exact .inl (k1▸h)
 .rcases k with k | ⟨k1,k2⟩
  .exact .inl (h1▸k)
  .exact .inr ⟨h1.trans k1,ju h2 k2⟩
theorem HN{a b:Rl}(h:cj a b)(k:Gn a=Gn b):False:=by
 unfold Gn at k;simp only[Sl.mk.injEq]at k;rcases h with h | ⟨_,h⟩
 .rw[k.1,Dm]at h;cases h
 .rw[k.2]at h;unfold qN at h;omega
-- a valid index
structure Ub(r:Rl):Prop where
 maj:CG r.path=some r.ver.a
 val:Cz r.ver=true
 reqs:BK r.reqs=0
theorem cL{r:Rl}(h:DX r=0):Ub r:=by
 unfold DX at h;split at h
 .cases h
 .rename_i m hm;split at h
  .cases h
  .rename_i h1;split at h
   .rename_i h2;exact absurd h h2
   .rename_i h2;simp only[CO,CJ,Hy,not_or,B7]at h1;refine⟨by rw[hm,h1.2],by simpa using h1.1,B7.1 h2⟩
theorem L7:∀{l:List Rl} {b:Option Rl},DR b l=0->(∀r∈l,Ub r)/\(l.Pairwise cj/\∀c,b=some c->∀r∈l,cj c r)
 | [],b,_=>⟨fun _ h=>(by cases h),.nil,fun _ _ _ h=>(by cases h)⟩
 |r::l,b,h=>by
  unfold DR at h;split at h
  .rename_i h1;exact absurd h h1
  .rename_i h1;have hr:=cL (B7.1 h1);have go:DR (some r) l=0->(∀c,b=some c->cj c r)->(∀z∈r::l,Ub z)/\((r::l).Pairwise cj/\∀c,b=some c->∀z∈r::l,cj c z):=fun h hc=>by
    obtain⟨i1,i2,i3⟩:=L7 h;refine⟨fun z hz=>?_,.cons (i3 r rfl) i2,fun c e z hz=>?_⟩
    .rcases AC.1 hz with rfl | hz
     .exact hr
     .exact i1 z hz
    .rcases AC.1 hz with rfl | hz
     .exact hc c e
     .exact XB (hc c e) (i3 r rfl z hz)
   cases b with
   |none=>exact go h fun _ e=>by cases e
   |some b=>
    dsimp only at h;split at h
    .cases h
    .rename_i hk;split at h
     .cases h
     .rename_i hc;refine go h fun c e=>?_;cases e;refine qc ?_
      have:Dy b r≠0:=fun e=>hk (iG e)
      omega
theorem CC{l:List Rl}(h:A6 l=0):(∀r∈l,Ub r)/\l.Pairwise cj:=by
 unfold A6 at h;split at h
 .cases h
 .exact⟨(L7 h).1,(L7 h).2.1⟩
theorem Vd{l:List Rl}(h:l.Pairwise cj){a b:Rl}(ha:a∈l)(hb:b∈l)(hk:Gn a=Gn b):a=b:=by
 induction h with
 |nil=>cases ha
 |cons h1 h2 ih=>
  rcases AC.1 ha with e1 | ha
  .rcases AC.1 hb with e2 | hb
   .exact e1.trans e2.symm
   .exact(HN (e1▸h1 b hb) hk).elim
  .rcases AC.1 hb with e2 | hb
   .exact(HN (e2▸h1 a ha) hk.symm).elim
   .exact ih ha hb
theorem Zn{a b:Ver}(ha:Cz a=true)(hb:Cz b=true)(h1:a.a=b.a)(h2:place a=place b):a=b:=by
 have:=Jq ha
 have:=Jq hb
 unfold place at h2;have e1:a.b=b.b:=by omega
 have e2:a.c=b.c:=by omega
 cases a;cases b;simp_all
theorem Ub.plc{r:Rl}(h:Ub r):plc r.ver=place r.ver:=by unfold Go.Eng.plc;rw[h.val];rfl
theorem Zh{l:List Rl}(h:(∀r∈l,Ub r)/\l.Pairwise cj){a b:Rl}(ha:a∈l)(hb:b∈l)(h1:a.path=b.path)(h2:place a.ver=place b.ver):a=b:=by
 refine Vd h.2 ha hb ?_
 have:=h.1 a ha
 have:=h.1 b hb
 have e:a.ver.a=b.ver.a:=by
  have e1:=(h.1 a ha).maj;rw[h1,(h.1 b hb).maj]at e1;exact(Cq e1).symm
 unfold Gn;rw[h1,Zn (h.1 a ha).val (h.1 b hb).val e h2]
theorem JX{x:List Rl}{r:Rl}(h:Dh x y=some r):A6 x=0/\r∈x/\Gn r=y:=by
 unfold Dh at h;split at h
 .cases h
 .rename_i h1;refine⟨B7.1 h1,BF h,?_⟩
  have:=DP h;simpa using this
structure wE(x:List Rl)(roots:List Rq)(s:List Sl):Prop where
 ix:A6 x=0
 inc:E3 s=true
 fnd:∀y∈s,∃r,Dh x y=some r/\r.yanked=false
 root:∀q∈roots,∃y,B2 s q.path=some y/\has q.set (place y.ver)=true
 req:∀y∈s,∀r,Dh x y=some r->∀q∈r.reqs,∃z,B2 s q.path=some z/\has q.set (place z.ver)=true
theorem OZ:∀{s:List Sl} {b:Option ByteArray},U5 b s=true->s.Pairwise (fun a b=>Ef a.path b.path=true)/\∀c,b=some c->∀y∈s,Ef c y.path=true
 | [],_,_=>⟨.nil,fun _ _ _ h=>by cases h⟩
 |y::r,b,h=>by
  unfold U5 at h;simp only[Ag]at h;obtain⟨h1,h2⟩:=h;obtain⟨i1,i2⟩:=OZ h2;refine⟨.cons (i2 _ rfl) i1,fun c e z hz=>?_⟩;subst e;rcases AC.1 hz with rfl | hz
  .exact h1
  .exact D6 h1 (i2 _ rfl z hz)
theorem On(h:s.Pairwise (fun a b=>Ef a.path b.path=true))(hy:y∈s):B2 s y.path=some y:=by
 induction h with
 |nil=>cases hy
 |cons h1 h2 ih=>
  rename_i a l;unfold B2;rw[Fg];rcases AC.1 hy with rfl | hy
  .simp
  .have:=IQ (h1 y hy)
   simp only[this,decide_false];exact ih hy
theorem aw(h:E3 s=true)(hy:y∈s):B2 s y.path=some y:=On (OZ h).1 hy
theorem wE.valid{x:List Rl}(h:wE x roots s):GD s:=fun y hy=>by
 obtain⟨r,h1,_⟩:=h.fnd y hy;obtain⟨_,h2,h3⟩:=JX h1
 have:=((CC h.ix).1 r h2).val
 rw[<-h3];exact this
-- soundness
theorem S0{q:Rq}(h:∃y,B2 s q.path=some y/\has q.set (place y.ver)=true):DA (DZ q) (B2 s q.path)=false:=by
 obtain⟨y,h1,h2⟩:=h;rw[h1];unfold DA DZ;dsimp only;rw[F5,h2];simp
theorem nH{l:List Tm}(hs:GD s)(hn:Df l≠none)(hv:Bo l s=false):Bo (RK l) s=false:=by
 have:=Ds (l:=l) hs
 unfold RK;cases h:Df l with
 |none=>exact absurd h hn
 |some c=>rw[h,hv]at this;exact this.symm
theorem br{l:List Tm}(hs:GD s){o:List Tm}(h:jx (RK l)=some o)(hv:Bo l s=false):Bo o s=false:=by
 unfold jx at h;split at h
 .cases h
 .rename_i DD;cases h;rw[RL hs (by intro e;rw[e]at DD;exact DD rfl)];exact hv
theorem dZ:Df [DZ q]≠none:=by
 unfold Df Fq;simp only[List.foldl,O0]
 have:IZ (My (DZ q))=false:=by simp[IZ,My,DZ]
 simp[this]
theorem QE{l:List α}{i:Int}{a:α}(h:Ko l i=some a):a∈l:=by
 unfold Ko at h;split at h
 .cases h
 .exact Az h
theorem YY{x:List Rl}(hs:wE x roots s)(hd:∀t∈d,Bo t s=false){o:List Tm}(h:Ei x roots d i=some o):Bo o s=false:=by
 have hv:=hs.valid;unfold Ei at h;split at h
 .split at h
  .rw[AW]at h;obtain⟨q,hq,rfl⟩:=h;refine nH hv (dZ q) ?_;rw[AN];intro hw
   have:=BL.1 hw _ (Aq.2 rfl)
   rw[show(DZ q).path=q.path from rfl,S0 (hs.root q (QE hq))]at this;cases this
  .cases h
 .split at h
  .split at h
   .split at h
    .cases h
    .rename_i r hr;split at h
     .cases h
     .rename_i q hq;refine br hv h ?_;rw[AN];intro hw;have h1:=BL.1 hw _ (Ab ..);have h2:=BL.1 hw (DZ q) B0;rw[show(DZ q).path=q.path from rfl]at h2;dsimp only at h1;cases hf:B2 s i.path with
      |none=>rw[hf]at h1;simp[DA]at h1
      |some y=>
       rw[hf]at h1;unfold DA at h1;simp only[Ag]at h1;have hp:place y.ver=i.place:=by
        have:=h1.2
        simp only[has,Cj,List.any_nil,Bool.or_false,Ag,BX,AD]at this;omega
       have hy:=Kc hf;have hyp:=M6 hf;obtain⟨r',e1,e2⟩:=hs.fnd y hy;obtain⟨_,m1,k1⟩:=JX e1;have mI:r∈x:=BF hr;have wZ:=DP hr;simp only[Ag,AD]at wZ;have GU:=CC hs.ix
       have:r'=r:=by
        refine Zh GU m1 mI ?_ ?_
        .rw[wZ.1,<-hyp,<-k1];rfl
        .rw[<-(GU.1 r mI).plc,wZ.2,<-hp,<-k1];rfl
       subst this
       have:=hs.req y hy r' e1 q (QE hq)
       rw[S0 this]at h2;cases h2
   .cases h
  .split at h
   .split at h
    .refine br hv h ?_;rw[AN];intro hw;have h1:=BL.1 hw _ (Aq.2 rfl);dsimp only at h1;cases hf:B2 s i.path with
     |none=>rw[hf]at h1;simp[DA]at h1
     |some y=>
      rw[hf]at h1;unfold DA at h1;simp only[Ag]at h1;have hy:=Kc hf;have hyp:=M6 hf;obtain⟨r,e1,e2⟩:=hs.fnd y hy;obtain⟨_,m1,k1⟩:=JX e1;have GU:=CC hs.ix;have h1:=h1.2;rw[F5]at h1;have pn:=Kq (hv y hy)
      have:has (Cn x i.path) (place y.ver)=true:=by
       unfold Cn;rw[H3];unfold has;simp only[pn,decide_true,E5,Bd,Ai,By];refine⟨(plc r.ver,plc r.ver+1),⟨r,⟨?_,by simp[e2]⟩,rfl⟩,?_⟩
       .unfold Li;simp only[hs.ix,XE,not_true,Gu,By,m1,true_and,AD];rw[<-hyp,<-k1];rfl
       .rw[(GU.1 r m1).plc,<-k1];rw[D4];exact⟨Bn _,by show place r.ver<place r.ver+1;omega⟩
      rw[this]at h1;simp at h1
    .cases h
   .split at h
    .split at h
     .split at h
      .rename_i a b ha hb;split at h
       .rename_i h0;cases h;rw[AN];intro hw;rcases VH hv (o:=(B1 a b i.path).1) (Prod.ext rfl h0) hw with hw | hw
        .rw[hd a (QE ha)]at hw;cases hw
        .rw[hd b (QE hb)]at hw;cases hw
       .cases h
      .cases h
     .cases h
    .cases h
theorem M3{x:List Rl}{roots:List Rq}{s:List Sl}(hs:wE x roots s):∀{l:List Nf} {d d' : List (List Tm)},(∀t∈d,Bo t s=false)->Dv x roots l d=some d'->∀t∈d',Bo t s=false
 | [],d,d',hd,h=>by cases h;exact hd
 |i::l,d,d',hd,h=>by
  unfold Dv at h;split at h
  .cases h
  .rename_i o ho;refine M3 hs (fun t ht=>?_) h;rcases AP.1 ht with ht | ht
   .exact hd t ht
   .rw[Aq.1 ht];exact YY hs hd ho
theorem I7{α:Type}[DecidableEq α]:∀{l m:List α},l.Nodup->(∀x∈l,x∈m)->l.length<=m.length
 | [],_,_,_=>AA _
 |a::l,m,hn,hs=>by
  rw[Dk]at hn;have ha:a∈m:=hs a (Ab ..)
  have:=I7 (l:=l) (m:=m.erase a) hn.2 fun x hx=>by
   have:x≠a:=fun e=>hn.1 (e▸hx)
   exact(List.mem_erase_of_ne this).2 (hs x (Ah _ hx))
  rw[List.length_erase_of_mem ha]at this
  have:=List.length_pos_of_mem ha
  simp only[Am];omega
abbrev Yb(s:List Sl):Prop:=s.Pairwise (fun a b=>Ef a.path b.path=true)
-- the next path
theorem KT(before:List Sl):∀{l:List Rq} {acc:Option ByteArray},(∀p,acc=some p->CZ before p=false) ->
  (∀p,DO before l acc=some p->CZ before p=false/\(acc=some p\/∃q∈l,q.path=p))/\(DO before l acc=none->acc=none/\∀q∈l,CZ before q.path=true)
 | [],acc,ha=>⟨fun p h=>⟨ha p h,.inl h⟩,fun h=>⟨h,fun _ h=>(by cases h)⟩⟩
 |q::l,acc,ha=>by
  unfold DO
  have key:∀ig,(∀p,ig=some p->CZ before p=false)->(∀p,ig=some p->acc=some p\/q.path=p)->(ig=none->acc=none/\CZ before q.path=true) ->
    (∀p,DO before l ig=some p->CZ before p=false/\(acc=some p\/∃q'∈q::l,q'.path=p))/\(DO before l ig=none->acc=none/\∀q'∈q::l,CZ before q'.path=true):=by
   intro ig h1 h2 h3;obtain⟨i1,i2⟩:=KT before (l:=l) h1;refine⟨fun p h=>?_,fun h=>?_⟩
   .obtain⟨j1,j2⟩:=i1 p h;refine⟨j1,?_⟩;rcases j2 with j2 | ⟨q',j3,j4⟩
    .rcases h2 p j2 with h2 | h2
     .exact .inl h2
     .exact .inr ⟨q,Ab ..,h2⟩
    .exact .inr ⟨q',Ah _ j3,j4⟩
   .obtain⟨j1,j2⟩:=i2 h;obtain⟨k1,k2⟩:=h3 j1;refine⟨k1,fun q' hq=>?_⟩;rcases AC.1 hq with rfl | hq
    .exact k2
    .exact j2 q' hq
  cases hb:CZ before q.path with
  |true=>simp only[SJ];exact key acc ha (fun p h=>.inl h) fun h=>⟨h,hb⟩
  |false=>
   simp only[Do,Gu];cases acc with
   |none=>exact key _ (fun p h=>by cases h;exact hb) (fun p h=>by cases h;exact .inr rfl) fun h=>by cases h
   |some p0=>
    dsimp only;split
    .exact key _ (fun p h=>by cases h;exact hb) (fun p h=>by cases h;exact .inr rfl) fun h=>by cases h
    .exact key _ (fun p h=>by cases h;exact ha _ rfl) (fun p h=>by cases h;exact .inl rfl) fun h=>by cases h
theorem Vq{needs:List Rq}{before:List Sl}{p:ByteArray}(h:LJ needs before=some p):CZ before p=false/\∃q∈needs,q.path=p:=by
 obtain⟨h1,h2⟩:=(KT before (l:=needs) (acc:=none) fun _ e=>by cases e).1 p h;rcases h2 with h2 | h2
 .cases h2
 .exact⟨h1,h2⟩
theorem dI{needs:List Rq}{before:List Sl}(h:LJ needs before=none):∀q∈needs,CZ before q.path=true:=
 ((KT before (l:=needs) (acc:=none) fun _ e=>by cases e).2 h).2
theorem UT(a b:List Sl)(p:ByteArray):CZ (a++b) p=(CZ a p||CZ b p):=by unfold CZ;rw[Ig]
theorem Mg{p:ByteArray}:CZ s p=true↔∃y∈s,y.path=p:=by unfold CZ;simp
theorem H2{p:ByteArray}:CZ s p=true↔p∈s.map (·.path):=by rw[Mg,Ai]
-- what is needed
-- skips
theorem YE{t:List Tm}{b:List Sl}(hs:E3 s=true)(hb:∀y∈b,y∈s)(h:Dg t b=true):Bo t s=true:=by
 unfold Dg at h;simp only[Ag,CJ,GM]at h;obtain⟨h1,h2⟩:=h;rw[BL]at h1⊢;intro u hu
 have:=h2 u hu
 simp only[Bool.not_eq_false]at this;rw[KO]at this;cases hf:B2 b u.path with
 |none=>rw[hf]at this;cases this
 |some y=>
  have h3:=h1 u hu;rw[hf]at h3
  have:=aw hs (hb y (Kc hf))
  rw[M6 hf]at this;rw[this];exact h3
-- right answers
-- the first decision that differs
-- prefixes
theorem JP{x:List Rl}{roots:List Rq}:∀{l:List Nf} {d d' : List (List Tm)},Dv x roots l d=some d'->d'.length=d.length+l.length
 | [],d,d',h=>by cases h;rfl
 |i::l,d,d',h=>by
  unfold Dv at h;split at h
  .cases h
  .have:=JP h
   simp only[Ac,Am,Au]at this⊢;omega
theorem HE{x:List Rl}{roots:List Rq}:∀(l m:List Nf) (d:List (List Tm)),Dv x roots (l++m) d=match Dv x roots l d with | none=>none | some d'=>Dv x roots m d'
 | [],_,_=>rfl
 |i::l,m,d=>by
  show(match Ei x roots d i with | none=>none | some t=>Dv x roots (l++m) (d++[t]))=(match(match Ei x roots d i with | none=>none | some t=>Dv x roots l (d++[t]))with | none=>none | some d'=>Dv x roots m d');cases Ei x roots d i with
  |none=>rfl
  |some t=>exact HE l m _
theorem Mz{x:List Rl}{roots:List Rq}:∀{l:List Nf} {d d' : List (List Tm)},Dv x roots l d=some d'->d <+: d'
 | [],d,d',h=>by cases h;exact List.prefix_refl _
 |i::l,d,d',h=>by
  unfold Dv at h;split at h
  .cases h
  .exact(Pz _ _).trans (Mz h)
theorem Oj{x:List Rl}{l:List Nf}(h:Dv x roots l []=some d)(k:Nat):Dv x roots (l.take k) []=some (d.take k):=by
 rw[<-Gx k l,HE]at h;cases e:Dv x roots (l.take k) []with
 |none=>rw[e]at h;cases h
 |some f=>
  rw[e]at h;dsimp only at h;have h1:=JP e;have h2:=JP h;have h3:=Mz h
  congr 1
  simp only[Au,Aw,Di]at h1 h2;obtain⟨z,rfl⟩:=h3
  by_cases hk:k<=l.length
  .rw[HW ch,At ch]
  .rw[Ac]at h2
   have:z=[]:=AQ ch
   subst this;rw[BM,At ch]
def L0:Prop:=Df l=some l
theorem j9{l:List Tm}:∀(l2:List Tm),Cs none (l2++l)->l.foldl (fun acc t=>O0 t acc) l2=l2++l:=by
 induction l with
 |nil=>intro l2 _;simp
 |cons t r ih=>
  intro l2 h;have hi:O0 t l2=l2++[t]:=by
   have:∀(m:List Tm) (lo:Option ByteArray),Cs lo (m++t::r)->O0 t m=m++[t]:=by
    intro m
    induction m with
    |nil=>
     intro lo hm;have hc:E6 t.set:=hm.2.1;unfold O0;rw[show My t=t from vP rfl rfl (J9 hc)];rfl
    |cons u m ihm=>
     intro lo hm;have hm:Cs lo (u::(m++t::r)):=hm;have DE:=Cs.low hm.2.2 t B0;unfold O0;rw[Ao DE,ihm _ hm.2.2];rfl
   exact this l2 none h
  rw[D0,hi]
  have:=ih (l2++[t]) (by rw[BB];exact h)
  rw[this,BB];rfl
theorem RH{l:List Tm}(h:Cs none l):Fq l=l:=by
 have:=j9 (l:=l) [] h
 simpa[Fq]using this
theorem Sw{l c:List Tm}(h:Df l=some c):L0 c:=by
 have hs:=Fj h;unfold L0;unfold Df at h⊢;rw[RH hs];split at h
 .cases h
 .rename_i hn;cases h;rw[Aj]
  .congr 1
   rw[List.filter_filter];simp
  .rw[T2,GM]at hn⊢;intro t ht;exact hn t (By.1 ht).1
theorem Qm:L0 []:=rfl
theorem Ns:L0 (RK l):=by
 unfold RK;cases h:Df l with
 |none=>exact Qm
 |some c=>exact Sw h
theorem OE(a b:List Tm)(p:ByteArray):L0 (B1 a b p).1:=by
 unfold B1;split
 .split
  .rename_i h;exact Sw h
  .exact Qm
 .exact Qm
theorem bq{l o:List Tm}(h:jx l=some o):o=l:=by unfold jx at h;split at h<;>cases h;rfl
theorem aT{x:List Rl}{o:List Tm}(h:Ei x roots d i=some o):L0 o:=by
 unfold Ei at h;split at h
 .split at h
  .rw[AW]at h;obtain⟨q,_,rfl⟩:=h;exact Ns _
  .cases h
 .split at h
  .split at h
   .split at h
    .cases h
    .split at h
     .cases h
     .rw[bq h];exact Ns _
   .cases h
  .split at h
   .split at h
    .rw[bq h];exact Ns _
    .cases h
   .split at h
    .split at h
     .split at h
      .split at h
       .cases h;exact OE _ _ _
       .cases h
      .cases h
     .cases h
    .cases h
theorem Oi{x:List Rl}{roots:List Rq}:∀{l:List Nf} {d d' : List (List Tm)},(∀t∈d,L0 t)->Dv x roots l d=some d'->∀t∈d',L0 t
 | [],d,d',hd,h=>by cases h;exact hd
 |i::l,d,d',hd,h=>by
  unfold Dv at h;split at h
  .cases h
  .rename_i o ho;refine Oi (fun t ht=>?_) h;rcases AP.1 ht with ht | ht
   .exact hd t ht
   .rw[Aq.1 ht];exact aT ho
-- tampering
end Go.Eng
