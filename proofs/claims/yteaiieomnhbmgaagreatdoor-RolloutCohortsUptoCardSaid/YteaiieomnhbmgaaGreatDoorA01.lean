/- Lemmas for the claims of this seat, without a condition: part 1 (P1, P2, P3, P4, P5, P6, P7). -/
import Derived.Test.YteaiieomnhbmgaaGreatDoorA00
namespace Go.Eng
variable {a b:ByteArray}{lo:Option ByteArray}{α:Type}(c:UInt8)(p:ByteArray)
def BV(p:Int)(s:Int×Int):Bool:=decide (s.1<=p)&&decide (p<s.2)
def has(s:List (Int×Int))(p:Int):Bool:=decide (0<=p)&&decide (p<1000000)&&s.any (BV p)
abbrev Bu:=List (Int×Int)
def E4(lo:Int):Bu->Prop
 | []=>True
 |y::r=>lo<=y.1/\y.1<y.2/\y.2<=1000000/\E4 (y.2+1) r
abbrev EZ(l:Bu):Prop:=E4 0 l
def XJ(x:Int×Int):Bu->Bu
 | []=>[x]
 |y::r=>if x.2<y.1 then x::y::r else if y.2<x.1 then y::XJ x r else XJ (min x.1 y.1,max x.2 y.2) r
def I2(x:Int×Int):Int×Int:=(max x.1 0,min x.2 1000000)
def canon:Bu->Bu
 | []=>[]
 |x::r=>if(I2 x).1<(I2 x).2 then XJ (I2 x) (canon r)else canon r
def LV(at_:Int):Bu->Bu
 | []=>if at_<1000000 then [(at_,1000000)]else []
 |y::r=>if at_<y.1 then(at_,y.1)::LV y.2 r else LV y.2 r
def ES(s:Bu):Bu:=LV 0 (canon s)
def RB(l:List Bu):Bu:=canon l.flatten
def QY(l:List Bu):Bu:=ES (l.map ES).flatten
def Qw(a b:Bu):Bu:=RB [a,b]
def PS(a b:Bu):Bu:=QY [a,b]
theorem E4.mono{lo Ik : Int}:∀{l:Bu},E4 lo l->Ik<=lo->E4 Ik l
 | [],_,_=>trivial
 |_::_,⟨h1,h2,h3,h4⟩,h=>⟨Int.le_trans h h1,h2,h3,h4⟩
theorem E4.low{lo:Int}:∀{l:Bu},E4 lo l->∀y∈l,lo<=y.1/\y.1<y.2/\y.2<=1000000
 |y::r,⟨h1,h2,h3,h4⟩,z,hz=>by
  rcases Az.1 hz with rfl | hz
  .exact⟨h1,h2,h3⟩
  .have:=h4.low z hz
   exact⟨by omega,this.2.1,this.2.2⟩
theorem D0{p:Int}{s:Int×Int}:BV p s=true↔s.1<=p/\p<s.2:=by simp[BV]
theorem Ni{lo:Int}{l:Bu}(h:E4 lo l){p:Int}(hp:l.any (BV p)=true):lo<=p:=by
 obtain⟨y,hy,h2⟩:=Bd.1 hp
 have:=h.low y hy
 have:=D0.1 h2
 omega
theorem jZ{lo:Int}{l:Bu}(h:E4 lo l){p:Int}(hp:l.any (BV p)=true):p<1000000:=by
 obtain⟨y,hy,h2⟩:=Bd.1 hp
 have:=h.low y hy
 have:=D0.1 h2
 omega
theorem Oi:∀(l:Bu) {lo:Int} {x:Int×Int},E4 lo l->lo<=x.1->x.1<x.2->x.2<=1000000->E4 lo (XJ x l)
 | [],lo,x,_,h1,h2,h3=>⟨h1,h2,h3,trivial⟩
 |y::r,lo,x,⟨g1,g2,g3,g4⟩,h1,h2,h3=>by
  unfold XJ;split
  .exact⟨h1,h2,h3,by omega,g2,g3,g4⟩
  .split
   .exact⟨g1,g2,g3,Oi r g4 ch h2 h3⟩
   .refine Oi r (g4.mono ch) ?_ ?_ ?_<;>dsimp only<;>omega
theorem Pa:∀(l:Bu) {lo:Int} {x:Int×Int} (p:Int),E4 lo l->x.1<x.2->(XJ x l).any (BV p)=(BV p x||l.any (BV p))
 | [],lo,x,p,_,_=>by simp[XJ]
 |y::r,lo,x,p,⟨g1,g2,g3,g4⟩,h2=>by
  unfold XJ;split
  .simp
  .split
   .rw[Ce,Pa r p g4 h2,Ce,<-Bool.or_assoc,<-Bool.or_assoc,Bool.or_comm (BV p y)]
   .rw[Pa r p g4 (by dsimp only;omega),Ce,<-Bool.or_assoc]
    congr 1
    simp only[BV];rw[B1];simp only[Ae,CJ,AA];omega
theorem Cv:∀s:Bu,EZ (canon s)
 | []=>trivial
 |x::r=>by
  unfold canon;split
  .rename_i h;refine Oi _ (Cv r) ?_ h ?_<;>simp only[I2]<;>omega
  .exact Cv r
theorem Ll:∀(s:Bu) (p:Int),(canon s).any (BV p)=has s p
 | [],p=>by simp[has,canon]
 |x::r,p=>by
  have ih:=Ll r p;unfold canon;have hx:BV p (I2 x)=(decide (0<=p)&&decide (p<1000000)&&BV p x):=by
   simp only[BV,I2];rw[B1];simp only[Ae,AA,Int.max_le,Int.lt_min];omega
  split
  .rename_i h;rw[Pa _ p (Cv r) h,ih,hx];simp only[has,Ce];cases decide (0<=p)<;>cases decide (p<1000000)<;>simp
  .rename_i h;rw[ih];simp only[has,Ce]
   have:BV p (I2 x)=false:=by
    rw[AM];intro h3
    have:=D0.1 h3
    omega
   rw[this]at hx;cases h1:decide (0<=p)<;>cases h2:decide (p<1000000)<;>simp_all
theorem Ih{l:Bu}(h:EZ l)(p:Int):has l p=l.any (BV p):=by
 unfold has;cases e:l.any (BV p)with
 |false=>simp
 |true=>have h1:0<=p:=Ni h e;have h2:=jZ h e;simp[h1,h2]
theorem HR(s:Bu)(p:Int):has (canon s) p=has s p:=by
 rw[Ih (Cv s),Ll]
theorem NU:∀{a b:Bu} {lo:Int},E4 lo a->E4 lo b->(∀p,a.any (BV p)=b.any (BV p))->a=b
 | [],[],_,_,_,_=>rfl
 | [],z::s,_,_,⟨g1,g2,g3,g4⟩,h=>by
  have:=h z.1
  rw[Ce,D0.2 ⟨Bs _,g2⟩]at this;simp at this
 |y::r,[],_,⟨g1,g2,g3,g4⟩,_,h=>by
  have:=h y.1
  rw[Ce,D0.2 ⟨Bs _,g2⟩]at this;simp at this
 |y::r,z::s,lo,⟨f1,f2,f3,f4⟩,⟨g1,g2,g3,g4⟩,h=>by
  have below:∀{x:Int×Int} {t:Bu} {p:Int},E4 (x.2+1) t->(x::t).any (BV p)=true->p<=x.2->x.1<=p/\p<x.2:=fun {x t p} ht hp H2=>by
   rw[Ce,CJ]at hp;rcases hp with hp | hp
   .exact D0.1 hp
   .have:=Ni ht hp;omega
  have low:∀{x:Int×Int} {t:Bu} {p:Int},x.1<x.2->E4 (x.2+1) t->(x::t).any (BV p)=true->x.1<=p:=fun {x t p} hx ht hp=>by
   rw[Ce,CJ]at hp;rcases hp with hp | hp
   .exact(D0.1 hp).1
   .have:=Ni ht hp;omega
  have cov:∀{x:Int×Int} {t:Bu} {p:Int},x.1<=p->p<x.2->(x::t).any (BV p)=true:=fun {x t p} h1 h2=>by
   rw[Ce,D0.2 ⟨h1,h2⟩,Bool.true_or]
  have e1:y.1=z.1:=by
   have a1:=low f2 f4 ((h z.1).trans (cov (Bs _) g2));have a2:=low g2 g4 ((h y.1).symm.trans (cov (Bs _) f2));omega
  have e2:y.2=z.2:=by
   rcases Int.lt_trichotomy y.2 z.2 with hl | he | hl
   .have:=below f4 ((h y.2).trans (cov ch hl)) (Bs _);omega
   .exact he
   .have:=below g4 ((h z.2).symm.trans (cov ch hl)) (Bs _);omega
  have e:y=z:=Prod.ext e1 e2;subst e
  congr 1
  refine NU f4 g4 fun p=>?_;have hp:=h p;simp only[Ce]at hp;cases hs:BV p y with
  |false=>rw[hs,MB,MB]at hp;exact hp
  |true =>
   have:=D0.1 hs
   have n:∀{t:Bu},E4 (y.2+1) t->t.any (BV p)=false:=fun {t} ht=>by
    rw[AM];intro hx;have:=Ni ht hx;omega
   rw[n f4,n g4]
theorem H9{a b:Bu}(ha:EZ a)(hb:EZ b)(h:∀p,has a p=has b p):a=b :=
 NU ha hb fun p=>by rw[<-Ih ha,<-Ih hb,h]
theorem TX{a s:Bu}(ha:EZ a)(h:∀p,has a p=has s p):a=canon s :=
 H9 ha (Cv s) fun p=>by rw[h,HR]
theorem JV{a:Bu}(ha:EZ a):canon a=a:=(TX ha fun _=>rfl).symm
theorem MU{s:Bu}{p:Int}(h:has s p=true):0<=p/\p<1000000:=by
 unfold has at h;simp only[Ae,AA]at h;exact h.1
def Mx(p:Int):Bool:=decide (0<=p)&&decide (p<1000000)
theorem LW:∀(l:Bu) {at_ lo:Int},0<=at_->E4 lo l->lo<=at_+1->at_<=lo->E4 at_ (LV at_ l)/\∀p,(LV at_ l).any (BV p)=(decide (at_<=p)&&decide (p<1000000)&&!l.any (BV p))
 | [],at_,lo,h0,_,h1,h2=>by
  unfold LV;split
  .exact⟨⟨Bs _,by dsimp only;omega,Bs _,trivial⟩,fun p=>by simp[BV]⟩
  .refine⟨trivial,fun p=>?_⟩
   have:(decide (at_<=p)&&decide (p<1000000))=false:=by
    rw[AM];simp only[WY,Ae,AA];omega
   simp[this]
 |y::r,at_,lo,h0,⟨g1,g2,g3,g4⟩,h1,h2=>by
  have ih:=LW r (at_:=y.2) ch g4 (Bs _) ch;have key:∀p,(decide (at_<=p)&&decide (p<y.1)||(LV y.2 r).any (BV p))=(decide (at_<=p)&&decide (p<1000000)&&!(y::r).any (BV p)):=fun p=>by
   rw[ih.2,Ce];cases hr:r.any (BV p)with
   |true =>
    have:=Ni g4 hr
    have a:decide (p<y.1)=false:=AB ch;simp[a]
   |false =>
    rw[B1];simp only[BV,Ae,CJ,AA,CE,Bool.or_false,Md,Hq,Bool.not_false,and_true];omega
  unfold LV;split
  .rename_i h;refine⟨⟨Bs _,h,by dsimp only;omega,ih.1 |> fun c=>?_⟩,fun p=>?_⟩
   .dsimp only;cases e:LV y.2 r with
    |nil=>trivial
    |cons z s =>
     rw[e]at c;exact⟨by have:=c.1;omega,c.2⟩
   .rw[Ce,<-key];rfl
  .rename_i h;refine⟨ih.1.mono ch,fun p=>?_⟩;rw[<-key]
   have:(decide (at_<=p)&&decide (p<y.1))=false:=by
    rw[AM];simp only[WY,Ae,AA];omega
   rw[this,MB]
theorem HN(s:Bu):EZ (ES s):=by
 unfold ES;exact(LW _ (Bs _) (Cv s) ch (Bs _)).1
theorem FV(s:Bu)(p:Int):has (ES s) p=(Mx p&&!has s p):=by
 rw[Ih (HN s)];unfold ES;rw[(LW _ (Bs _) (Cv s) ch (Bs _)).2,Ll];rfl
theorem cy(a b:Bu)(p:Int):has (a++b) p=(has a p||has b p):=by
 simp only[has,H5];cases decide (0<=p)<;>cases decide (p<1000000)<;>simp
theorem MT:∀(l:List Bu) (p:Int),has l.flatten p=l.any fun s=>has s p
 | [],p=>by simp[has]
 |s::l,p=>by rw[BB,cy,MT l p,Ce]
theorem Uo(l:List Bu)(p:Int):has (RB l) p=l.any fun s=>has s p:=by
 unfold RB;rw[HR,MT]
theorem YM(l:List Bu):EZ (RB l):=Cv _
theorem Ys(l:List Bu):EZ (QY l):=HN _
theorem Un(l:List Bu)(p:Int):has (QY l) p=(Mx p&&l.all fun s=>has s p):=by
 unfold QY;rw[FV,MT,List.any_map];cases h:Mx p with
 |false=>rfl
 |true =>
  rw[EY,EY,List.not_any_eq_all_not]
  congr 1
  funext s
  simp[FV,h]
theorem bj(a b:Bu):EZ (Qw a b):=Cv _
theorem Se(a b:Bu):EZ (PS a b):=HN _
theorem g8(a b:Bu)(p:Int):has (Qw a b) p=(has a p||has b p):=by
 unfold Qw;rw[Uo];simp
theorem WL(a b:Bu)(p:Int):has (PS a b) p=(has a p&&has b p):=by
 unfold PS;rw[Un];simp only[List.all_cons,List.all_nil,Bool.and_true];cases h:has a p with
 |false=>simp
 |true=>have:=MU h;simp[Mx,this]
theorem cK(s:Bu):PS s s=canon s:=H9 (Se _ _) (Cv _) fun p=>by rw[WL,HR,Bool.and_self]
theorem VI{s:Bu}:canon s=[]↔∀p,has s p=false:=by
 constructor
 .intro h p;rw[<-HR,h];simp[has]
 .intro h;exact H9 (Cv s) (b:=[]) trivial fun p=>by rw[HR,h p];simp[has]
theorem Rd{s:Bu}(hs:EZ s):s=[]↔∀p,has s p=false:=by
 rw[<-VI,JV hs]
def jG(l:List Bu)(p:Int):Nat:=l.countP fun s=>has s p
theorem TW:∀{l:Bu} {lo:Int},E4 lo l->lo<=1000000->(l.length:Int)<=1000000-lo
 | [],lo,_,h=>by simp;omega
 |y::r,lo,⟨g1,g2,g3,g4⟩,h=>by
  by_cases h3:y.2+1<=1000000
  .have:=TW g4 h3
   simp only[Ak];omega
  .cases r with
   |nil=>simp;omega
   |cons z s=>have:=g4.1;have:=g4.2.1;have:=g4.2.2.1;omega
theorem IF{l:Bu}(h:EZ l):l.length<=1000000:=by have:=TW h ch;omega
structure Ver where
 (a b c:Int)
variable (v:Ver)
structure Rq where
 path:ByteArray
 set:List (Int×Int)
variable {roots:List Rq}(q:Rq)
structure Rl where
 path:ByteArray
 ver:Ver
 reqs:List Rq
 (arch ifc cert:ByteArray)
 yanked:Bool
variable (x:List Rl)(r:Rl)
structure Sl where
 path:ByteArray
 ver:Ver
variable {s:List Sl}{y:Sl}
structure Tm where
 path:ByteArray
 absent:Bool
 set:List (Int×Int)
variable {d:List (List Tm)}(l:List Tm)(u t:Tm)
structure Nf where
 kind:Int
 path:ByteArray
 (place number left right:Int)
variable {i:Nf}
structure Sk where
 path:ByteArray
 (place inf:Int)
structure An where
 found:Bool
 sel:List Sl
 infs:List Nf
 skips:List Sk
instance:DecidableEq Ver:=fun x y=>decidable_of_iff (x.a=y.a/\x.b=y.b/\x.c=y.c) ⟨fun⟨h1,h2,h3⟩=>by cases x;cases y;simp_all,fun h=>by subst h;exact⟨rfl,rfl,rfl⟩⟩
instance:DecidableEq Sl:=fun x y=>decidable_of_iff (x.path=y.path/\x.ver=y.ver) ⟨fun⟨h1,h2⟩=>by cases x;cases y;simp_all,fun h=>by subst h;exact⟨rfl,rfl⟩⟩
theorem ux{x y:Tm}(h1:x.path=y.path)(h2:x.absent=y.absent)(h3:x.set=y.set):x=y:=by cases x;cases y;simp_all
def okPart(n:Int):Prop:=0<=n/\n<=999
instance (n:Int):Decidable (okPart n):=by unfold okPart;infer_instance
def Ct:Bool:=decide (okPart v.a)&&decide (okPart v.b)&&decide (okPart v.c)
def place:Int:=1000*v.b+v.c
def plc:Int:=if Ct v then place v else 0
def BY(s:List Sl)(p:ByteArray):Option Sl:=s.find? fun x=>decide (x.path=p)
def G7(s:List Sl):Bool :=
 match s.find? (fun x=>decide (x.path=t.path))with
 |none=>t.absent
 |some x=>Ct x.ver&&has t.set (place x.ver)
def CR(s:List Sl)(p:ByteArray):Bool:=s.any fun x=>decide (x.path=p)
def Bl(s:List Sl):Bool:=l.all fun t=>G7 t s
def Da(s:List Sl):Bool:=Bl l s&&!l.any fun t=>!CR s t.path
def IJ:List UInt8->List UInt8->Bool
 | [],[]=>false
 | [],_::_=>true
 |_::_,[]=>false
 |a::x,b::y=>decide (a<b)||(decide (a=b)&&IJ x y)
def Ea(a b:ByteArray):Bool:=IJ a.data.toList b.data.toList
theorem Sh:∀x,IJ x x=false
 | []=>rfl
 |a::x=>by
  unfold IJ;simp[Sh x]
theorem OD:∀{x y z},IJ x y=true->IJ y z=true->IJ x z=true
 | [],[],_,h,_=>by simp[IJ]at h
 | [],_::_,[],_,h=>by simp[IJ]at h
 | [],_::_,_::_,_,_=>rfl
 |_::_,[],_,h,_=>by simp[IJ]at h
 |_::_,_::_,[],_,h=>by simp[IJ]at h
 |a::x,b::y,c::z,h1,h2=>by
  unfold IJ at *
  simp only[CJ,Ae,AA]at *
  rcases h1 with h1 | ⟨rfl,h1⟩
  .rcases h2 with h2 | ⟨rfl,h2⟩
   .exact .inl (UInt8.lt_trans h1 h2)
   .exact .inl h1
  .rcases h2 with h2 | ⟨rfl,h2⟩
   .exact .inl h2
   .exact .inr ⟨rfl,OD h1 h2⟩
theorem UJ:∀{x y},IJ x y=false->IJ y x=false->x=y
 | [],[],_,_=>rfl
 | [],_::_,h,_=>by simp[IJ]at h
 |_::_,[],_,h=>by simp[IJ]at h
 |a::x,b::y,h1,h2=>by
  unfold IJ at *
  simp only[Bool.or_eq_false_iff,Md,Hq]at *
  have e:a=b:=by
   have l1:=UInt8.not_lt.1 h1.1;have l2:=UInt8.not_lt.1 h2.1;exact UInt8.le_antisymm l2 l1
  subst e
  have:=UJ (x:=x) (y:=y) (by simpa using h1.2) (by simpa using h2.2)
  rw[this]
theorem Aac(h:a.data.toList=b.data.toList):a=b:=by
 cases a;cases b;simp only[ByteArray.mk.injEq];exact Jf.1 h
theorem Df(a:ByteArray):Ea a a=false:=Sh _
theorem D2{c:ByteArray}(h:Ea a b=true)(k:Ea b c=true):Ea a c=true:=OD h k
theorem H8(h:Ea a b=false)(k:Ea b a=false):a=b:=Aac (UJ h k)
theorem IE(h:Ea a b=true):a≠b:=fun e=>by subst e;rw[Df]at h;cases h
theorem Nk(h:Ea a b=true):Ea b a=false:=by
 rw[AM];intro k;have:=D2 h k;rw[Df]at this;cases this
def Mh:Tm:=⟨t.path,t.absent,canon t.set⟩
def Hm:Tm:=⟨u.path,u.absent&&t.absent,PS u.set t.set⟩
def Oz(t:Tm):List Tm->List Tm
 | []=>[Mh t]
 |u::r=>if Ea u.path t.path then u::Oz t r else if u.path=t.path then Hm u t::r else Mh t::u::r
def Fj:List Tm:=l.foldl (fun acc t=>Oz t acc) []
def IM:Bool:=!t.absent&&t.set.isEmpty
def GX:Bool:=t.absent&&decide (t.set=[(0,1000000)])
def C3:Option (List Tm):=if(Fj l).any IM then none else some ((Fj l).filter fun t=>!GX t)
def Rf:List Tm:=(C3 l).getD []
def DV:Tm:=⟨q.path,true,ES q.set⟩
def Kg:List Tm:=Rf [DV q]
def EA(path:ByteArray)(pl:Int)(q:Rq):List Tm:=Rf [⟨path,false,[(pl,pl+1)]⟩,DV q]
def IA(path:ByteArray)(vY:Bu):List Tm:=Rf [⟨path,false,ES vY⟩]
def Dx(p:ByteArray):Option Tm:=l.find? fun t=>decide (t.path=p)
def F1(p:ByteArray):List Tm:=l.filter fun t=>!decide (t.path=p)
def Dt(a b:Tm):Tm:=⟨a.path,a.absent||b.absent,Qw a.set b.set⟩
def FD(p:ByteArray):Option (Tm×List Tm):=match C3 l with
 |none=>none
 |some c=>match Dx c p with
  |none=>none
  |some t=>some (t,F1 c p)
def BX(a b:List Tm)(p:ByteArray):List Tm×Int :=
 match FD a p,FD b p with
 |some (t,r),some (u,m)=>match C3 (r++m++[Dt t u])with
  |some o=>(o,0)
  |none=>([],8)
 |_,_=>([],1)
def Co(lo:Option ByteArray):List Tm->Prop
 | []=>True
 |t::r=>(∀p,lo=some p->Ea p t.path=true)/\EZ t.set/\Co (some t.path) r
theorem Co.weak:∀{l:List Tm},Co lo l->Co none l
 | [],_=>trivial
 |_::_,⟨_,h2,h3⟩=>⟨fun _ h=>(by cases h),h2,h3⟩
theorem Co.low{p:ByteArray}:∀{l:List Tm},Co (some p) l->∀t∈l,Ea p t.path=true
 |t::r,⟨h1,h2,h3⟩,u,hu=>by
  rcases Az.1 hu with rfl | hu
  .exact h1 p rfl
  .exact D2 (h1 p rfl) (h3.low u hu)
theorem Co.canon{lo:Option ByteArray}:∀{l:List Tm},Co lo l->∀t∈l,EZ t.set
 |t::r,⟨h1,h2,h3⟩,u,hu=>by
  rcases Az.1 hu with rfl | hu
  .exact h2
  .exact h3.canon u hu
theorem Co.mono{p q:ByteArray}:∀{l:List Tm},Co (some p) l->Ea q p=true->Co (some q) l
 | [],_,_=>trivial
 |t::r,⟨h1,h2,h3⟩,h=>⟨fun _ e=>by cases e;exact D2 h (h1 p rfl),h2,h3⟩
theorem MW:∀{l:List Tm} {lo:Option ByteArray} (t:Tm),Co lo l->(∀p,lo=some p->Ea p t.path=true)->Co lo (Oz t l)
 | [],lo,t,_,h=>⟨h,Cv _,trivial⟩
 |u::r,lo,t,⟨h1,h2,h3⟩,h=>by
  unfold Oz;split
  .rename_i Dz;exact⟨h1,h2,MW t h3 fun p e=>by cases e;exact Dz⟩
  .rename_i Dz;split
   .rename_i he;exact⟨h1,Se _ _,h3⟩
   .rename_i he;refine⟨h,Cv _,fun p e=>?_,h2,h3⟩;cases e
    have:Ea u.path t.path=false:=by simpa using Dz
    cases hb:Ea t.path u.path with
    |true=>exact hb
    |false=>exact absurd (H8 this hb) he
theorem PI:∀(l acc:List Tm),Co none acc->Co none (l.foldl (fun acc t=>Oz t acc) acc)
 | [],_,h=>h
 |t::l,acc,h=>PI l _ (MW t h fun _ e=>by cases e)
theorem EF:Co none (Fj l):=PI l [] trivial
theorem CX(r:List Tm)(p:ByteArray):Dx (t::r) p=if t.path=p then some t else Dx r p:=by
 unfold Dx;rw[E8];by_cases h:t.path=p<;>simp[h]
theorem Ib{p q:ByteArray}{l:List Tm}(h:Co (some p) l)(hq:Ea p q=false):Dx l q=none:=by
 unfold Dx;rw[DO];intro t ht
 have:=h.low t ht
 simp only[AA];intro e;subst e;rw[hq]at this;cases this
def OJ(o:Option Tm)(t:Tm):Tm:=match o with | none=>Mh t | some u=>Hm u t
theorem Rj(o:Option Tm)(t:Tm)(h:∀u,o=some u->u.path=t.path):(OJ o t).path=t.path:=by
 cases o with
 |none=>rfl
 |some u=>exact h u rfl
theorem HB{l:List Tm}{p:ByteArray}{u:Tm}(h:Dx l p=some u):u.path=p:=by
 have:=DJ h;simpa using this
theorem Fs{l:List Tm}{p:ByteArray}{u:Tm}(h:Dx l p=some u):u∈l:=BE h
theorem Ue:∀{l:List Tm} {lo:Option ByteArray} (t:Tm) (p:ByteArray),Co lo l->Dx (Oz t l) p=if t.path=p then some (OJ (Dx l p) t)else Dx l p
 | [],lo,t,p,_=>by
  unfold Oz;rw[CX];show(if t.path=p then some (Mh t)else none)=_
  by_cases h:t.path=p<;>simp[h,Dx,OJ]
 |u::r,lo,t,p,⟨h1,h2,h3⟩=>by
  unfold Oz;split
  .rename_i Dz;rw[CX,CX,Ue t p h3]
   by_cases hu:u.path=p
   .have:¬t.path=p:=fun e=>IE Dz (hu.trans e.symm)
    simp[hu,this]
   .simp[hu]
  .rename_i Dz;split
   .rename_i he;rw[CX,CX];show(if u.path=p then some (Hm u t)else _)=_
    by_cases hu:u.path=p
    .simp[hu,he▸hu,OJ]
    .have:¬t.path=p:=fun e=>hu (he.trans e)
     simp[hu,this]
   .rename_i he;rw[CX];show(if t.path=p then some (Mh t)else _)=_
    by_cases ht:t.path=p
    .have hn:Dx (u::r) p=none:=by
      rw[CX];have hu:¬u.path=p:=fun e=>he (e.trans ht.symm);simp only[hu,Gl];exact Ib h3 (by subst ht;simpa using Dz)
     simp[ht,hn,OJ]
    .simp[ht]
def KM(o:Option Tm)(t:Tm):Option Tm:=if t.path=p then some (OJ o t)else o
theorem RS(p:ByteArray):∀(l acc:List Tm),Co none acc->Dx (l.foldl (fun acc t=>Oz t acc) acc) p=l.foldl (KM p) (Dx acc p)
 | [],_,_=>rfl
 |t::l,acc,h=>by
  rw[E9,RS p l _ (MW t h fun _ e=>by cases e),Ue t p h];rfl
theorem JE(p:ByteArray):Dx (Fj l) p=l.foldl (KM p) none:=RS p l [] trivial
theorem Na:∀{a b:List Tm} {lo:Option ByteArray},Co lo a->Co lo b->(∀p,Dx a p=Dx b p)->a=b
 | [],[],_,_,_,_=>rfl
 | [],z::s,_,_,_,h=>by have:=h z.path;rw[CX,Al rfl]at this;cases this
 |z::s,[],_,_,_,h=>by have:=h z.path;rw[CX,Al rfl]at this;cases this
 |y::r,z::s,lo,⟨f1,f2,f3⟩,⟨g1,g2,g3⟩,h=>by
  have e:y=z:=by
   have a1:=h y.path;have a2:=h z.path;rw[CX,Al rfl,CX]at a1;rw[CX,CX z,Al rfl]at a2
   by_cases e:z.path=y.path
   .rw[Al e]at a1;exact CK a1
   .rw[Ai e]at a1;rw[Ai (fun c=>e c.symm)]at a2;have b1:=Co.low g3 y (Fs a1.symm);have b2:=Co.low f3 z (Fs a2)
    have:=D2 b1 b2
    rw[Df]at this;cases this
  subst e
  congr 1
  refine Na f3 g3 fun p=>?_;have hp:=h p;rw[CX,CX]at hp
  by_cases e:y.path=p
  .subst e;rw[Ib f3 (Df _),Ib g3 (Df _)]
  .simpa[e]using hp
theorem Co.filter(q:Tm->Bool):∀{l:List Tm} {lo:Option ByteArray},Co lo l->Co lo (l.filter q)
 | [],_,_=>trivial
 |t::r,lo,⟨h1,h2,h3⟩=>by
  have ih:=Co.filter q h3;rw[Ef];split
  .exact⟨h1,h2,ih⟩
  .cases lo with
   |none=>exact ih.weak
   |some p=>exact ih.mono (h1 p rfl)
theorem FS{l:List Tm}{t:Tm}(h:Co lo l):t∈l↔Dx l t.path=some t:=by
 constructor
 .induction l generalizing lo with
  |nil=>intro h;cases h
  |cons u r ih =>
   intro ht;rw[CX];rcases Az.1 ht with rfl | ht
   .rw[Al rfl]
   .have:=Co.low h.2.2 t ht
    rw[Ai (IE this)];exact ih h.2.2 ht
 .exact Fs
def Du(o:Option Sl):Bool:=match o with | none=>t.absent | some x=>Ct x.ver&&has t.set (place x.ver)
theorem lD(s:List Sl):G7 t s=Du t (BY s t.path):=by
 unfold G7 Du BY;rfl
theorem MO{p:ByteArray}{x:Sl}(h:BY s p=some x):x.path=p:=by
 have:=DJ h;simpa using this
theorem JY{p:ByteArray}{x:Sl}(h:BY s p=some x):x∈s:=BE h
theorem KE{p:ByteArray}:CR s p=(BY s p).isSome:=by
 unfold CR BY;rw[B1,List.find?_isSome,Bd]
theorem cE(o:Option Sl):Du (Mh t) o=Du t o:=by
 unfold Du Mh;cases o<;>simp[HR]
theorem Z0(o:Option Sl):Du (Hm u t) o=(Du u o&&Du t o):=by
 unfold Du Hm;cases o with
 |none=>rfl
 |some x=>simp only[WL];cases Ct x.ver<;>simp
theorem N3(o:Option Sl):Du (Dt u t) o=(Du u o||Du t o):=by
 unfold Du Dt;cases o with
 |none=>rfl
 |some x=>simp only[g8];cases Ct x.ver<;>simp
def VD(o:Option Sl)(l:List Tm):Bool:=l.all fun t=>!decide (t.path=p)||Du t o
theorem KD(p:ByteArray)(o:Option Sl):∀(l:List Tm) (a:Option Tm),(∀u,a=some u->u.path=p) ->
  (l.foldl (KM p) a=none↔a=none/\l.all (fun t=>!decide (t.path=p))=true)/\(∀u,l.foldl (KM p) a=some u->u.path=p/\Du u o=((match a with | none=>true | some b=>Du b o)&&VD p o l))
 | [],a,ha=>by
  refine⟨by simp,fun u h=>?_⟩;have h:a=some u:=h;subst h;exact⟨ha u rfl,by simp[VD]⟩
 |t::l,a,ha=>by
  rw[E9]
  by_cases e:t.path=p
  .have hs:KM p a t=some (OJ a t):=by unfold KM;rw[Al e]
   rw[hs];have ih:=KD p o l (some (OJ a t)) (fun u h=>by cases h;rw[Rj a t fun u h=>(ha u h).trans e.symm];exact e);refine⟨⟨fun h=>?_,fun h=>?_⟩,fun u h=>?_⟩
   .have:=ih.1.1 h;cases this.1
   .simp[e]at h
   .obtain⟨h1,h2⟩:=ih.2 u h;refine⟨h1,?_⟩;rw[h2]
    have:VD p o (t::l)=(Du t o&&VD p o l):=by simp[VD,e]
    rw[this];cases a with
    |none=>simp[OJ,cE]
    |some b=>simp[OJ,Z0,Bool.and_assoc]
  .have hs:KM p a t=a:=by unfold KM;rw[Ai e]
   rw[hs];have ih:=KD p o l a ha
   have:VD p o (t::l)=VD p o l:=by simp[VD,e]
   rw[this];refine⟨?_,ih.2⟩;rw[ih.1];simp[e]
theorem BJ{l:List Tm}:Bl l s=true↔∀t∈l,Du t (BY s t.path)=true:=by
 unfold Bl;rw[Bc];simp only[lD]
theorem Ms(s:List Sl):Bl (Fj l) s=Bl l s:=by
 rw[B1,BJ,BJ];constructor
 .intro h t ht
  have:=KD t.path (BY s t.path) l none (fun _ e=>by cases e)
  rw[<-JE]at this;cases e:Dx (Fj l) t.path with
  |none =>
   have:=(this.1.1 e).2
   rw[Bc]at this
   have:=this t ht
   simp at this
  |some u =>
   obtain⟨h1,h2⟩:=this.2 u e;have hu:=h u (Fs e);rw[h1,h2]at hu;simp only[EY,VD,Bc]at hu
   have:=hu t ht
   simpa using this
 .intro h u hu;have e:=(FS (EF l)).1 hu
  have:=KD u.path (BY s u.path) l none (fun _ e=>by cases e)
  rw[<-JE]at this;obtain⟨h1,h2⟩:=this.2 u e;rw[h2];simp only[EY,VD,Bc];intro t ht
  by_cases e:t.path=u.path
  .have:=h t ht;rw[e]at this;simp[this]
  .simp[e]
theorem cV{t:Tm}(h:IM t=true)(o:Option Sl):Du t o=false:=by
 unfold IM at h;simp only[Ae,CE,Hk]at h;unfold Du;cases o with
 |none=>exact h.1
 |some x=>dsimp only;rw[h.2];simp[has]
def Gu(s:List Sl):Prop:=∀x∈s,Ct x.ver=true
theorem Jd{v:Ver}(h:Ct v=true):0<=v.a/\v.a<=999/\0<=v.b/\v.b<=999/\0<=v.c/\v.c<=999:=by
 unfold Ct at h;simp only[Ae]at h;obtain⟨⟨a,b⟩,c⟩:=h;obtain⟨a1,a2⟩:=AU a;obtain⟨b1,b2⟩:=AU b;obtain⟨c1,c2⟩:=AU c;exact⟨a1,a2,b1,b2,c1,c2⟩
theorem Ke{v:Ver}(h:Ct v=true):0<=place v/\place v<1000000:=by
 have:=Jd h;unfold place;omega
theorem VE{t:Tm}(h:GX t=true)(hs:Gu s):Du t (BY s t.path)=true:=by
 unfold GX at h;simp only[Ae,AA]at h;unfold Du;cases e:BY s t.path with
 |none=>exact h.1
 |some x =>
  have:=hs x (JY e)
  have hp:=Ke this;dsimp only;rw[this,h.2];simp[has,BV,hp]
theorem Dk{l:List Tm}(hs:Gu s):Bl l s=(match C3 l with | none=>false | some c=>Bl c s):=by
 unfold C3;split
 .rename_i h;split at h
  .rename_i hn;rw[<-Ms,AM];intro hv;rw[BJ]at hv;obtain⟨t,ht,hn⟩:=Bd.1 hn
   have:=hv t ht
   rw[cV hn]at this;cases this
  .cases h
 .rename_i c h;split at h
  .cases h
  .rename_i hn;cases h;rw[<-Ms,B1,BJ,BJ];constructor
   .intro h t ht;exact h t (Bv.1 ht).1
   .intro h t ht;cases ha:GX t with
    |true=>exact VE ha hs
    |false=>exact h t (Bv.2 ⟨ht,by simp[ha]⟩)
theorem Hz(a b:List Tm)(s:List Sl):Bl (a++b) s=(Bl a s&&Bl b s):=by unfold Bl;rw[List.all_append]
theorem Fa{l c:List Tm}(h:C3 l=some c):Co none c:=by
 unfold C3 at h;split at h
 .cases h
 .cases h;exact Co.filter _ (EF l)
theorem F0{l r:List Tm}{p:ByteArray}{t:Tm}(hs:Gu s)(h:FD l p=some (t,r)):Bl l s=(Du t (BY s p)&&Bl r s)/\t.path=p:=by
 unfold FD at h;cases hc:C3 l with
 |none=>rw[hc]at h;cases h
 |some c =>
  rw[hc]at h;dsimp only at h;cases hf:Dx c p with
  |none=>rw[hf]at h;cases h
  |some u =>
   rw[hf]at h;cases h;have hp:=HB hf;refine⟨?_,hp⟩;rw[Dk hs,hc];dsimp only;rw[B1,Ae,BJ,BJ];constructor
   .intro h
    have:=h t (Fs hf)
    rw[hp]at this;exact⟨this,fun v hv=>h v (Bv.1 hv).1⟩
   .intro⟨h1,h2⟩ v hv
    by_cases e:v.path=p
    .have:=(FS (Fa hc)).1 hv
     rw[e,hf]at this;cases this;rw[e];exact h1
    .exact h2 v (Bv.2 ⟨hv,by simp[e]⟩)
theorem Vb{a b o:List Tm}{p:ByteArray}(hs:Gu s)(h:BX a b p=(o,0))(hv:Bl o s=true):Bl a s=true\/Bl b s=true:=by
 unfold BX at h;cases h1:FD a p with
 |none=>rw[h1]at h;simp at h
 |some x =>
  cases h2:FD b p with
  |none=>rw[h1,h2]at h;simp at h
  |some y =>
   obtain⟨t,r⟩:=x;obtain⟨u,m⟩:=y;rw[h1,h2]at h;dsimp only at h;cases hc:C3 (r++m++[Dt t u])with
   |none=>rw[hc]at h;simp at h
   |some c =>
    rw[hc]at h
    have:c=o:=by simpa using h
    subst this;have e:=Dk (l:=r++m++[Dt t u]) hs;rw[hc]at e;dsimp only at e;rw[hv,Hz,Hz]at e;simp only[Ae]at e;obtain⟨⟨e1,e2⟩,e3⟩:=e;obtain⟨va,pa⟩:=F0 hs h1;obtain⟨vb,pb⟩:=F0 hs h2;have e3:=BJ.1 e3 _ (Ap.2 rfl)
    have:(Dt t u).path=p:=pa
    rw[this,N3,CJ]at e3;rcases e3 with e3 | e3
    .exact .inl (by rw[va,e3,e1];rfl)
    .exact .inr (by rw[vb,e3,e2];rfl)
theorem Rg{l:List Tm}(hs:Gu s)(Dy:Rf l≠[]):Bl (Rf l) s=Bl l s:=by
 have:=Dk (l:=l) hs
 unfold Rf at *
 cases h:C3 l with
 |none=>rw[h]at Dy;exact absurd rfl Dy
 |some c=>rw[h]at this;exact this.symm
-- paths
def HF:Bool:=decide (97<=c)&&decide (c<=122)
def XW:Bool:=decide (65<=c)&&decide (c<=90)
def Fi:Bool:=decide (48<=c)&&decide (c<=57)
def Ng:Bool:=HF c||XW c||Fi c||decide (c=95)
def lZ:List UInt8:=[32,97,110,100,32,97,110,121,32,97,115,32,98,111,111,108,32,100,101,112,114,101,99,97,116,101,100,32,101,108,115,101,32,101,120,112,111,114,116,32,102,97,108,115,101,32,102,110,32,102,111,108,100,32,102,114,111,109,32,105,102,32,105,109,112,111,114,116,32,105,110,32,105,110,116,32,108,101,110,103,116,104,32,108,101,116,32,108,105,115,116,32,109,97,116,99,104,32,109,111,100,117,108,101,32,110,111,110,101,32,110,111,116,32,111,114,32,116,101,120,116,32,116,104,101,110,32,116,114,117,101,32,116,121,112,101,32,117,115,101,32]
def jh:List UInt8->List UInt8->Bool
 | [],_=>true
 |_::_,[]=>false
 |a::x,b::y=>decide (a=b)&&jh x y
def zP(x:List UInt8):List UInt8->Bool
 | []=>jh x []
 |b::y=>jh x (b::y)||zP x y
def cM(s:List UInt8):Bool:=zP (32::(s++[32])) lZ
def IS(s:List UInt8):Bool:=!s.isEmpty&&decide (s.length<=32)&&HF (s.headD 0)&&s.all Ng&&!cM s
def Oc(s:List UInt8):Bool:=IS s&&s.all fun c=>HF c||Fi c
def G2(s:List UInt8):Int:=s.foldl (fun n c=>10*n+((c.toNat:Int)-48)) 0
def Mz(s:List UInt8):Option Int:=match s with
 |c::r=>if c=118 then(if r.isEmpty||decide (3<r.length)||(decide (1<r.length)&&decide (r.headD 0=48))||!r.all Fi then none else some (G2 r))else none
 | []=>none
def FC(c:UInt8):List UInt8->List (List UInt8)
 | []=>[[]]
 |b::r=>if b=c then []::FC c r else match FC c r with
  | []=>[[b]]
  |x::l=>(b::x)::l
def cQ(p:List UInt8):Option Int:=match Mz ((FC 47 p).getLastD [])with
 |none=>none
 |some n=>if 64<p.length||(FC 47 p).length<2 then none else if(FC 47 p).all Oc then some n else none
def CB:Option Int:=cQ p.data.toList
-- indexes
def IQ(before:Option ByteArray)(q:Rq):Int :=
 if(CB q.path).isNone then 4 else if q.set.isEmpty||!decide (q.set=canon q.set)||(match before with | some b=>!Ea b q.path | none=>false)then 1 else 0
def Ga(before:Option ByteArray):List Rq->Int
 | []=>0
 |q::r=>if IQ before q=0 then Ga (some q.path) r else IQ before q
def BI(l:List Rq):Int:=if 16<l.length then 7 else Ga none l
def Fg(s:ByteArray):Bool:=decide (s.size=0)||decide (s.size=32)
def DS:Int:=match CB r.path with
 |none=>4
 |some m=>if !Ct r.ver||!decide (r.ver.a=m)then 2 else if BI r.reqs≠0 then BI r.reqs else if Fg r.arch&&Fg r.ifc&&Fg r.cert then 0 else 1
def GZ(a b:Int):Int:=if a<b then -1 else if b<a then 1 else 0
def KR(a b:ByteArray):Int:=if Ea a b then -1 else if Ea b a then 1 else 0
def Pn(a b:Ver):Int:=if GZ a.a b.a≠0 then GZ a.a b.a else if GZ a.b b.b≠0 then GZ a.b b.b else GZ a.c b.c
def Ds(a b:Rl):Int:=if KR a.path b.path≠0 then KR a.path b.path else Pn a.ver b.ver
def Gc:Sl:=⟨r.path,r.ver⟩
def DL(before:Option Rl):List Rl->Int
 | []=>0
 |r::l=>if DS r≠0 then DS r else match before with
  |none=>DL (some r) l
  |some b=>if Gc b=Gc r then 5 else if 0<Ds b r then 1 else DL (some r) l
def A4(l:List Rl):Int:=if 256<l.length then 7 else DL none l
def Db(y:Sl):Option Rl:=if A4 x≠0 then none else x.find? fun r=>decide (Gc r=y)
def KY(p:ByteArray):List Rl:=if A4 x≠0 then []else x.filter fun r=>decide (r.path=p)
def Ch(p:ByteArray):Bu:=canon (((KY x p).filter fun r=>!r.yanked).map fun r=>(plc r.ver,plc r.ver+1))
def Ux(before:Option ByteArray):List Sl->Bool
 | []=>true
 |y::r=>(match before with |some b=>Ea b y.path |none=>true)&&Ux (some y.path) r
def EW(s:List Sl):Bool:=Ux none s
-- solutions
-- derivations
def Qi(p:ByteArray)(pl:Int):Option Rl:=x.find? fun r=>decide (r.path=p)&&decide (plc r.ver=pl)
def mt:ByteArray:=⟨#[]⟩
def Kb(l:List α)(i:Int):Option α:=if i<0 then none else l[i.toNat]?
def iE:Option (List Tm):=if l.isEmpty then none else some l
def Ec(roots:List Rq)(d:List (List Tm))(i:Nf):Option (List Tm) :=
 if i.kind=0 then
  if i.path=mt/\i.place=0/\i.left=0/\i.right=0 then(Kb roots i.number).map Kg else none
 else if i.kind=1 then
  if i.left=0/\i.right=0 then match Qi x i.path i.place with
   |none=>none
   |some r=>match Kb r.reqs i.number with
    |none=>none
    |some q=>iE (EA i.path i.place q)
  else none
 else if i.kind=2 then
  if i.place=0/\i.number=0/\i.left=0/\i.right=0 then iE (IA i.path (Ch x i.path))else none
 else if i.kind=3 then
  if i.place=0/\i.number=0 then match Kb d i.left,Kb d i.right with
   |some a,some b=>if(BX a b i.path).2=0 then some (BX a b i.path).1 else none
   |_,_=>none
  else none
 else none
def Dp(x:List Rl)(roots:List Rq):List Nf->List (List Tm)->Option (List (List Tm))
 | [],d=>some d
 |i::l,d=>match Ec x roots d i with
  |none=>none
  |some t=>Dp x roots l (d++[t])
-- decisions
def DI(before:List Sl):List Rq->Option ByteArray->Option ByteArray
 | [],acc=>acc
 |q::l,acc=>DI before l (if CR before q.path then acc else match acc with
  |none=>some q.path
  |some p=>if Ea q.path p then some q.path else some p)
def Lu(needs:List Rq)(before:List Sl):Option ByteArray:=DI before needs none
structure Vis where
 before:List Sl
 needs:List Rq
 rel:Rl
-- answers
-- the example
-- the order of releases
theorem Ln{a b:Int}(h:GZ a b=0):a=b:=by
 unfold GZ at h;split at h
 .cases h
 .split at h
  .cases h
  .omega
theorem X0{a b:Int}(h:GZ a b<0):a<b:=by
 unfold GZ at h;split at h
 .assumption
 .split at h<;>omega
theorem WA(h:KR a b=0):a=b:=by
 unfold KR at h;cases h1:Ea a b with
 |true=>rw[h1]at h;simp at h
 |false =>
  cases h2:Ea b a with
  |true=>rw[h1,h2]at h;simp at h
  |false=>exact H8 h1 h2
theorem o7(h:KR a b<0):Ea a b=true:=by
 unfold KR at h;cases h1:Ea a b with
 |true=>rfl
 |false=>rw[h1]at h;cases h2:Ea b a<;>rw[h2]at h<;>simp at h
def pQ(a b:Ver):Prop:=a.a<b.a\/(a.a=b.a/\(a.b<b.b\/(a.b=b.b/\a.c<b.c)))
def bw(a b:Rl):Prop:=Ea a.path b.path=true\/(a.path=b.path/\pQ a.ver b.ver)
theorem dV{a b:Ver}(h:Pn a b<0):pQ a b:=by
 unfold Pn at h;split at h
 .exact .inl (X0 h)
 .rename_i h1;have h1:=Ln (B3.1 h1);split at h
  .exact .inr ⟨h1,.inl (X0 h)⟩
  .rename_i h2;exact .inr ⟨h1,.inr ⟨Ln (B3.1 h2),X0 h⟩⟩
theorem gK{a b:Ver}(h:Pn a b=0):a=b:=by
 unfold Pn at h;split at h
 .rename_i h1;exact absurd h h1
 .rename_i h1;have h1:=Ln (B3.1 h1);split at h
  .rename_i h2;exact absurd h h2
  .rename_i h2;have h2:=Ln (B3.1 h2);have h3:=Ln h;cases a;cases b;simp_all
theorem gI{a b:Rl}(h:Ds a b=0):Gc a=Gc b:=by
 unfold Ds at h;split at h
 .rename_i h1;exact absurd h h1
 .rename_i h1;have h1:=WA (B3.1 h1);have h2:=gK h;unfold Gc;rw[h1,h2]
theorem o8{a b:Rl}(h:Ds a b<0):bw a b:=by
 unfold Ds at h;split at h
 .exact .inl (o7 h)
 .rename_i h1;exact .inr ⟨WA (B3.1 h1),dV h⟩
theorem iC{a b c:Ver}(h:pQ a b)(k:pQ b c):pQ a c:=by unfold pQ at *;omega
theorem WV{a b c:Rl}(h:bw a b)(k:bw b c):bw a c:=by
 rcases h with h | ⟨h1,h2⟩
 .rcases k with k | ⟨k1,k2⟩
  .exact .inl (D2 h k)
  .exact .inl (k1▸h)
 .rcases k with k | ⟨k1,k2⟩
  .exact .inl (h1▸k)
  .exact .inr ⟨h1.trans k1,iC h2 k2⟩
theorem HD{a b:Rl}(h:bw a b)(k:Gc a=Gc b):False:=by
 unfold Gc at k;simp only[Sl.mk.injEq]at k;rcases h with h | ⟨_,h⟩
 .rw[k.1,Df]at h;cases h
 .rw[k.2]at h;unfold pQ at h;omega
-- a valid index
structure TC(r:Rl):Prop where
 maj:CB r.path=some r.ver.a
 val:Ct r.ver=true
 reqs:BI r.reqs=0
theorem bS{r:Rl}(h:DS r=0):TC r:=by
 unfold DS at h;split at h
 .cases h
 .rename_i m hm;split at h
  .cases h
  .rename_i h1;split at h
   .rename_i h2;exact absurd h h2
   .rename_i h2;simp only[CJ,CE,Hq,not_or,B3]at h1;refine⟨by rw[hm,h1.2],by simpa using h1.1,B3.1 h2⟩
theorem LP:∀{l:List Rl} {b:Option Rl},DL b l=0->(∀r∈l,TC r)/\(l.Pairwise bw/\∀c,b=some c->∀r∈l,bw c r)
 | [],b,_=>⟨fun _ h=>(by cases h),.nil,fun _ _ _ h=>(by cases h)⟩
 |r::l,b,h=>by
  unfold DL at h;split at h
  .rename_i h1;exact absurd h h1
  .rename_i h1;have hr:=bS (B3.1 h1);have go:DL (some r) l=0->(∀c,b=some c->bw c r)->(∀z∈r::l,TC z)/\((r::l).Pairwise bw/\∀c,b=some c->∀z∈r::l,bw c z):=fun h hc=>by
    obtain⟨i1,i2,i3⟩:=LP h;refine⟨fun z hz=>?_,.cons (i3 r rfl) i2,fun c e z hz=>?_⟩
    .rcases Az.1 hz with rfl | hz
     .exact hr
     .exact i1 z hz
    .rcases Az.1 hz with rfl | hz
     .exact hc c e
     .exact WV (hc c e) (i3 r rfl z hz)
   cases b with
   |none=>exact go h fun _ e=>by cases e
   |some b =>
    dsimp only at h;split at h
    .cases h
    .rename_i hk;split at h
     .cases h
     .rename_i hc;refine go h fun c e=>?_;cases e;refine o8 ?_
      have:Ds b r≠0:=fun e=>hk (gI e)
      omega
theorem Cw{l:List Rl}(h:A4 l=0):(∀r∈l,TC r)/\l.Pairwise bw:=by
 unfold A4 at h;split at h
 .cases h
 .exact⟨(LP h).1,(LP h).2.1⟩
theorem UF{l:List Rl}(h:l.Pairwise bw){a b:Rl}(ha:a∈l)(hb:b∈l)(hk:Gc a=Gc b):a=b:=by
 induction h with
 |nil=>cases ha
 |cons h1 h2 ih =>
  rcases Az.1 ha with e1 | ha
  .rcases Az.1 hb with e2 | hb
   .exact e1.trans e2.symm
   .exact(HD (e1▸h1 b hb) hk).elim
  .rcases Az.1 hb with e2 | hb
   .exact(HD (e2▸h1 a ha) hk.symm).elim
   .exact ih ha hb
theorem YP{a b:Ver}(ha:Ct a=true)(hb:Ct b=true)(h1:a.a=b.a)(h2:place a=place b):a=b:=by
 have:=Jd ha
 have:=Jd hb
 unfold place at h2;have e1:a.b=b.b:=by omega
 have e2:a.c=b.c:=by omega
 cases a;cases b;simp_all
theorem TC.plc{r:Rl}(h:TC r):plc r.ver=place r.ver:=by unfold Go.Eng.plc;rw[h.val];rfl
theorem YJ{l:List Rl}(h:(∀r∈l,TC r)/\l.Pairwise bw){a b:Rl}(ha:a∈l)(hb:b∈l)(h1:a.path=b.path)(h2:place a.ver=place b.ver):a=b:=by
 refine UF h.2 ha hb ?_
 have:=h.1 a ha
 have:=h.1 b hb
 have e:a.ver.a=b.ver.a:=by
  have e1:=(h.1 a ha).maj;rw[h1,(h.1 b hb).maj]at e1;exact(CK e1).symm
 unfold Gc;rw[h1,YP (h.1 a ha).val (h.1 b hb).val e h2]
theorem JL{x:List Rl}{r:Rl}(h:Db x y=some r):A4 x=0/\r∈x/\Gc r=y:=by
 unfold Db at h;split at h
 .cases h
 .rename_i h1;refine⟨B3.1 h1,BE h,?_⟩
  have:=DJ h;simpa using this
structure vg(x:List Rl)(roots:List Rq)(s:List Sl):Prop where
 ix:A4 x=0
 inc:EW s=true
 fnd:∀y∈s,∃r,Db x y=some r/\r.yanked=false
 root:∀q∈roots,∃y,BY s q.path=some y/\has q.set (place y.ver)=true
 req:∀y∈s,∀r,Db x y=some r->∀q∈r.reqs,∃z,BY s q.path=some z/\has q.set (place z.ver)=true
theorem Oy:∀{s:List Sl} {b:Option ByteArray},Ux b s=true->s.Pairwise (fun a b=>Ea a.path b.path=true)/\∀c,b=some c->∀y∈s,Ea c y.path=true
 | [],_,_=>⟨.nil,fun _ _ _ h=>by cases h⟩
 |y::r,b,h=>by
  unfold Ux at h;simp only[Ae]at h;obtain⟨h1,h2⟩:=h;obtain⟨i1,i2⟩:=Oy h2;refine⟨.cons (i2 _ rfl) i1,fun c e z hz=>?_⟩;subst e;rcases Az.1 hz with rfl | hz
  .exact h1
  .exact D2 h1 (i2 _ rfl z hz)
theorem N0(h:s.Pairwise (fun a b=>Ea a.path b.path=true))(hy:y∈s):BY s y.path=some y:=by
 induction h with
 |nil=>cases hy
 |cons h1 h2 ih =>
  rename_i a l;unfold BY;rw[E8];rcases Az.1 hy with rfl | hy
  .simp
  .have:=IE (h1 y hy)
   simp only[this,decide_false];exact ih hy
theorem ZH(h:EW s=true)(hy:y∈s):BY s y.path=some y:=N0 (Oy h).1 hy
theorem vg.valid{x:List Rl}(h:vg x roots s):Gu s:=fun y hy=>by
 obtain⟨r,h1,_⟩:=h.fnd y hy;obtain⟨_,h2,h3⟩:=JL h1
 have:=((Cw h.ix).1 r h2).val
 rw[<-h3];exact this
-- soundness
theorem Ss{q:Rq}(h:∃y,BY s q.path=some y/\has q.set (place y.ver)=true):Du (DV q) (BY s q.path)=false:=by
 obtain⟨y,h1,h2⟩:=h;rw[h1];unfold Du DV;dsimp only;rw[FV,h2];simp
theorem mG{l:List Tm}(hs:Gu s)(hn:C3 l≠none)(hv:Bl l s=false):Bl (Rf l) s=false:=by
 have:=Dk (l:=l) hs
 unfold Rf;cases h:C3 l with
 |none=>exact absurd h hn
 |some c=>rw[h,hv]at this;exact this.symm
theorem aC{l:List Tm}(hs:Gu s){o:List Tm}(h:iE (Rf l)=some o)(hv:Bl l s=false):Bl o s=false:=by
 unfold iE at h;split at h
 .cases h
 .rename_i Dy;cases h;rw[Rg hs (by intro e;rw[e]at Dy;exact Dy rfl)];exact hv
theorem du:C3 [DV q]≠none:=by
 unfold C3 Fj;simp only[List.foldl,Oz]
 have:IM (Mh (DV q))=false:=by simp[IM,Mh,DV]
 simp[this]
theorem Qb{l:List α}{i:Int}{a:α}(h:Kb l i=some a):a∈l:=by
 unfold Kb at h;split at h
 .cases h
 .exact Aw h
theorem Yq{x:List Rl}(hs:vg x roots s)(hd:∀t∈d,Bl t s=false){o:List Tm}(h:Ec x roots d i=some o):Bl o s=false:=by
 have hv:=hs.valid;unfold Ec at h;split at h
 .split at h
  .rw[AS]at h;obtain⟨q,hq,rfl⟩:=h;refine mG hv (du q) ?_;rw[AM];intro hw
   have:=BJ.1 hw _ (Ap.2 rfl)
   rw[show(DV q).path=q.path from rfl,Ss (hs.root q (Qb hq))]at this;cases this
  .cases h
 .split at h
  .split at h
   .split at h
    .cases h
    .rename_i r hr;split at h
     .cases h
     .rename_i q hq;refine aC hv h ?_;rw[AM];intro hw;have h1:=BJ.1 hw _ (Ab ..);have h2:=BJ.1 hw (DV q) B0;rw[show(DV q).path=q.path from rfl]at h2;dsimp only at h1;cases hf:BY s i.path with
      |none=>rw[hf]at h1;simp[Du]at h1
      |some y =>
       rw[hf]at h1;unfold Du at h1;simp only[Ae]at h1;have hp:place y.ver=i.place:=by
        have:=h1.2
        simp only[has,Ce,List.any_nil,Bool.or_false,Ae,BV,AA]at this;omega
       have hy:=JY hf;have hyp:=MO hf;obtain⟨r',e1,e2⟩:=hs.fnd y hy;obtain⟨_,m1,k1⟩:=JL e1;have lH:r∈x:=BE hr;have vI:=DJ hr;simp only[Ae,AA]at vI;have GM:=Cw hs.ix
       have:r'=r:=by
        refine YJ GM m1 lH ?_ ?_
        .rw[vI.1,<-hyp,<-k1];rfl
        .rw[<-(GM.1 r lH).plc,vI.2,<-hp,<-k1];rfl
       subst this
       have:=hs.req y hy r' e1 q (Qb hq)
       rw[Ss this]at h2;cases h2
   .cases h
  .split at h
   .split at h
    .refine aC hv h ?_;rw[AM];intro hw;have h1:=BJ.1 hw _ (Ap.2 rfl);dsimp only at h1;cases hf:BY s i.path with
     |none=>rw[hf]at h1;simp[Du]at h1
     |some y =>
      rw[hf]at h1;unfold Du at h1;simp only[Ae]at h1;have hy:=JY hf;have hyp:=MO hf;obtain⟨r,e1,e2⟩:=hs.fnd y hy;obtain⟨_,m1,k1⟩:=JL e1;have GM:=Cw hs.ix;have h1:=h1.2;rw[FV]at h1;have oh:=Ke (hv y hy)
      have:has (Ch x i.path) (place y.ver)=true:=by
       unfold Ch;rw[HR];unfold has;simp only[oh,decide_true,EY,Bd,Ag,Bv];refine⟨(plc r.ver,plc r.ver+1),⟨r,⟨?_,by simp[e2]⟩,rfl⟩,?_⟩
       .unfold KY;simp only[hs.ix,WY,not_true,Gl,Bv,m1,true_and,AA];rw[<-hyp,<-k1];rfl
       .rw[(GM.1 r m1).plc,<-k1];rw[D0];exact⟨Bs _,by show place r.ver<place r.ver+1;omega⟩
      rw[this]at h1;simp at h1
    .cases h
   .split at h
    .split at h
     .split at h
      .rename_i a b ha hb;split at h
       .rename_i h0;cases h;rw[AM];intro hw;rcases Vb hv (o:=(BX a b i.path).1) (Prod.ext rfl h0) hw with hw | hw
        .rw[hd a (Qb ha)]at hw;cases hw
        .rw[hd b (Qb hb)]at hw;cases hw
       .cases h
      .cases h
     .cases h
    .cases h
theorem ML{x:List Rl}{roots:List Rq}{s:List Sl}(hs:vg x roots s):∀{l:List Nf} {d d' : List (List Tm)},(∀t∈d,Bl t s=false)->Dp x roots l d=some d'->∀t∈d',Bl t s=false
 | [],d,d',hd,h=>by cases h;exact hd
 |i::l,d,d',hd,h=>by
  unfold Dp at h;split at h
  .cases h
  .rename_i o ho;refine ML hs (fun t ht=>?_) h;rcases AO.1 ht with ht | ht
   .exact hd t ht
   .rw[Ap.1 ht];exact Yq hs hd ho
theorem IV{α:Type}[DecidableEq α]:∀{l m:List α},l.Nodup->(∀x∈l,x∈m)->l.length<=m.length
 | [],_,_,_=>AE _
 |a::l,m,hn,hs=>by
  rw[De]at hn;have ha:a∈m:=hs a (Ab ..)
  have:=IV (l:=l) (m:=m.erase a) hn.2 fun x hx=>by
   have:x≠a:=fun e=>hn.1 (e▸hx)
   exact(List.mem_erase_of_ne this).2 (hs x (Ah _ hx))
  rw[List.length_erase_of_mem ha]at this
  have:=List.length_pos_of_mem ha
  simp only[Ak];omega
abbrev XE(s:List Sl):Prop:=s.Pairwise (fun a b=>Ea a.path b.path=true)
-- the next path
theorem KI(before:List Sl):∀{l:List Rq} {acc:Option ByteArray},(∀p,acc=some p->CR before p=false) ->
  (∀p,DI before l acc=some p->CR before p=false/\(acc=some p\/∃q∈l,q.path=p))/\(DI before l acc=none->acc=none/\∀q∈l,CR before q.path=true)
 | [],acc,ha=>⟨fun p h=>⟨ha p h,.inl h⟩,fun h=>⟨h,fun _ h=>(by cases h)⟩⟩
 |q::l,acc,ha=>by
  unfold DI
  have key:∀gl,(∀p,gl=some p->CR before p=false)->(∀p,gl=some p->acc=some p\/q.path=p)->(gl=none->acc=none/\CR before q.path=true) ->
    (∀p,DI before l gl=some p->CR before p=false/\(acc=some p\/∃q'∈q::l,q'.path=p))/\(DI before l gl=none->acc=none/\∀q'∈q::l,CR before q'.path=true):=by
   intro gl h1 h2 h3;obtain⟨i1,i2⟩:=KI before (l:=l) h1;refine⟨fun p h=>?_,fun h=>?_⟩
   .obtain⟨j1,j2⟩:=i1 p h;refine⟨j1,?_⟩;rcases j2 with j2 | ⟨q',j3,j4⟩
    .rcases h2 p j2 with h2 | h2
     .exact .inl h2
     .exact .inr ⟨q,Ab ..,h2⟩
    .exact .inr ⟨q',Ah _ j3,j4⟩
   .obtain⟨j1,j2⟩:=i2 h;obtain⟨k1,k2⟩:=h3 j1;refine⟨k1,fun q' hq=>?_⟩;rcases Az.1 hq with rfl | hq
    .exact k2
    .exact j2 q' hq
  cases hb:CR before q.path with
  |true=>simp only[Sc];exact key acc ha (fun p h=>.inl h) fun h=>⟨h,hb⟩
  |false =>
   simp only[Dh,Gl];cases acc with
   |none=>exact key _ (fun p h=>by cases h;exact hb) (fun p h=>by cases h;exact .inr rfl) fun h=>by cases h
   |some p0 =>
    dsimp only;split
    .exact key _ (fun p h=>by cases h;exact hb) (fun p h=>by cases h;exact .inr rfl) fun h=>by cases h
    .exact key _ (fun p h=>by cases h;exact ha _ rfl) (fun p h=>by cases h;exact .inl rfl) fun h=>by cases h
theorem UT{needs:List Rq}{before:List Sl}{p:ByteArray}(h:Lu needs before=some p):CR before p=false/\∃q∈needs,q.path=p:=by
 obtain⟨h1,h2⟩:=(KI before (l:=needs) (acc:=none) fun _ e=>by cases e).1 p h;rcases h2 with h2 | h2
 .cases h2
 .exact⟨h1,h2⟩
theorem cW{needs:List Rq}{before:List Sl}(h:Lu needs before=none):∀q∈needs,CR before q.path=true :=
 ((KI before (l:=needs) (acc:=none) fun _ e=>by cases e).2 h).2
theorem Um(a b:List Sl)(p:ByteArray):CR (a++b) p=(CR a p||CR b p):=by unfold CR;rw[H5]
theorem L0{p:ByteArray}:CR s p=true↔∃y∈s,y.path=p:=by unfold CR;simp
theorem HQ{p:ByteArray}:CR s p=true↔p∈s.map (·.path):=by rw[L0,Ag]
-- what is needed
-- skips
theorem X5{t:List Tm}{b:List Sl}(hs:EW s=true)(hb:∀y∈b,y∈s)(h:Da t b=true):Bl t s=true:=by
 unfold Da at h;simp only[Ae,CE,GD]at h;obtain⟨h1,h2⟩:=h;rw[BJ]at h1⊢;intro u hu
 have:=h2 u hu
 simp only[Bool.not_eq_false]at this;rw[KE]at this;cases hf:BY b u.path with
 |none=>rw[hf]at this;cases this
 |some y =>
  have h3:=h1 u hu;rw[hf]at h3
  have:=ZH hs (hb y (JY hf))
  rw[MO hf]at this;rw[this];exact h3
-- right answers
-- the first decision that differs
-- prefixes
theorem JC{x:List Rl}{roots:List Rq}:∀{l:List Nf} {d d' : List (List Tm)},Dp x roots l d=some d'->d'.length=d.length+l.length
 | [],d,d',h=>by cases h;rfl
 |i::l,d,d',h=>by
  unfold Dp at h;split at h
  .cases h
  .have:=JC h
   simp only[Ac,Ak,At]at this⊢;omega
theorem Hw{x:List Rl}{roots:List Rq}:∀(l m:List Nf) (d:List (List Tm)),Dp x roots (l++m) d=match Dp x roots l d with | none=>none | some d'=>Dp x roots m d'
 | [],_,_=>rfl
 |i::l,m,d=>by
  show(match Ec x roots d i with | none=>none | some t=>Dp x roots (l++m) (d++[t]))=(match(match Ec x roots d i with | none=>none | some t=>Dp x roots l (d++[t]))with | none=>none | some d'=>Dp x roots m d');cases Ec x roots d i with
  |none=>rfl
  |some t=>exact Hw l m _
theorem Mi{x:List Rl}{roots:List Rq}:∀{l:List Nf} {d d' : List (List Tm)},Dp x roots l d=some d'->d <+: d'
 | [],d,d',h=>by cases h;exact List.prefix_refl _
 |i::l,d,d',h=>by
  unfold Dp at h;split at h
  .cases h
  .exact(OX _ _).trans (Mi h)
theorem NW{x:List Rl}{l:List Nf}(h:Dp x roots l []=some d)(k:Nat):Dp x roots (l.take k) []=some (d.take k):=by
 rw[<-Gp k l,Hw]at h;cases e:Dp x roots (l.take k) []with
 |none=>rw[e]at h;cases h
 |some f =>
  rw[e]at h;dsimp only at h;have h1:=JC e;have h2:=JC h;have h3:=Mi h
  congr 1
  simp only[At,Av,Dc]at h1 h2;obtain⟨z,rfl⟩:=h3
  by_cases hk:k<=l.length
  .rw[HI ch,As ch]
  .rw[Ac]at h2
   have:z=[]:=AP ch
   subst this;rw[BP,As ch]
def LI:Prop:=C3 l=some l
theorem ji{l:List Tm}:∀(l2:List Tm),Co none (l2++l)->l.foldl (fun acc t=>Oz t acc) l2=l2++l:=by
 induction l with
 |nil=>intro l2 _;simp
 |cons t r ih =>
  intro l2 h;have hi:Oz t l2=l2++[t]:=by
   have:∀(m:List Tm) (lo:Option ByteArray),Co lo (m++t::r)->Oz t m=m++[t]:=by
    intro m
    induction m with
    |nil =>
     intro lo hm;have hc:EZ t.set:=hm.2.1;unfold Oz;rw[show Mh t=t from ux rfl rfl (JV hc)];rfl
    |cons u m ihm =>
     intro lo hm;have hm:Co lo (u::(m++t::r)):=hm;have Dz:=Co.low hm.2.2 t B0;unfold Oz;rw[Al Dz,ihm _ hm.2.2];rfl
   exact this l2 none h
  rw[E9,hi]
  have:=ih (l2++[t]) (by rw[BA];exact h)
  rw[this,BA];rfl
theorem Rc{l:List Tm}(h:Co none l):Fj l=l:=by
 have:=ji (l:=l) [] h
 simpa[Fj]using this
theorem RP{l c:List Tm}(h:C3 l=some c):LI c:=by
 have hs:=Fa h;unfold LI;unfold C3 at h⊢;rw[Rc hs];split at h
 .cases h
 .rename_i hn;cases h;rw[Ai]
  .congr 1
   rw[List.filter_filter];simp
  .rw[Tt,GD]at hn⊢;intro t ht;exact hn t (Bv.1 ht).1
theorem PJ:LI []:=rfl
theorem M4:LI (Rf l):=by
 unfold Rf;cases h:C3 l with
 |none=>exact PJ
 |some c=>exact RP h
theorem Ob(a b:List Tm)(p:ByteArray):LI (BX a b p).1:=by
 unfold BX;split
 .split
  .rename_i h;exact RP h
  .exact PJ
 .exact PJ
theorem aB{l o:List Tm}(h:iE l=some o):o=l:=by unfold iE at h;split at h<;>cases h;rfl
theorem ac{x:List Rl}{o:List Tm}(h:Ec x roots d i=some o):LI o:=by
 unfold Ec at h;split at h
 .split at h
  .rw[AS]at h;obtain⟨q,_,rfl⟩:=h;exact M4 _
  .cases h
 .split at h
  .split at h
   .split at h
    .cases h
    .split at h
     .cases h
     .rw[aB h];exact M4 _
   .cases h
  .split at h
   .split at h
    .rw[aB h];exact M4 _
    .cases h
   .split at h
    .split at h
     .split at h
      .split at h
       .cases h;exact Ob _ _ _
       .cases h
      .cases h
     .cases h
    .cases h
theorem NV{x:List Rl}{roots:List Rq}:∀{l:List Nf} {d d' : List (List Tm)},(∀t∈d,LI t)->Dp x roots l d=some d'->∀t∈d',LI t
 | [],d,d',hd,h=>by cases h;exact hd
 |i::l,d,d',hd,h=>by
  unfold Dp at h;split at h
  .cases h
  .rename_i o ho;refine NV (fun t ht=>?_) h;rcases AO.1 ht with ht | ht
   .exact hd t ht
   .rw[Ap.1 ht];exact ac ho
-- tampering
end Go.Eng
