/- Lemmas 1. -/
import Derived.Test.YteaiieomnhbmgaaGreatDoorBA00
namespace Go.Eng
variable {a b:ByteArray}{lo:Option ByteArray}{B:List Int}{α:Type}(m:List (Int×Int))(c:UInt8)(p:ByteArray)(k:Int)
def BX(p:Int)(s:Int×Int):Bool:=decide (s.1<=p)&&decide (p<s.2)
def has(s:List (Int×Int))(p:Int):Bool:=decide (0<=p)&&decide (p<1000000)&&s.any (BX p)
abbrev A1:=List (Int×Int)
variable (S:A1)
def EI(lo:Int):A1->Prop
 | []=>True
 |y::r=>lo<=y.1/\y.1<y.2/\y.2<=1000000/\EI (y.2+1) r
abbrev EP(l:A1):Prop:=EI 0 l
def ZS(x:Int×Int):A1->A1
 | []=>[x]
 |y::r=>if x.2<y.1 then x::y::r else if y.2<x.1 then y::ZS x r else ZS (min x.1 y.1,max x.2 y.2) r
def GU(x:Int×Int):Int×Int:=(max x.1 0,min x.2 1000000)
def canon:A1->A1
 | []=>[]
 |x::r=>if(GU x).1<(GU x).2 then ZS (GU x) (canon r)else canon r
def Lz(at_:Int):A1->A1
 | []=>if at_<1000000 then [(at_,1000000)]else []
 |y::r=>if at_<y.1 then(at_,y.1)::Lz y.2 r else Lz y.2 r
def E5(s:A1):A1:=Lz 0 (canon s)
def RC(l:List A1):A1:=canon l.flatten
def QU(l:List A1):A1:=E5 (l.map E5).flatten
def Qs(a b:A1):A1:=RC [a,b]
def PP(a b:A1):A1:=QU [a,b]
theorem EI.mono{lo Ie : Int}:∀{l:A1},EI lo l->Ie<=lo->EI Ie l
 | [],_,_=>trivial
 |_::_,⟨h1,h2,h3,h4⟩,h=>⟨Int.le_trans h h1,h2,h3,h4⟩
theorem EI.low{lo:Int}:∀{l:A1},EI lo l->∀y∈l,lo<=y.1/\y.1<y.2/\y.2<=1000000
 |y::r,⟨h1,h2,h3,h4⟩,z,hz=>by
  rcases AU.1 hz with rfl | hz
  .omega
  .have:=h4.low z hz
   omega
theorem Eo{p:Int}{s:Int×Int}:BX p s=true↔s.1<=p/\p<s.2:=by simp[BX]
theorem Pd{lo:Int}{l:A1}(h:EI lo l){p:Int}(hp:l.any (BX p)=true):lo<=p:=by
 obtain⟨y,hy,h2⟩:=BC.1 hp
 have:=h.low y hy
 grind [Eo]
theorem lO{lo:Int}{l:A1}(h:EI lo l){p:Int}(hp:l.any (BX p)=true):p<1000000:=by
 obtain⟨y,hy,h2⟩:=BC.1 hp
 have:=h.low y hy
 grind [Eo]
theorem Od:∀(l:A1) {lo:Int} {x:Int×Int},EI lo l->lo<=x.1->x.1<x.2->x.2<=1000000->EI lo (ZS x l)
 | [],lo,x,_,h1,h2,h3=>⟨h1,h2,h3,trivial⟩
 |y::r,lo,x,⟨g1,g2,g3,g4⟩,h1,h2,h3=>by
  unfold ZS;split
  .exact⟨h1,h2,h3,by omega,g2,g3,g4⟩
  .split
   .exact⟨g1,g2,g3,Od r g4 ch h2 h3⟩
   .refine Od r (g4.mono ch) ?_ ?_ ?_<;>dsimp only<;>omega
theorem Pb:∀(l:A1) {lo:Int} {x:Int×Int} (p:Int),EI lo l->x.1<x.2->(ZS x l).any (BX p)=(BX p x||l.any (BX p))
 | [],lo,x,p,_,_=>by simp[ZS]
 |y::r,lo,x,p,⟨g1,g2,g3,g4⟩,h2=>by
  unfold ZS;split
  .simp
  .split
   .rw[Eh,Pb r p g4 h2,Eh,<-Bool.or_assoc,<-Bool.or_assoc,Bool.or_comm (BX p y)]
   .rw[Pb r p g4 ch,Eh,<-Bool.or_assoc]
    grind [BX]
theorem Cc:∀s:A1,EP (canon s)
 | []=>trivial
 |x::r=>by
  unfold canon;split
  .rename_i h;refine Od _ (Cc r) ?_ h ?_<;>simp only[GU]<;>omega
  .exact Cc r
theorem K5:∀(s:A1) (p:Int),(canon s).any (BX p)=has s p
 | [],p=>by simp[has,canon]
 |x::r,p=>by
  have ih:=K5 r p
  grind [canon,BX,GU,Pb,Cc,has]
theorem HU{l:A1}(h:EP l)(p:Int):has l p=l.any (BX p):=by
 unfold has;cases e:l.any (BX p)with
 |false=>simp
 |true=>have h1:0<=p:=Pd h e;grind [lO]
theorem Ht(s:A1)(p:Int):has (canon s) p=has s p:=by
 rw[HU (Cc s),K5]
theorem NP:∀{a b:A1} {lo:Int},EI lo a->EI lo b->(∀p,a.any (BX p)=b.any (BX p))->a=b
 | [],[],_,_,_,_=>rfl
 | [],z::s,_,_,⟨g1,g2,g3,g4⟩,h=>by
  have:=h z.1
  grind [Eo]
 |y::r,[],_,⟨g1,g2,g3,g4⟩,_,h=>by
  have:=h y.1
  grind [Eo]
 |y::r,z::s,lo,⟨f1,f2,f3,f4⟩,⟨g1,g2,g3,g4⟩,h=>by
  have below:∀{x:Int×Int} {t:A1} {p:Int},EI (x.2+1) t->(x::t).any (BX p)=true->p<=x.2->x.1<=p/\p<x.2:=fun {x t p} ht hp Jr=>by
   rw[Eh,Kb]at hp;rcases hp with hp | hp
   .exact Eo.1 hp
   .have:=Pd ht hp;omega
  have low:∀{x:Int×Int} {t:A1} {p:Int},x.1<x.2->EI (x.2+1) t->(x::t).any (BX p)=true->x.1<=p:=fun {x t p} hx ht hp=>by
   grind
  have cov:∀{x:Int×Int} {t:A1} {p:Int},x.1<=p->p<x.2->(x::t).any (BX p)=true:=fun {x t p} h1 h2=>by
   grind [Eo]
  have e1:y.1=z.1:=by
   grind
  have e2:y.2=z.2:=by
   rcases Int.lt_trichotomy y.2 z.2 with hl | he | hl
   .grind
   .exact he
   .have:=below g4 ((h z.2).symm.trans (cov ch hl)) (Bv _);omega
  have e:y=z:=Prod.ext e1 e2;subst e
  congr 1
  refine NP f4 g4 fun p=>?_;have hp:=h p;simp only[Eh]at hp;cases hs:BX p y with
  |false=>simp_all
  |true=>
   have:=Eo.1 hs
   have n:∀{t:A1},EI (y.2+1) t->t.any (BX p)=false:=fun {t} ht=>by
    rw[Bb];intro hx;have:=Pd ht hx;omega
   grind
theorem HN{a b:A1}(ha:EP a)(hb:EP b)(h:∀p,has a p=has b p):a=b:=
 NP ha hb fun p=>by rw[<-HU ha,<-HU hb,h]
theorem TS{a s:A1}(ha:EP a)(h:∀p,has a p=has s p):a=canon s:=
 HN ha (Cc s) fun p=>by rw[h,Ht]
theorem JJ{a:A1}(ha:EP a):canon a=a:=(TS ha fun _=>rfl).symm
theorem QQ{s:A1}{p:Int}(h:has s p=true):0<=p/\p<1000000:=by
 grind [has]
def SP(p:Int):Bool:=decide (0<=p)&&decide (p<1000000)
theorem LA:∀(l:A1) {at_ lo:Int},0<=at_->EI lo l->lo<=at_+1->at_<=lo->EI at_ (Lz at_ l)/\∀p,(Lz at_ l).any (BX p)=(decide (at_<=p)&&decide (p<1000000)&&!l.any (BX p))
 | [],at_,lo,h0,_,h1,h2=>by
  unfold Lz;split
  .exact⟨⟨Bv _,by omega,Bv _,trivial⟩,fun p=>by simp[BX]⟩
  .refine⟨trivial,fun p=>?_⟩
   grind
 |y::r,at_,lo,h0,⟨g1,g2,g3,g4⟩,h1,h2=>by
  have ih:=LA r (at_:=y.2) ch g4 (Bv _) ch;have key:∀p,(decide (at_<=p)&&decide (p<y.1)||(Lz y.2 r).any (BX p))=(decide (at_<=p)&&decide (p<1000000)&&!(y::r).any (BX p)):=fun p=>by
   rw[ih.2,Eh];cases hr:r.any (BX p)with
   |true=>
    have:=Pd g4 hr
    grind
   |false=>
    grind [BX]
  unfold Lz;split
  .rename_i h;refine⟨⟨Bv _,h,by omega,ih.1 |> fun c=>?_⟩,fun p=>?_⟩
   .dsimp only;cases e:Lz y.2 r with
    |nil=>trivial
    |cons z s=>
     rw[e]at c;exact⟨by have:=c.1;omega,c.2⟩
   .rw[Eh,<-key];rfl
  grind [EI.mono]
theorem Hq(s:A1):EP (E5 s):=by
 grind [E5,LA,Cc]
theorem F8(s:A1)(p:Int):has (E5 s) p=(SP p&&!has s p):=by
 rw[HU (Hq s)];unfold E5;rw[(LA _ (Bv _) (Cc s) ch (Bv _)).2,K5];rfl
theorem dJ(a b:A1)(p:Int):has (a++b) p=(has a p||has b p):=by
 grind [has]
theorem MP:∀(l:List A1) (p:Int),has l.flatten p=l.any fun s=>has s p
 | [],p=>by simp[has]
 |s::l,p=>by rw[Cz,dJ,MP l p,Eh]
theorem Ut(l:List A1)(p:Int):has (RC l) p=l.any fun s=>has s p:=by
 unfold RC;rw[Ht,MP]
theorem Zq(l:List A1):EP (RC l):=Cc _
theorem YW(l:List A1):EP (QU l):=Hq _
theorem Us(l:List A1)(p:Int):has (QU l) p=(SP p&&l.all fun s=>has s p):=by
 grind [QU,F8,MP,List.any_map]
theorem cu(a b:A1):EP (Qs a b):=Cc _
theorem Sf(a b:A1):EP (PP a b):=Hq _
theorem jH(a b:A1)(p:Int):has (Qs a b) p=(has a p||has b p):=by
 grind [Qs,Ut]
theorem WY(a b:A1)(p:Int):has (PP a b) p=(has a p&&has b p):=by
 grind [PP,Us,QQ,SP]
theorem dU(s:A1):PP s s=canon s:=HN (Sf _ _) (Cc _) fun p=>by grind [WY,Ht]
theorem VZ{s:A1}:canon s=[]↔∀p,has s p=false:=by
 constructor
 .intro h p;rw[<-Ht,h];simp[has]
 .intro h;exact HN (Cc s) (b:=[]) trivial fun p=>by grind [Ht,has]
theorem Rd{s:A1}(hs:EP s):s=[]↔∀p,has s p=false:=by
 rw[<-VZ,JJ hs]
def mB(l:List A1)(p:Int):Nat:=l.countP fun s=>has s p
theorem TR:∀{l:A1} {lo:Int},EI lo l->lo<=1000000->(l.length:Int)<=1000000-lo
 | [],lo,_,h=>by simp_all
 |y::r,lo,⟨g1,g2,g3,g4⟩,h=>by
  by_cases h3:y.2+1<=1000000
  .have:=TR g4 h3
   grind
  .cases r with
   |nil=>grind
   |cons z s=>have:=g4.1;have:=g4.2.1;have:=g4.2.2.1;omega
theorem In{l:A1}(h:EP l):l.length<=1000000:=by have:=TR h ch;omega
structure Ver where
 (a b c:Int)
structure Rq where
 path:ByteArray
 set:List (Int×Int)
variable {roots:List Rq}(q:Rq)
structure Rl where
 path:ByteArray
 ver:Ver
 reqs:List Rq
 (arch ifc cert:ByteArray)
 yanked:Bool
variable (r:Rl)(x:List Rl)
structure Sl where
 path:ByteArray
 ver:Ver
variable {s:List Sl}{y:Sl}
structure Tm where
 path:ByteArray
 absent:Bool
 set:List (Int×Int)
variable {d:List (List Tm)}(l:List Tm)(u t:Tm)
structure Nf where
 kind:Int
 path:ByteArray
 (place number left right:Int)
structure Sk where
 path:ByteArray
 (place inf:Int)
structure An where
 found:Bool
 sel:List Sl
 infs:List Nf
 skips:List Sk
instance:DecidableEq Ver:=fun x y=>decidable_of_iff (x.a=y.a/\x.b=y.b/\x.c=y.c) ⟨fun⟨h1,h2,h3⟩=>by cases x<;>simp_all,fun h=>by simp_all⟩
instance:DecidableEq Sl:=fun x y=>decidable_of_iff (x.path=y.path/\x.ver=y.ver) ⟨fun⟨h1,h2⟩=>by cases x<;>simp_all,fun h=>by simp_all⟩
instance:DecidableEq Tm:=fun x y=>decidable_of_iff (x.path=y.path/\x.absent=y.absent/\x.set=y.set) ⟨fun⟨h1,h2,h3⟩=>by cases x<;>simp_all,fun h=>by simp_all⟩
theorem xT{x y:Tm}(h1:x.path=y.path)(h2:x.absent=y.absent)(h3:x.set=y.set):x=y:=by cases x<;>simp_all
def okPart(n:Int):Prop:=0<=n/\n<=999
instance (n:Int):Decidable (okPart n):=by unfold okPart;infer_instance
def Be(v:Ver):Bool:=decide (okPart v.a)&&decide (okPart v.b)&&decide (okPart v.c)
def place(v:Ver):Int:=1000*v.b+v.c
def plc(v:Ver):Int:=if Be v then place v else 0
def xQ:Sl:=⟨⟨#[]⟩,⟨0,0,0⟩⟩
def Bg(s:List Sl)(p:ByteArray):Option Sl:=s.find? fun x=>decide (x.path=p)
def Hu(s:List Sl):Bool:=
 match s.find? (fun x=>decide (x.path=t.path))with
 |none=>t.absent
 |some x=>Be x.ver&&has t.set (place x.ver)
def CF(s:List Sl)(p:ByteArray):Bool:=s.any fun x=>decide (x.path=p)
def A6(s:List Sl):Bool:=l.all fun t=>Hu t s
def CK(s:List Sl):Bool:=A6 l s&&!l.any fun t=>!CF s t.path
def IP:List UInt8->List UInt8->Bool
 | [],[]=>false
 | [],_::_=>true
 |_::_,[]=>false
 |a::x,b::y=>decide (a<b)||(decide (a=b)&&IP x y)
def Dz(a b:ByteArray):Bool:=IP a.data.toList b.data.toList
theorem Sh:∀x,IP x x=false
 | []=>rfl
 |a::x=>by
  unfold IP;simp[Sh x]
theorem OA:∀{x y z},IP x y=true->IP y z=true->IP x z=true
 | [],[],_,h,_=>by omega
 | [],_::_,[],_,h=>by grind [IP]
 | [],_::_,_::_,_,_=>rfl
 |_::_,[],_,h,_=>by grind [IP]
 |_::_,_::_,[],_,h=>by grind [IP]
 |a::x,b::y,c::z,h1,h2=>by
  unfold IP at *
  simp only[Kb,Am,Bd]at *
  rcases h1 with h1 | ⟨rfl,h1⟩
  .grind
  .rcases h2 with h2 | ⟨rfl,h2⟩
   .simp_all
   .exact .inr ⟨rfl,OA h1 h2⟩
theorem UT:∀{x y},IP x y=false->IP y x=false->x=y
 | [],[],_,_=>rfl
 | [],_::_,h,_=>by grind [IP]
 |_::_,[],_,h=>by grind [IP]
 |a::x,b::y,h1,h2=>by
  unfold IP at *
  simp only[Bool.or_eq_false_iff,Bool.and_eq_false_iff,decide_eq_false_iff_not]at *
  have e:a=b:=by
   grind
  subst e
  have:=UT (x:=x) (y:=y) (by simp_all) (by simp_all)
  simp_all
theorem Ado(h:a.data.toList=b.data.toList):a=b:=by
 cases a<;>simp_all
theorem Dk(a:ByteArray):Dz a a=false:=Sh _
theorem Ds{c:ByteArray}(h:Dz a b=true)(k:Dz b c=true):Dz a c=true:=OA h k
theorem GJ(h:Dz a b=false)(k:Dz b a=false):a=b:=Ado (UT h k)
theorem JI(h:Dz a b=true):a≠b:=fun e=>by grind [Dk]
theorem WI(h:Dz a b=true):Dz b a=false:=by
 grind [Ds,Dk]
def Mz:Tm:=⟨t.path,t.absent,canon t.set⟩
def G2:Tm:=⟨u.path,u.absent&&t.absent,PP u.set t.set⟩
def Oy(t:Tm):List Tm->List Tm
 | []=>[Mz t]
 |u::r=>if Dz u.path t.path then u::Oy t r else if u.path=t.path then G2 u t::r else Mz t::u::r
def Fk:List Tm:=l.foldl (fun acc t=>Oy t acc) []
def I2:Bool:=!t.absent&&t.set.isEmpty
def G8:Bool:=t.absent&&decide (t.set=[(0,1000000)])
def CX:Option (List Tm):=if(Fk l).any I2 then none else some ((Fk l).filter fun t=>!G8 t)
def Rf:List Tm:=(CX l).getD []
def DH:Tm:=⟨q.path,true,E5 q.set⟩
def J0:List Tm:=Rf [DH q]
def EG(path:ByteArray)(pl:Int)(q:Rq):List Tm:=Rf [⟨path,false,[(pl,pl+1)]⟩,DH q]
def H2(path:ByteArray)(zn:A1):List Tm:=Rf [⟨path,false,E5 zn⟩]
def DC(p:ByteArray):Option Tm:=l.find? fun t=>decide (t.path=p)
def F5(p:ByteArray):List Tm:=l.filter fun t=>!decide (t.path=p)
def Dt(a b:Tm):Tm:=⟨a.path,a.absent||b.absent,Qs a.set b.set⟩
def Fl(p:ByteArray):Option (Tm×List Tm):=match CX l with
 |none=>none
 |some c=>match DC c p with
  |none=>none
  |some t=>some (t,F5 c p)
def BF(a b:List Tm)(p:ByteArray):List Tm×Int:=
 match Fl a p,Fl b p with
 |some (t,r),some (u,m)=>match CX (r++m++[Dt t u])with
  |some o=>(o,0)
  |none=>([],8)
 |_,_=>([],1)
def BS(lo:Option ByteArray):List Tm->Prop
 | []=>True
 |t::r=>(∀p,lo=some p->Dz p t.path=true)/\EP t.set/\BS (some t.path) r
theorem BS.weak:∀{l:List Tm},BS lo l->BS none l
 | [],_=>trivial
 |_::_,⟨_,h2,h3⟩=>⟨fun _ h=>(by cases h),h2,h3⟩
theorem BS.low{p:ByteArray}:∀{l:List Tm},BS (some p) l->∀t∈l,Dz p t.path=true
 |t::r,⟨h1,h2,h3⟩,u,hu=>by
  rcases AU.1 hu with rfl | hu
  .simp_all
  .exact Ds (h1 p rfl) (h3.low u hu)
theorem BS.canon{lo:Option ByteArray}:∀{l:List Tm},BS lo l->∀t∈l,EP t.set
 |t::r,⟨h1,h2,h3⟩,u,hu=>by
  rcases AU.1 hu with rfl | hu
  .exact h2
  .exact h3.canon u hu
theorem BS.mono{p q:ByteArray}:∀{l:List Tm},BS (some p) l->Dz q p=true->BS (some q) l
 | [],_,_=>trivial
 |t::r,⟨h1,h2,h3⟩,h=>⟨fun _ e=>by grind [Ds],h2,h3⟩
theorem MR:∀{l:List Tm} {lo:Option ByteArray} (t:Tm),BS lo l->(∀p,lo=some p->Dz p t.path=true)->BS lo (Oy t l)
 | [],lo,t,_,h=>⟨h,Cc _,trivial⟩
 |u::r,lo,t,⟨h1,h2,h3⟩,h=>by
  unfold Oy;split
  .rename_i E3;exact⟨h1,h2,MR t h3 fun p e=>by simp_all⟩
  .rename_i E3;split
   .rename_i he;exact⟨h1,Sf _ _,h3⟩
   .rename_i he;refine⟨h,Cc _,fun p e=>?_,h2,h3⟩;cases e
    have:Dz u.path t.path=false:=by simp_all
    cases hb:Dz t.path u.path with
    |true=>exact hb
    |false=>grind [GJ]
theorem PH:∀(l acc:List Tm),BS none acc->BS none (l.foldl (fun acc t=>Oy t acc) acc)
 | [],_,h=>h
 |t::l,acc,h=>PH l _ (MR t h fun _ e=>by cases e)
theorem Es:BS none (Fk l):=PH l [] trivial
theorem EJ(r:List Tm)(p:ByteArray):DC (t::r) p=if t.path=p then some t else DC r p:=by
 grind [DC]
theorem Ks{p q:ByteArray}{l:List Tm}(h:BS (some p) l)(hq:Dz p q=false):DC l q=none:=by
 grind [DC,BS.low]
def SU(o:Option Tm)(t:Tm):Tm:=match o with | none=>Mz t | some u=>G2 u t
theorem Rk(o:Option Tm)(t:Tm)(h:∀u,o=some u->u.path=t.path):(SU o t).path=t.path:=by
 cases o with
 |none=>rfl
 |some u=>exact h u rfl
theorem LH{l:List Tm}{p:ByteArray}{u:Tm}(h:DC l p=some u):u.path=p:=by
 have:=DV h;simp_all
theorem GL{l:List Tm}{p:ByteArray}{u:Tm}(h:DC l p=some u):u∈l:=BA h
theorem Uh:∀{l:List Tm} {lo:Option ByteArray} (t:Tm) (p:ByteArray),BS lo l->DC (Oy t l) p=if t.path=p then some (SU (DC l p) t)else DC l p
 | [],lo,t,p,_=>by
  grind [Oy,Mz,DC,SU]
 |u::r,lo,t,p,⟨h1,h2,h3⟩=>by
  unfold Oy;split
  .rename_i E3;rw[EJ,EJ,Uh t p h3]
   grind [JI]
  grind [EJ,G2,SU,Mz,Ks]
def KF(o:Option Tm)(t:Tm):Option Tm:=if t.path=p then some (SU o t)else o
theorem RW(p:ByteArray):∀(l acc:List Tm),BS none acc->DC (l.foldl (fun acc t=>Oy t acc) acc) p=l.foldl (KF p) (DC acc p)
 | [],_,_=>rfl
 |t::l,acc,h=>by
  rw[Gm,RW p l _ (MR t h fun _ e=>by cases e),Uh t p h];rfl
theorem Jp(p:ByteArray):DC (Fk l) p=l.foldl (KF p) none:=RW p l [] trivial
theorem Nb:∀{a b:List Tm} {lo:Option ByteArray},BS lo a->BS lo b->(∀p,DC a p=DC b p)->a=b
 | [],[],_,_,_,_=>rfl
 | [],z::s,_,_,_,h=>by have:=h z.path;rw[EJ,Ay rfl]at this;cases this
 |z::s,[],_,_,_,h=>by have:=h z.path;rw[EJ,Ay rfl]at this;cases this
 |y::r,z::s,lo,⟨f1,f2,f3⟩,⟨g1,g2,g3⟩,h=>by
  have e:y=z:=by
   have a1:=h y.path;have a2:=h z.path
   grind [EJ,BS.low,GL,Ds,Dk]
  subst e
  congr 1
  refine Nb f3 g3 fun p=>?_;have hp:=h p
  grind [EJ,Ks,Dk]
theorem BS.filter(q:Tm->Bool):∀{l:List Tm} {lo:Option ByteArray},BS lo l->BS lo (l.filter q)
 | [],_,_=>trivial
 |t::r,lo,⟨h1,h2,h3⟩=>by
  have ih:=BS.filter q h3;rw[Mg];split
  .exact⟨h1,h2,ih⟩
  .cases lo<;>grind [BS.weak,BS.mono]
theorem Gw{l:List Tm}{t:Tm}(h:BS lo l):t∈l↔DC l t.path=some t:=by
 constructor
 .induction l generalizing lo with
  |nil=>simp_all
  |cons u r ih=>
   intro ht;rw[EJ];rcases AU.1 ht with rfl | ht
   .simp_all
   .have:=BS.low h.2.2 t ht
    rw[Az (JI this)];exact ih h.2.2 ht
 .exact GL
def Dh(o:Option Sl):Bool:=match o with | none=>t.absent | some x=>Be x.ver&&has t.set (place x.ver)
theorem nH(s:List Sl):Hu t s=Dh t (Bg s t.path):=by
 unfold Hu Dh Bg;rfl
theorem RV{p:ByteArray}{x:Sl}(h:Bg s p=some x):x.path=p:=by
 have:=DV h;simp_all
theorem LG{p:ByteArray}{x:Sl}(h:Bg s p=some x):x∈s:=BA h
theorem Kv{p:ByteArray}:CF s p=(Bg s p).isSome:=by
 grind [CF,Bg]
theorem dO(o:Option Sl):Dh (Mz t) o=Dh t o:=by
 unfold Dh Mz;grind [Ht]
theorem aS(o:Option Sl):Dh (G2 u t) o=(Dh u o&&Dh t o):=by
 unfold Dh G2;cases o<;>grind [WY]
theorem NY(o:Option Sl):Dh (Dt u t) o=(Dh u o||Dh t o):=by
 unfold Dh Dt;cases o<;>grind [jH]
def iU(o:Option Sl)(l:List Tm):Bool:=l.all fun t=>!decide (t.path=p)||Dh t o
theorem Kt(p:ByteArray)(o:Option Sl):∀(l:List Tm) (a:Option Tm),(∀u,a=some u->u.path=p) ->
  (l.foldl (KF p) a=none↔a=none/\l.all (fun t=>!decide (t.path=p))=true)/\(∀u,l.foldl (KF p) a=some u->u.path=p/\Dh u o=((match a with | none=>true | some b=>Dh b o)&&iU p o l))
 | [],a,ha=>by
  grind [iU]
 |t::l,a,ha=>by
  rw[Gm]
  by_cases e:t.path=p
  .have hs:KF p a t=some (SU a t):=by grind [KF]
   rw[hs];have ih:=Kt p o l (some (SU a t)) (fun u h=>by grind [Rk])
   grind [iU,SU,dO,aS]
  .have hs:KF p a t=a:=by grind [KF]
   rw[hs];have ih:=Kt p o l a ha
   grind [iU]
theorem Bs{l:List Tm}:A6 l s=true↔∀t∈l,Dh t (Bg s t.path)=true:=by
 grind [A6,nH]
theorem Me(s:List Sl):A6 (Fk l) s=A6 l s:=by
 rw[El,Bs,Bs];constructor
 .intro h t ht
  have:=Kt t.path (Bg s t.path) l none (fun _ e=>by cases e)
  rw[<-Jp]at this;cases e:DC (Fk l) t.path<;>grind [GL,iU]
 .intro h u hu;have e:=(Gw (Es l)).1 hu
  have:=Kt u.path (Bg s u.path) l none (fun _ e=>by cases e)
  grind [Jp,iU]
theorem eG{t:Tm}(h:I2 t=true)(o:Option Sl):Dh t o=false:=by
 unfold I2 at h;simp only[Am,EO,Mh]at h;unfold Dh
 grind [has]
def Gb(s:List Sl):Prop:=∀x∈s,Be x.ver=true
theorem E2{v:Ver}(h:Be v=true):0<=v.a/\v.a<=999/\0<=v.b/\v.b<=999/\0<=v.c/\v.c<=999:=by
 unfold Be at h;simp only[Am]at h;obtain⟨⟨a,b⟩,c⟩:=h;obtain⟨a1,a2⟩:=AW a;obtain⟨b1,b2⟩:=AW b;obtain⟨c1,c2⟩:=AW c<;>simp_all
theorem JZ{v:Ver}(h:Be v=true):0<=place v/\place v<1000000:=by
 have:=E2 h;grind [place]
theorem VV{t:Tm}(h:G8 t=true)(hs:Gb s):Dh t (Bg s t.path)=true:=by
 unfold G8 at h;simp only[Am,Bd]at h;unfold Dh;cases e:Bg s t.path with
 |none=>exact h.1
 |some x=>
  have:=hs x (LG e)
  grind [JZ,has,BX]
theorem Dj{l:List Tm}(hs:Gb s):A6 l s=(match CX l with | none=>false | some c=>A6 c s):=by
 unfold CX;split
 .rename_i h;split at h
  .rename_i hn;rw[<-Me,Bb]
   grind [Bs,eG]
  simp_all
 .rename_i c h;split at h
  .cases h
  .rename_i hn;cases h;rw[<-Me,El,Bs,Bs]
   grind [VV]
theorem Hd(a b:List Tm)(s:List Sl):A6 (a++b) s=(A6 a s&&A6 b s):=by grind [A6]
theorem EZ{l c:List Tm}(h:CX l=some c):BS none c:=by
 grind [CX,BS.filter,Es]
theorem GD{l r:List Tm}{p:ByteArray}{t:Tm}(hs:Gb s)(h:Fl l p=some (t,r)):A6 l s=(Dh t (Bg s p)&&A6 r s)/\t.path=p:=by
 unfold Fl at h;cases hc:CX l with
 |none=>simp_all
 |some c=>
  rw[hc]at h;dsimp only at h;cases hf:DC c p with
  |none=>simp_all
  |some u=>
   rw[hf]at h;cases h;have hp:=LH hf;refine⟨?_,hp⟩;rw[Dj hs,hc];dsimp only;rw[El,Am,Bs,Bs];constructor
   .intro h
    have:=h t (GL hf)
    rw[hp]at this;exact⟨this,fun v hv=>h v (Dm.1 hv).1⟩
   .intro⟨h1,h2⟩ v hv
    by_cases e:v.path=p
    .have:=(Gw (EZ hc)).1 hv
     simp_all
    .exact h2 v (Dm.2 ⟨hv,by simp[e]⟩)
theorem Vo{a b o:List Tm}{p:ByteArray}(hs:Gb s)(h:BF a b p=(o,0))(hv:A6 o s=true):A6 a s=true\/A6 b s=true:=by
 unfold BF at h;cases h1:Fl a p with
 |none=>simp_all
 |some x=>
  cases h2:Fl b p with
  |none=>simp_all
  |some y=>
   obtain⟨t,r⟩:=x;obtain⟨u,m⟩:=y;rw[h1,h2]at h;dsimp only at h;cases hc:CX (r++m++[Dt t u])with
   |none=>simp_all
   |some c=>
    rw[hc]at h
    have:c=o:=by simp_all
    subst this;have e:=Dj (l:=r++m++[Dt t u]) hs;rw[hc]at e;dsimp only at e;rw[hv,Hd,Hd]at e;simp only[Am]at e;obtain⟨⟨e1,e2⟩,e3⟩:=e;obtain⟨va,pa⟩:=GD hs h1;obtain⟨vb,pb⟩:=GD hs h2;have e3:=Bs.1 e3 _ (AK.2 rfl)
    grind [Dt,NY]
theorem Rg{l:List Tm}(hs:Gb s)(Ek:Rf l≠[]):A6 (Rf l) s=A6 l s:=by
 grind [Dj,Rf]
-- paths
def EB:Bool:=decide (97<=c)&&decide (c<=122)
def MB:Bool:=decide (65<=c)&&decide (c<=90)
def CB:Bool:=decide (48<=c)&&decide (c<=57)
def FF:Bool:=EB c||MB c||CB c||decide (c=95)
def dY:List UInt8:=[32,97,110,100,32,97,110,121,32,97,115,32,98,111,111,108,32,100,101,112,114,101,99,97,116,101,100,32,101,108,115,101,32,101,120,112,111,114,116,32,102,97,108,115,101,32,102,110,32,102,111,108,100,32,102,114,111,109,32,105,102,32,105,109,112,111,114,116,32,105,110,32,105,110,116,32,108,101,110,103,116,104,32,108,101,116,32,108,105,115,116,32,109,97,116,99,104,32,109,111,100,117,108,101,32,110,111,110,101,32,110,111,116,32,111,114,32,116,101,120,116,32,116,104,101,110,32,116,114,117,101,32,116,121,112,101,32,117,115,101,32]
def Qe:List UInt8->List UInt8->Bool
 | [],_=>true
 |_::_,[]=>false
 |a::x,b::y=>decide (a=b)&&Qe x y
def qJ(x:List UInt8):List UInt8->Bool
 | []=>Qe x []
 |b::y=>Qe x (b::y)||qJ x y
def Wg(s:List UInt8):Bool:=qJ (32::(s++[32])) dY
def Gl(s:List UInt8):Bool:=!s.isEmpty&&decide (s.length<=32)&&EB (s.headD 0)&&s.all FF&&!Wg s
def Hy(s:List UInt8):Bool:=Gl s&&s.all fun c=>EB c||CB c
def DY(s:List UInt8):Int:=s.foldl (fun n c=>10*n+((c.toNat:Int)-48)) 0
def Gi(s:List UInt8):Option Int:=match s with
 |c::r=>if c=118 then(if r.isEmpty||decide (3<r.length)||(decide (1<r.length)&&decide (r.headD 0=48))||!r.all CB then none else some (DY r))else none
 | []=>none
def CM(c:UInt8):List UInt8->List (List UInt8)
 | []=>[[]]
 |b::r=>if b=c then []::CM c r else match CM c r with
  | []=>[[b]]
  |x::l=>(b::x)::l
def Rb(p:List UInt8):Option Int:=match Gi ((CM 47 p).getLastD [])with
 |none=>none
 |some n=>if 64<p.length||(CM 47 p).length<2 then none else if(CM 47 p).all Hy then some n else none
def A5:Option Int:=Rb p.data.toList
-- indexes
def GY(before:Option ByteArray)(q:Rq):Int:=
 if(A5 q.path).isNone then 4 else if q.set.isEmpty||!decide (q.set=canon q.set)||(match before with | some b=>!Dz b q.path | none=>false)then 1 else 0
def D2(before:Option ByteArray):List Rq->Int
 | []=>0
 |q::r=>if GY before q=0 then D2 (some q.path) r else GY before q
def AR(l:List Rq):Int:=if 16<l.length then 7 else D2 none l
def Ej(s:ByteArray):Bool:=decide (s.size=0)||decide (s.size=32)
def CI:Int:=match A5 r.path with
 |none=>4
 |some m=>if !Be r.ver||!decide (r.ver.a=m)then 2 else if AR r.reqs≠0 then AR r.reqs else if Ej r.arch&&Ej r.ifc&&Ej r.cert then 0 else 1
def Fu(a b:Int):Int:=if a<b then -1 else if b<a then 1 else 0
def IY(a b:ByteArray):Int:=if Dz a b then -1 else if Dz b a then 1 else 0
def Io(a b:Ver):Int:=if Fu a.a b.a≠0 then Fu a.a b.a else if Fu a.b b.b≠0 then Fu a.b b.b else Fu a.c b.c
def BU(a b:Rl):Int:=if IY a.path b.path≠0 then IY a.path b.path else Io a.ver b.ver
def EL:Sl:=⟨r.path,r.ver⟩
def Cb(before:Option Rl):List Rl->Int
 | []=>0
 |r::l=>if CI r≠0 then CI r else match before with
  |none=>Cb (some r) l
  |some b=>if EL b=EL r then 5 else if 0<BU b r then 1 else Cb (some r) l
def AC(l:List Rl):Int:=if 256<l.length then 7 else Cb none l
def BQ(y:Sl):Option Rl:=if AC x≠0 then none else x.find? fun r=>decide (EL r=y)
def LR(p:ByteArray):List Rl:=if AC x≠0 then []else x.filter fun r=>decide (r.path=p)
def B6(p:ByteArray):A1:=canon (((LR x p).filter fun r=>!r.yanked).map fun r=>(plc r.ver,plc r.ver+1))
def UF(before:Option ByteArray):List Sl->Bool
 | []=>true
 |y::r=>(match before with |some b=>Dz b y.path |none=>true)&&UF (some y.path) r
def EK(s:List Sl):Bool:=UF none s
-- solutions
-- derivations
def Qg(p:ByteArray)(pl:Int):Option Rl:=x.find? fun r=>decide (r.path=p)&&decide (plc r.ver=pl)
def mt:ByteArray:=⟨#[]⟩
def Mn(l:List α)(i:Int):Option α:=if i<0 then none else l[i.toNat]?
def kd:Option (List Tm):=if l.isEmpty then none else some l
def DX(roots:List Rq)(d:List (List Tm))(i:Nf):Option (List Tm):=
 if i.kind=0 then
  if i.path=mt/\i.place=0/\i.left=0/\i.right=0 then(Mn roots i.number).map J0 else none
 else if i.kind=1 then
  if i.left=0/\i.right=0 then match Qg x i.path i.place with
   |none=>none
   |some r=>match Mn r.reqs i.number with
    |none=>none
    |some q=>kd (EG i.path i.place q)
  else none
 else if i.kind=2 then
  if i.place=0/\i.number=0/\i.left=0/\i.right=0 then kd (H2 i.path (B6 x i.path))else none
 else if i.kind=3 then
  if i.place=0/\i.number=0 then match Mn d i.left,Mn d i.right with
   |some a,some b=>if(BF a b i.path).2=0 then some (BF a b i.path).1 else none
   |_,_=>none
  else none
 else none
def Du(x:List Rl)(roots:List Rq):List Nf->List (List Tm)->Option (List (List Tm))
 | [],d=>some d
 |i::l,d=>match DX x roots d i with
  |none=>none
  |some t=>Du x roots l (d++[t])
-- decisions
def CZ(before:List Sl):List Rq->Option ByteArray->Option ByteArray
 | [],acc=>acc
 |q::l,acc=>CZ before l (if CF before q.path then acc else match acc with
  |none=>some q.path
  |some p=>if Dz q.path p then some q.path else some p)
def Ik(needs:List Rq)(before:List Sl):Option ByteArray:=CZ before needs none
structure Vis where
 before:List Sl
 needs:List Rq
 rel:Rl
-- answers
-- the example
def bs(l:List UInt8):ByteArray:=⟨⟨l⟩⟩
-- the order of releases
theorem K6{a b:Int}(h:Fu a b=0):a=b:=by
 grind [Fu]
theorem Ys{a b:Int}(h:Fu a b<0):a<b:=by
 grind [Fu]
theorem WQ(h:IY a b=0):a=b:=by
 grind [IY,GJ]
theorem rz(h:IY a b<0):Dz a b=true:=by
 grind [IY]
def oh(a b:Ver):Prop:=a.a<b.a\/(a.a=b.a/\(a.b<b.b\/(a.b=b.b/\a.c<b.c)))
def YZ(a b:Rl):Prop:=Dz a.path b.path=true\/(a.path=b.path/\oh a.ver b.ver)
theorem fX{a b:Ver}(h:Io a b<0):oh a b:=by
 unfold Io at h;split at h
 .exact .inl (Ys h)
 .rename_i h1;have h1:=K6 (B8.1 h1);split at h
  .exact .inr ⟨h1,.inl (Ys h)⟩
  .rename_i h2;exact .inr ⟨h1,.inr ⟨K6 (B8.1 h2),Ys h⟩⟩
theorem jl{a b:Ver}(h:Io a b=0):a=b:=by
 unfold Io at h;split at h
 .omega
 .rename_i h1;have h1:=K6 (B8.1 h1);split at h
  .omega
  .rename_i h2;have h2:=K6 (B8.1 h2);have h3:=K6 h;cases a<;>simp_all
theorem QJ{a b:Rl}(h:BU a b=0):EL a=EL b:=by
 grind [BU,WQ,jl,EL]
theorem rA{a b:Rl}(h:BU a b<0):YZ a b:=by
 unfold BU at h;split at h
 .exact .inl (rz h)
 .rename_i h1;exact .inr ⟨WQ (B8.1 h1),fX h⟩
theorem ka{a b c:Ver}(h:oh a b)(k:oh b c):oh a c:=by grind [oh]
theorem Q0{a b c:Rl}(h:YZ a b)(k:YZ b c):YZ a c:=by
 rcases h with h | ⟨h1,h2⟩
 .rcases k with k | ⟨k1,k2⟩
  .exact .inl (Ds h k)
  .exact .inl (k1▸h)
 .rcases k with k | ⟨k1,k2⟩
  .exact .inl (h1▸k)
  .exact .inr ⟨h1.trans k1,ka h2 k2⟩
theorem Hi{a b:Rl}(h:YZ a b)(k:EL a=EL b):False:=by
 unfold EL at k;simp only[Sl.mk.injEq]at k;rcases h with h | ⟨_,h⟩<;>grind [Dk,oh]
-- a valid index
structure KH(r:Rl):Prop where
 maj:A5 r.path=some r.ver.a
 val:Be r.ver=true
 reqs:AR r.reqs=0
theorem TT{r:Rl}(h:CI r=0):KH r:=by
 grind [CI,KH.mk]
theorem Pn:∀{l:List Rl} {b:Option Rl},Cb b l=0->(∀r∈l,KH r)/\(l.Pairwise YZ/\∀c,b=some c->∀r∈l,YZ c r)
 | [],b,_=>⟨fun _ h=>(by cases h),.nil,fun _ _ _ h=>(by cases h)⟩
 |r::l,b,h=>by
  unfold Cb at h;split at h
  .omega
  .rename_i h1;have hr:=TT (B8.1 h1);have go:Cb (some r) l=0->(∀c,b=some c->YZ c r)->(∀z∈r::l,KH z)/\((r::l).Pairwise YZ/\∀c,b=some c->∀z∈r::l,YZ c z):=fun h hc=>by
    obtain⟨i1,i2,i3⟩:=Pn h<;>grind [Q0,List.Pairwise.cons]
   grind [rA,QJ]
theorem B3{l:List Rl}(h:AC l=0):(∀r∈l,KH r)/\l.Pairwise YZ:=by
 grind [AC,Pn]
theorem UL{l:List Rl}(h:l.Pairwise YZ){a b:Rl}(ha:a∈l)(hb:b∈l)(hk:EL a=EL b):a=b:=by
 induction h<;>grind [Hi]
theorem Zv{a b:Ver}(ha:Be a=true)(hb:Be b=true)(h1:a.a=b.a)(h2:place a=place b):a=b:=by
 have:=E2 ha
 have:=E2 hb
 unfold place at h2;have e1:a.b=b.b:=by omega
 have e2:a.c=b.c:=by omega
 cases a<;>simp_all
theorem KH.plc{r:Rl}(h:KH r):plc r.ver=place r.ver:=by grind [plc,KH.val]
theorem Zj{l:List Rl}(h:(∀r∈l,KH r)/\l.Pairwise YZ){a b:Rl}(ha:a∈l)(hb:b∈l)(h1:a.path=b.path)(h2:place a.ver=place b.ver):a=b:=by
 grind [UL,EL,Zv,KH.maj,KH.val]
theorem Iq{x:List Rl}{r:Rl}(h:BQ x y=some r):AC x=0/\r∈x/\EL r=y:=by
 grind [BQ]
structure uo(x:List Rl)(roots:List Rq)(s:List Sl):Prop where
 ix:AC x=0
 inc:EK s=true
 fnd:∀y∈s,∃r,BQ x y=some r/\r.yanked=false
 root:∀q∈roots,∃y,Bg s q.path=some y/\has q.set (place y.ver)=true
 req:∀y∈s,∀r,BQ x y=some r->∀q∈r.reqs,∃z,Bg s q.path=some z/\has q.set (place z.ver)=true
theorem Ow:∀{s:List Sl} {b:Option ByteArray},UF b s=true->s.Pairwise (fun a b=>Dz a.path b.path=true)/\∀c,b=some c->∀y∈s,Dz c y.path=true
 | [],_,_=>⟨.nil,fun _ _ _ h=>by cases h⟩
 |y::r,b,h=>by
  unfold UF at h;simp only[Am]at h;obtain⟨h1,h2⟩:=h;obtain⟨i1,i2⟩:=Ow h2<;>grind [Ds,List.Pairwise.cons]
theorem NV(h:s.Pairwise (fun a b=>Dz a.path b.path=true))(hy:y∈s):Bg s y.path=some y:=by
 induction h<;>grind [Bg,JI]
theorem aB(h:EK s=true)(hy:y∈s):Bg s y.path=some y:=NV (Ow h).1 hy
theorem uo.valid{x:List Rl}(h:uo x roots s):Gb s:=fun y hy=>by
 obtain⟨r,h1,_⟩:=h.fnd y hy;obtain⟨_,h2,h3⟩:=Iq h1
 have:=((B3 h.ix).1 r h2).val
 rw[<-h3];exact this
-- soundness
theorem Ss{q:Rq}(h:∃y,Bg s q.path=some y/\has q.set (place y.ver)=true):Dh (DH q) (Bg s q.path)=false:=by
 grind [Dh,DH,F8]
theorem oU{l:List Tm}(hs:Gb s)(hn:CX l≠none)(hv:A6 l s=false):A6 (Rf l) s=false:=by
 grind [Dj,Rf]
theorem bF{l:List Tm}(hs:Gb s){o:List Tm}(h:kd (Rf l)=some o)(hv:A6 l s=false):A6 o s=false:=by
 grind [kd,Rg]
theorem fq:CX [DH q]≠none:=by
 grind [CX,Fk,Oy,I2,Mz,DH]
theorem U8{l:List α}{i:Int}{a:α}(h:Mn l i=some a):a∈l:=by
 grind [Mn]
theorem YU{x:List Rl}(hs:uo x roots s)(hd:∀t∈d,A6 t s=false){i:Nf}{o:List Tm}(h:DX x roots d i=some o):A6 o s=false:=by
 have hv:=hs.valid;unfold DX at h;split at h
 .split at h
  .rw[Cr]at h;obtain⟨q,hq,rfl⟩:=h;refine oU hv (fq q) ?_;rw[Bb];intro hw
   have:=Bs.1 hw _ (AK.2 rfl)
   rw[show(DH q).path=q.path from rfl,Ss (hs.root q (U8 hq))]at this;simp_all
  simp_all
 .split at h
  .split at h
   .split at h
    .cases h
    .rename_i r hr;split at h
     .cases h
     .rename_i q hq;refine bF hv h ?_;rw[Bb];intro hw;have h1:=Bs.1 hw _ (Af ..);have h2:=Bs.1 hw (DH q) B0;rw[show(DH q).path=q.path from rfl]at h2;dsimp only at h1;cases hf:Bg s i.path with
      |none=>grind [Dh]
      |some y=>
       rw[hf]at h1;unfold Dh at h1;simp only[Am]at h1;have hp:place y.ver=i.place:=by
        grind [has,BX]
       have hy:=LG hf;have hyp:=RV hf;obtain⟨r',e1,e2⟩:=hs.fnd y hy;obtain⟨_,m1,k1⟩:=Iq e1;have nK:r∈x:=BA hr;have yW:=DV hr;simp only[Am,Bd]at yW;have GG:=B3 hs.ix
       have:r'=r:=by
        refine Zj GG m1 nK ?_ ?_
        .rw[yW.1,<-hyp,<-k1];rfl
        .rw[<-(GG.1 r nK).plc,yW.2,<-hp,<-k1];rfl
       subst this
       have:=hs.req y hy r' e1 q (U8 hq)
       grind [Ss]
   simp_all
  .split at h
   .split at h
    .refine bF hv h ?_;rw[Bb];intro hw;have h1:=Bs.1 hw _ (AK.2 rfl);dsimp only at h1;cases hf:Bg s i.path with
     |none=>grind [Dh]
     |some y=>
      rw[hf]at h1;unfold Dh at h1;simp only[Am]at h1;have hy:=LG hf;have hyp:=RV hf;obtain⟨r,e1,e2⟩:=hs.fnd y hy;obtain⟨_,m1,k1⟩:=Iq e1;have GG:=B3 hs.ix;have h1:=h1.2;rw[F8]at h1;have lB:=JZ (hv y hy)
      have:has (B6 x i.path) (place y.ver)=true:=by
       unfold B6;rw[Ht];unfold has;simp only[lB,decide_true,Bool.true_and,BC,Ax,Dm];refine⟨(plc r.ver,plc r.ver+1),⟨r,⟨?_,by simp_all⟩,rfl⟩,?_⟩
       .unfold LR;simp only[hs.ix,ne_eq,not_true,if_false,Dm,m1,true_and,Bd];rw[<-hyp,<-k1];rfl
       .rw[(GG.1 r m1).plc,<-k1];rw[Eo];exact⟨Bv _,by show place r.ver<place r.ver+1;omega⟩
      simp_all
    simp_all
   .split at h
    .split at h
     .split at h
      .rename_i a b ha hb;split at h
       .rename_i h0;cases h;rw[Bb];intro hw;rcases Vo hv (o:=(BF a b i.path).1) (Prod.ext rfl h0) hw with hw | hw<;>grind [U8]
       simp_all
      simp_all
     simp_all
    simp_all
theorem HP{x:List Rl}{roots:List Rq}{s:List Sl}(hs:uo x roots s):∀{l:List Nf} {d d' : List (List Tm)},(∀t∈d,A6 t s=false)->Du x roots l d=some d'->∀t∈d',A6 t s=false
 | [],d,d',hd,h=>by cases h;exact hd
 |i::l,d,d',hd,h=>by
  unfold Du at h;split at h
  .cases h
  .rename_i o ho;refine HP hs (fun t ht=>?_) h
   grind [YU]
theorem IB{α:Type}[DecidableEq α]:∀{l m:List α},l.Nodup->(∀x∈l,x∈m)->l.length<=m.length
 | [],_,_,_=>Al _
 |a::l,m,hn,hs=>by
  rw[HI]at hn;have ha:a∈m:=hs a (Af ..)
  have:=IB (l:=l) (m:=m.erase a) hn.2 fun x hx=>by
   grind
  grind
abbrev Tx(s:List Sl):Prop:=s.Pairwise (fun a b=>Dz a.path b.path=true)
-- the next path
theorem KA(before:List Sl):∀{l:List Rq} {acc:Option ByteArray},(∀p,acc=some p->CF before p=false) ->
  (∀p,CZ before l acc=some p->CF before p=false/\(acc=some p\/∃q∈l,q.path=p))/\(CZ before l acc=none->acc=none/\∀q∈l,CF before q.path=true)
 | [],acc,ha=>⟨fun p h=>⟨ha p h,.inl h⟩,fun h=>⟨h,fun _ h=>(by cases h)⟩⟩
 |q::l,acc,ha=>by
  unfold CZ
  have key:∀iR,(∀p,iR=some p->CF before p=false)->(∀p,iR=some p->acc=some p\/q.path=p)->(iR=none->acc=none/\CF before q.path=true) ->
    (∀p,CZ before l iR=some p->CF before p=false/\(acc=some p\/∃q'∈q::l,q'.path=p))/\(CZ before l iR=none->acc=none/\∀q'∈q::l,CF before q'.path=true):=by
   intro iR h1 h2 h3;obtain⟨i1,i2⟩:=KA before (l:=l) h1<;>grind
  cases hb:CF before q.path<;>grind
theorem U4{needs:List Rq}{before:List Sl}{p:ByteArray}(h:Ik needs before=some p):CF before p=false/\∃q∈needs,q.path=p:=by
 obtain⟨h1,h2⟩:=(KA before (l:=needs) (acc:=none) fun _ e=>by cases e).1 p h<;>simp_all
theorem eH{needs:List Rq}{before:List Sl}(h:Ik needs before=none):∀q∈needs,CF before q.path=true:=
 ((KA before (l:=needs) (acc:=none) fun _ e=>by cases e).2 h).2
theorem LK{p:ByteArray}:CF s p=true↔∃y∈s,y.path=p:=by grind [CF]
theorem Hs{p:ByteArray}:CF s p=true↔p∈s.map (·.path):=by grind [LK]
-- what is needed
-- skips
theorem Yx{t:List Tm}{b:List Sl}(hs:EK s=true)(hb:∀y∈b,y∈s)(h:CK t b=true):A6 t s=true:=by
 unfold CK at h;simp only[Am,EO,Gn]at h;obtain⟨h1,h2⟩:=h;rw[Bs]at h1⊢;intro u hu
 have:=h2 u hu
 simp only[Bool.not_eq_false]at this;rw[Kv]at this;cases hf:Bg b u.path<;>grind [Bg,aB]
-- right answers
-- the first decision that differs
-- prefixes
theorem Jm{x:List Rl}{roots:List Rq}:∀{l:List Nf} {d d' : List (List Tm)},Du x roots l d=some d'->d'.length=d.length+l.length
 | [],d,d',h=>by cases h;rfl
 |i::l,d,d',h=>by
  unfold Du at h;split at h
  .cases h
  .have:=Jm h
   grind
theorem G9{x:List Rl}{roots:List Rq}:∀(l m:List Nf) (d:List (List Tm)),Du x roots (l++m) d=match Du x roots l d with | none=>none | some d'=>Du x roots m d'
 | [],_,_=>rfl
 |i::l,m,d=>by
  show(match DX x roots d i with | none=>none | some t=>Du x roots (l++m) (d++[t]))=(match(match DX x roots d i with | none=>none | some t=>Du x roots l (d++[t]))with | none=>none | some d'=>Du x roots m d');cases DX x roots d i with
  |none=>rfl
  |some t=>exact G9 l m _
theorem L6{x:List Rl}{roots:List Rq}:∀{l:List Nf} {d d' : List (List Tm)},Du x roots l d=some d'->d <+: d'
 | [],d,d',h=>by cases h<;>simp_all
 |i::l,d,d',h=>by
  unfold Du at h;split at h
  .cases h
  .exact(List.prefix_append _ _).trans (L6 h)
theorem NR{x:List Rl}{l:List Nf}(h:Du x roots l []=some d)(k:Nat):Du x roots (l.take k) []=some (d.take k):=by
 rw[<-Ia k l,G9]at h;cases e:Du x roots (l.take k) []with
 |none=>simp_all
 |some f=>
  rw[e]at h;dsimp only at h;have h1:=Jm e;have h2:=Jm h;have h3:=L6 h
  congr 1
  simp only[AE,AD,DE]at h1 h2;obtain⟨z,rfl⟩:=h3
  by_cases hk:k<=l.length
  .simp_all
  .rw[Ak]at h2
   have:z=[]:=AT ch
   grind [List.take_of_length_le]
def Form:Prop:=CX l=some l
theorem kQ{l:List Tm}:∀(l2:List Tm),BS none (l2++l)->l.foldl (fun acc t=>Oy t acc) l2=l2++l:=by
 induction l with
 |nil=>simp_all
 |cons t r ih=>
  intro l2 h;have hi:Oy t l2=l2++[t]:=by
   have:∀(m:List Tm) (lo:Option ByteArray),BS lo (m++t::r)->Oy t m=m++[t]:=by
    intro m
    induction m with
    |nil=>
     intro lo hm;have hc:EP t.set:=hm.2.1;unfold Oy;rw[show Mz t=t from xT rfl rfl (JJ hc)];rfl
    |cons u m ihm=>
     grind [BS,BS.low,Oy]
   grind
  simp_all
theorem Rc{l:List Tm}(h:BS none l):Fk l=l:=by
 grind [kQ,Fk]
theorem RT{l c:List Tm}(h:CX l=some c):Form c:=by
 grind [EZ,Form,CX,Rc,List.filter_filter]
theorem Um:Form []:=rfl
theorem M2:Form (Rf l):=by
 grind [Rf,CX,Um,RT]
theorem N7(a b:List Tm)(p:ByteArray):Form (BF a b p).1:=by
 grind [BF,RT,Um]
theorem bE{l o:List Tm}(h:kd l=some o):o=l:=by grind [kd]
theorem bc{x:List Rl}{i:Nf}{o:List Tm}(h:DX x roots d i=some o):Form o:=by
 unfold DX at h;split at h
 .split at h
  .rw[Cr]at h;obtain⟨q,_,rfl⟩:=h;exact M2 _
  simp_all
 .split at h
  .split at h
   .split at h
    .cases h
    .split at h
     .cases h
     .rw[bE h];exact M2 _
   simp_all
  .split at h
   .split at h
    .rw[bE h];exact M2 _
    simp_all
   grind [N7]
theorem NQ{x:List Rl}{roots:List Rq}:∀{l:List Nf} {d d' : List (List Tm)},(∀t∈d,Form t)->Du x roots l d=some d'->∀t∈d',Form t
 | [],d,d',hd,h=>by cases h;exact hd
 |i::l,d,d',hd,h=>by
  unfold Du at h;split at h
  .cases h
  .rename_i o ho;refine NQ (fun t ht=>?_) h
   grind [bc]
-- tampering
def D0(l:A1):A1:=(l.map GU).filter fun x=>decide (x.1<x.2)
theorem WP{l:A1}{x:Int×Int}(h:x∈D0 l):0<=x.1/\x.1<x.2/\x.2<=1000000:=by
 grind [D0,GU]
theorem jj(l:A1)(p:Int):(D0 l).any (BX p)=has l p:=by
 rw[<-K5]
 induction l<;>grind [D0,canon,Pb,Cc]
theorem Og:∀{l:A1} {lo:Int},EI lo l↔(∀y∈l,lo<=y.1/\y.1<y.2/\y.2<=1000000)/\l.Pairwise fun a b=>a.2<b.1
 | [],lo=>by simp[EI]
 |y::r,lo=>by
  rw[BL];constructor
  .intro h;have hl:=h.low;refine⟨hl,fun z hz=>?_,((Og (l:=r)).1 h.2.2.2).2⟩
   have:=h.2.2.2.low z hz;omega
  .intro⟨h1,h2,h3⟩;have hy:=h1 y (Af ..);refine⟨hy.1,hy.2.1,hy.2.2,Og.2 ⟨fun z hz=>?_,h3⟩⟩
   grind
def J8(r:A1)(x:Int×Int):A1:=match r with
 | []=>[x]
 |y::t=>if x.1<=y.2 then(y.1,max y.2 x.2)::t else x::y::t
def BI(s:A1):A1:=s.foldl J8 []
theorem Fi(s:A1)(i:Nat)(h:i<s.length):BI (s.take (i+1))=J8 (BI (s.take i)) s[i]:=by
 grind [BI,List.take_add_one]
theorem lg(r:A1)(x:Int×Int):(J8 r x).length<=r.length+1/\r.length<=(J8 r x).length/\0<(J8 r x).length:=by
 unfold J8
 grind
theorem OD(s:A1):∀i,i<=s.length->(BI (s.take i)).length<=i/\(0<i->0<(BI (s.take i)).length):=by
 intro i
 induction i<;>grind [BI,Fi,lg]
structure iP(r done:A1):Prop where
 ok:∀y∈r,0<=y.1/\y.1<y.2/\y.2<=1000000
 pw:r.Pairwise fun a b=>b.2<a.1
 has:∀p,r.any (BX p)=done.any (BX p)
 first:∀y t,r=y::t->∃x∈done,y.1=x.1
theorem ld{r done:A1}{x:Int×Int}(h:iP r done)(hx:0<=x.1/\x.1<x.2/\x.2<=1000000)(hs:∀y∈done,y.1<=x.1):iP (J8 r x) (done++[x]):=by
 unfold J8;split
 .refine⟨fun y hy=>?_,by simp,fun p=>?_,fun y t e=>?_⟩
  all_goals grind [iP.has]
 .rename_i y t;have hy:=h.ok y (Af ..);obtain⟨pw1,pw2⟩:=BL.1 h.pw;obtain⟨z,hz,e⟩:=h.first y t rfl
  have hyx:=hs z hz;split
  .rename_i Jr;refine⟨fun u hu=>?_,BL.2 ⟨pw1,pw2⟩,fun p=>?_,fun u t' e'=>?_⟩
   .rcases AU.1 hu with rfl | hu
    .omega
    .exact h.ok u (Ao _ hu)
   .rw[List.any_append,<-h.has,Eh,Eh,Eh,List.any_nil,Bool.or_false]
    grind [BX]
   grind
  .rename_i Jr;refine⟨fun u hu=>?_,BL.2 ⟨fun u hu=>?_,h.pw⟩,fun p=>?_,fun u t' e'=>?_⟩
   .rcases AU.1 hu with rfl | hu
    .exact hx
    .exact h.ok u hu
   all_goals grind [iP.has]
theorem d8{s:A1}(GG:∀y∈s,0<=y.1/\y.1<y.2/\y.2<=1000000)(hs:s.Pairwise fun a b=>a.1<=b.1):∀i,i<=s.length->iP (BI (s.take i)) (s.take i):=by
 intro i
 induction i with
 |zero=>intro _;exact⟨fun _ h=>by grind [BI],by simp[BI],fun p=>by simp[BI],fun y t e=>by grind [BI]⟩
 |succ i ih=>
  grind [Fi,List.take_add_one,ld,List.mem_iff_getElem,List.pairwise_iff_getElem]
theorem L5{l s:A1}(hp:s.Perm (D0 l))(hs:s.Pairwise fun a b=>a.1<=b.1):(BI s).reverse=canon l:=by
 have hi:=d8 (s:=s) (fun y hy=>WP (hp.mem_iff.1 hy)) hs s.length (Ap _);rw[CA]at hi;have hc:EP (BI s).reverse:=by
  unfold EP;rw[Og];refine⟨fun y hy=>hi.ok y (List.mem_reverse.1 hy),?_⟩
  grind [iP.pw]
 refine TS hc fun p=>?_;rw[HU hc,List.any_reverse,hi.has,<-jj]
 grind
-- maps from numbers to numbers,as lists in the order in which they are met
def Fx:Int:=match m.find? (fun p=>decide (p.1=k))with | some p=>p.2 | none=>0
def LW(v:Int):List (Int×Int):=if m.any (fun p=>decide (p.1=k))then m.map (fun p=>if p.1=k then(k,v)else p)else m++[(k,v)]
theorem NI(p:Int×Int)(m:List (Int×Int))(k:Int):Fx (p::m) k=if p.1=k then p.2 else Fx m k:=by
 grind [Fx]
theorem Qu(v j:Int):Fx (LW m k v) j=if j=k then v else Fx m j:=by
 unfold LW;split
 .rename_i h
  induction m with
  |nil=>simp_all
  |cons p m ih=>
   rw[BB,NI,NI]
   by_cases e:p.1=k
   .rw[Ay e];dsimp only
    by_cases ej:j=k
    .omega
    .rw[Az (fun c=>ej c.symm),Az ej,Az (fun c=>ej (c.symm.trans e))]
     by_cases hm:(m.any fun p=>decide (p.1=k))=true
     .simp_all
     .have:∀q∈m,q.1≠k:=fun q hq e=>hm (BC.2 ⟨q,hq,by simp[e]⟩)
      have:m.map (fun p=>if p.1=k then(k,v)else p)=m:=by
       conv=>rhs;rw[<-Hl m]
       grind [List.map_congr_left]
      simp_all
   grind
 .rename_i h;have hn:∀q∈m,q.1≠k:=fun q hq e=>h (BC.2 ⟨q,hq,by simp[e]⟩)
  induction m<;>grind [NI]
def Fa:List Int:=m.map (·.1)
theorem Xm(v:Int):Fa (LW m k v)=if k∈Fa m then Fa m else Fa m++[k]:=by
 grind [LW,Fa,List.map_congr_left]
theorem MS{m:List (Int×Int)}(h:(Fa m).Nodup)(k v:Int):(Fa (LW m k v)).Nodup:=by
 grind [Xm]
theorem Lb(v j:Int):j∈Fa (LW m k v)↔j=k\/j∈Fa m:=by
 grind [Xm]
theorem p6{m:List (Int×Int)}(h:(Fa m).Nodup){p:Int×Int}(hp:p∈m):Fx m p.1=p.2:=by
 induction m<;>grind [NI,Fa]
theorem p7{m:List (Int×Int)}{k:Int}(h:k∉Fa m):Fx m k=0:=by
 unfold Fx
 have:m.find? (fun p=>decide (p.1=k))=none:=by
  rw[List.find?_eq_none];intro p hp;simp only[Bd];exact fun e=>h (Ax.2 ⟨p,hp,e⟩)
 grind
-- counting
def cF(k:Int):Nat:=S.countP fun x=>decide (x.1=k)
def cT(k:Int):Nat:=S.countP fun x=>decide (x.2=k)
def lF(k:Int):Nat:=S.countP fun x=>decide (x.1<=k)
def lT(k:Int):Nat:=S.countP fun x=>decide (x.2<=k)
theorem Jl{α:Type}{p q r:α->Bool}:∀{l:List α},(∀x∈l,(p x=true↔q x=true\/r x=true)/\¬(q x=true/\r x=true))->l.countP p=l.countP q+l.countP r
 | [],_=>rfl
 |x::l,h=>by
  have ih:=Jl fun y hy=>h y (Ao _ hy)
  grind
structure FV(m:List (Int×Int))(S:A1):Prop where
 nd:(Fa m).Nodup
 val:∀k,Fx m k=(cF S k:Int)-cT S k
 keys:0∈Fa m/\1000000∈Fa m/\∀x∈S,x.1∈Fa m/\x.2∈Fa m
 rng:∀k∈Fa m,0<=k/\k<=1000000
def zK:List (Int×Int):=[(0,0),(1000000,0)]
theorem rv:FV zK []:=⟨by decide,fun k=>by
  grind [zK,Fx,cF,cT],⟨by decide,by decide,fun _ h=>by cases h⟩,fun k hk=>by
  grind [zK,Fa]⟩
def cq(x:Int×Int):List (Int×Int):=LW (LW m x.1 (Fx m x.1+1)) x.2 (Fx (LW m x.1 (Fx m x.1+1)) x.2-1)
theorem lc{m:List (Int×Int)}{S:A1}{x:Int×Int}(h:FV m S)(hx:0<=x.1/\x.1<x.2/\x.2<=1000000):FV (cq m x) (S++[x]):=by
 unfold cq;refine⟨MS (MS h.nd _ _) _ _,fun k=>?_,⟨?_,?_,fun y hy=>?_⟩,fun k hk=>?_⟩
 .rw[Qu,Qu,Qu,h.val,h.val,h.val];unfold cF cT;simp only[List.countP_append,List.countP_singleton,Bd]
  grind
 .grind [Lb,FV.keys]
 .grind [Lb,FV.keys]
 .grind [Lb,FV.keys]
 .rw[Lb,Lb]at hk;rcases hk with rfl | rfl | hk
  .omega
  .omega
  .exact h.rng k hk
def I4(B:List Int):Int:=(B.map (Fx m)).foldl (·+·) 0
theorem RB(B:List Int)(i:Nat)(h:i<B.length):I4 m (B.take (i+1))=I4 m (B.take i)+Fx m B[i]:=by
 grind [I4,List.take_add_one]
structure qR(B:List Int)(m:List (Int×Int)):Prop where
 perm:B.Perm (Fa m)
 srt:B.Pairwise fun a b=>a<b
theorem ir{m:List (Int×Int)}{S:A1}(h:FV m S)(hB:qR B m):∀i (hi:i<B.length),I4 m (B.take (i+1))=(lF S B[i]:Int)-lT S B[i]:=by
 have mem:∀k,k∈Fa m->∃j,∃hj:j<B.length,B[j]=k:=fun k hk=>by
  have:=hB.perm.mem_iff.2 hk
  grind [List.mem_iff_getElem]
 have lt:∀i j (hi:i<B.length) (hj:j<B.length),i<j->B[i]<B[j]:=fun i j hi hj aO=>(Bo.1 hB.srt) i j hi hj aO;intro i
 induction i with
 |zero=>
  intro hi;rw[RB m B 0 hi,h.val]
  have:I4 m (B.take 0)=0:=by simp[I4]
  rw[this];have low:∀k∈Fa m,B[0]<=k:=fun k hk=>by
   grind
  have e1:lF S B[0]=cF S B[0]:=by
   grind [lF,cF,List.countP_congr,FV.keys]
  grind [lT,cT,List.countP_congr,FV.keys]
 |succ i ih=>
  intro hi;rw[RB m B (i+1) hi,ih ch,h.val];have nb:∀k∈Fa m,k<=B[i+1]↔k<=B[i]\/k=B[i+1]:=fun k hk=>by
   grind
  have l0:=lt i (i+1) ch hi ch;have e1:lF S B[i+1]=lF S B[i]+cF S B[i+1]:=by
   unfold lF cF;apply Jl
   grind [FV.keys]
  have e2:lT S B[i+1]=lT S B[i]+cT S B[i+1]:=by
   unfold lT cT;apply Jl
   grind [FV.keys]
  omega
theorem ah{S:A1}(hS:∀x∈S,x.1<x.2)(p:Int):(lF S p:Int)-lT S p=(S.countP (BX p):Nat):=by
 have:lF S p=S.countP (BX p)+lT S p:=by
  unfold lF lT
  grind [Jl,BX]
 omega
theorem Pq:∀{l:A1} {lo:Int} (p:Int),EI lo l->l.countP (BX p)=if l.any (BX p)then 1 else 0
 | [],_,_,_=>rfl
 |y::r,lo,p,⟨h1,h2,h3,h4⟩=>by
  rw[List.countP_cons,Pq p h4,Eh];cases hy:BX p y with
  |false=>grind
  |true=>
   have:=Eo.1 hy
   have:r.any (BX p)=false:=by
    rw[Bb];intro hr;have:=Pd h4 hr;omega
   simp_all
theorem MH:∀(l:List A1) (p:Int),((l.map canon).flatten).countP (BX p)=mB l p
 | [],_=>rfl
 |s::l,p=>by
  rw[BB,Cz,List.countP_append,MH l p,Pq p (Cc s),K5]
  grind [mB]
def Ez(keep:Nat->Bool)(m:List (Int×Int))(B:List Int):Nat->A1
 |0=>[]
 |i+1=>Ez keep m B i++(match B[i]?,B[i+1]? with
  |some a,some b=>if keep (I4 m (B.take (i+1))).toNat then [(a,b)]else []
  |_,_=>[])
theorem QV{keep:Nat->Bool}{m:List (Int×Int)}{B:List Int}{x:Int×Int}:∀{n:Nat},x∈Ez keep m B n↔∃i,i<n/\∃(h1:i<B.length) (h2:i+1<B.length),keep (I4 m (B.take (i+1))).toNat=true/\x=(B[i],B[i+1])
 |0=>by simp[Ez]
 |n+1=>by
  unfold Ez;rw[Bh,QV (n:=n)]
  grind
theorem Ph{B:List Int}(hs:B.Pairwise fun a b=>a<b){p:Int}:∀(n:Nat) (h0:0<B.length) (hn:n<B.length),B[0]<=p->p<B[n]->∃i,∃(h1:i<B.length) (h2:i+1<B.length),B[i]<=p/\p<B[i+1]
 |0,h0,hn,h1,h2=>by omega
 |n+1,h0,hn,h1,h2=>by
  by_cases e:B[n]<=p
  .grind
  .exact Ph hs n h0 ch h1 ch
theorem oc{keep:Nat->Bool}{l:List A1}{m:List (Int×Int)}(h:FV m (l.map canon).flatten)(hB:qR B m)(p:Int):has (Ez keep m B (B.length-1)) p=(SP p&&keep (mB l p)):=by
 have hS:∀x∈(l.map canon).flatten,x.1<x.2:=fun x hx=>by
  obtain⟨s,hs,hx⟩:=FP.1 hx;obtain⟨t,_,rfl⟩:=Ax.1 hs;exact((Cc t).low x hx).2.1
 have mem:∀k,k∈Fa m->∃j,∃hj:j<B.length,B[j]=k:=fun k hk=>by
  obtain⟨j,hj,e⟩:=Cw.1 (hB.perm.mem_iff.2 hk)<;>grind [List.mem_iff_getElem]
 have lt:∀i j (hi:i<B.length) (hj:j<B.length),i<j->B[i]<B[j]:=fun i j hi hj aO=>(Bo.1 hB.srt) i j hi hj aO;have rng:∀i (hi:i<B.length),0<=B[i]/\B[i]<=1000000:=fun i hi=>h.rng _ (hB.perm.mem_iff.1 (Ae hi))
 -- rf two bounds
 have rf:∀i (h1:i<B.length) (h2:i+1<B.length),B[i]<=p->p<B[i+1]->(I4 m (B.take (i+1))).toNat=mB l p:=fun i h1 h2 a b=>by
  have same:∀k∈Fa m,k<=B[i]↔k<=p:=fun k hk=>by
   grind
  have e1:lF (l.map canon).flatten B[i]=lF (l.map canon).flatten p:=by
   grind [lF,List.countP_congr,FV.keys]
  grind [lT,List.countP_congr,ir,ah,MH,FV.keys]
 rw[El];constructor
 .grind [has,QV,Eo,SP]
 .intro hh;simp only[Am,SP,Bd]at hh;obtain⟨⟨p0,p1⟩,hk⟩:=hh;obtain⟨j0,hj0,e0⟩:=mem 0 h.keys.1;obtain⟨j1,hj1,e1⟩:=mem 1000000 h.keys.2.1;have hb0:B[0]' ch<=p:=by
   grind
  obtain⟨i,h1,h2,a,b⟩:=Ph hB.srt j1 ch hj1 hb0 ch;unfold has;simp only[p0,p1,decide_true,Bool.true_and];exact BC.2 ⟨(B[i],B[i+1]),QV.2 ⟨i,by omega,h1,h2,by simp_all,rfl⟩,Eo.2 ⟨a,b⟩⟩
theorem pQ{l:List A1}{m:List (Int×Int)}(h:FV m (l.map canon).flatten)(hB:qR B m)(i:Nat)(hi:i<B.length):0<=I4 m (B.take (i+1))/\I4 m (B.take (i+1))<=l.length:=by
 have hS:∀x∈(l.map canon).flatten,x.1<x.2:=fun x hx=>by
  obtain⟨s,hs,hx⟩:=FP.1 hx;obtain⟨t,_,rfl⟩:=Ax.1 hs;exact((Cc t).low x hx).2.1
 rw[ir h hB i hi,ah hS,MH]
 grind [mB]
end Go.Eng
