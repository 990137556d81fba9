/- Lemmas 1. -/
import Derived.Test.YtkjhcikodmiceaaGreatDoorVA00
namespace Go.Eng
variable {a b:ByteArray}{lo:Option ByteArray}{α:Type}(c:UInt8)(p:ByteArray)
def BP(p:Int)(s:Int×Int):Bool:=decide (s.1<=p)&&decide (p<s.2)
def has(s:List (Int×Int))(p:Int):Bool:=decide (0<=p)&&decide (p<1000000)&&s.any (BP p)
abbrev AL:=List (Int×Int)
def EJ(lo:Int):AL->Prop
 | []=>True
 |y::r=>lo<=y.1/\y.1<y.2/\y.2<=1000000/\EJ (y.2+1) r
abbrev Eo(l:AL):Prop:=EJ 0 l
def YS(x:Int×Int):AL->AL
 | []=>[x]
 |y::r=>if x.2<y.1 then x::y::r else if y.2<x.1 then y::YS x r else YS (min x.1 y.1,max x.2 y.2) r
def G8(x:Int×Int):Int×Int:=(max x.1 0,min x.2 1000000)
def canon:AL->AL
 | []=>[]
 |x::r=>if(G8 x).1<(G8 x).2 then YS (G8 x) (canon r)else canon r
def GK(at_:Int):AL->AL
 | []=>if at_<1000000 then [(at_,1000000)]else []
 |y::r=>if at_<y.1 then(at_,y.1)::GK y.2 r else GK y.2 r
def BV(s:AL):AL:=GK 0 (canon s)
def JZ(l:List AL):AL:=canon l.flatten
def MG(l:List AL):AL:=BV (l.map BV).flatten
def EY(a b:AL):AL:=JZ [a,b]
def Gw(a b:AL):AL:=MG [a,b]
def UF(a b:AL):AL:=Gw a (BV b)
theorem EJ.mono{lo Ij : Int}:∀{l:AL},EJ lo l->Ij<=lo->EJ Ij l
 | [],_,_=>trivial
 |_::_,⟨h1,h2,h3,h4⟩,h=>⟨Int.le_trans h h1,h2,h3,h4⟩
theorem EJ.low{lo:Int}:∀{l:AL},EJ lo l->∀y∈l,lo<=y.1/\y.1<y.2/\y.2<=1000000
 |y::r,⟨h1,h2,h3,h4⟩,z,hz=>by
  rcases AR.1 hz with rfl | hz
  .omega
  .have:=h4.low z hz
   omega
theorem Em{p:Int}{s:Int×Int}:BP p s=true↔s.1<=p/\p<s.2:=by simp[BP]
theorem Pb{lo:Int}{l:AL}(h:EJ lo l){p:Int}(hp:l.any (BP p)=true):lo<=p:=by
 obtain⟨y,hy,h2⟩:=BC.1 hp
 have:=h.low y hy
 grind [Em]
theorem ky{lo:Int}{l:AL}(h:EJ lo l){p:Int}(hp:l.any (BP p)=true):p<1000000:=by
 obtain⟨y,hy,h2⟩:=BC.1 hp
 have:=h.low y hy
 grind [Em]
theorem Oa:∀(l:AL) {lo:Int} {x:Int×Int},EJ lo l->lo<=x.1->x.1<x.2->x.2<=1000000->EJ lo (YS x l)
 | [],lo,x,_,h1,h2,h3=>⟨h1,h2,h3,trivial⟩
 |y::r,lo,x,⟨g1,g2,g3,g4⟩,h1,h2,h3=>by
  unfold YS;split
  .exact⟨h1,h2,h3,by omega,g2,g3,g4⟩
  .split
   .exact⟨g1,g2,g3,Oa r g4 Wk h2 h3⟩
   .refine Oa r (g4.mono Wk) ?_ ?_ ?_<;>dsimp only<;>omega
theorem O0:∀(l:AL) {lo:Int} {x:Int×Int} (p:Int),EJ lo l->x.1<x.2->(YS x l).any (BP p)=(BP p x||l.any (BP p))
 | [],lo,x,p,_,_=>by simp[YS]
 |y::r,lo,x,p,⟨g1,g2,g3,g4⟩,h2=>by
  unfold YS;split
  .simp
  .split
   .rw[EN,O0 r p g4 h2,EN,<-Bool.or_assoc,<-Bool.or_assoc,Bool.or_comm (BP p y)]
   .rw[O0 r p g4 Wk,EN,<-Bool.or_assoc]
    grind [BP]
theorem BG:∀s:AL,Eo (canon s)
 | []=>trivial
 |x::r=>by
  unfold canon;split
  .rename_i h;refine Oa _ (BG r) ?_ h ?_<;>simp only[G8]<;>omega
  .exact BG r
theorem KE:∀(s:AL) (p:Int),(canon s).any (BP p)=has s p
 | [],p=>by simp[has,canon]
 |x::r,p=>by
  have ih:=KE r p
  grind [canon,BP,G8,O0,BG,has]
theorem H7{l:AL}(h:Eo l)(p:Int):has l p=l.any (BP p):=by
 unfold has;cases e:l.any (BP p)with
 |false=>simp
 |true=>have h1:0<=p:=Pb h e;grind [ky]
theorem Ek(s:AL)(p:Int):has (canon s) p=has s p:=by
 rw[H7 (BG s),KE]
theorem NP:∀{a b:AL} {lo:Int},EJ lo a->EJ lo b->(∀p,a.any (BP p)=b.any (BP p))->a=b
 | [],[],_,_,_,_=>rfl
 | [],z::s,_,_,⟨g1,g2,g3,g4⟩,h=>by
  have:=h z.1
  grind [Em]
 |y::r,[],_,⟨g1,g2,g3,g4⟩,_,h=>by
  have:=h y.1
  grind [Em]
 |y::r,z::s,lo,⟨f1,f2,f3,f4⟩,⟨g1,g2,g3,g4⟩,h=>by
  have below:∀{x:Int×Int} {t:AL} {p:Int},EJ (x.2+1) t->(x::t).any (BP p)=true->p<=x.2->x.1<=p/\p<x.2:=fun {x t p} ht hp Js=>by
   rw[EN,HU]at hp;rcases hp with hp | hp
   .exact Em.1 hp
   .have:=Pb ht hp;omega
  have low:∀{x:Int×Int} {t:AL} {p:Int},x.1<x.2->EJ (x.2+1) t->(x::t).any (BP p)=true->x.1<=p:=fun {x t p} hx ht hp=>by
   grind
  have cov:∀{x:Int×Int} {t:AL} {p:Int},x.1<=p->p<x.2->(x::t).any (BP p)=true:=fun {x t p} h1 h2=>by
   grind [Em]
  have e1:y.1=z.1:=by
   grind
  have e2:y.2=z.2:=by
   rcases Int.lt_trichotomy y.2 z.2 with hl | he | hl
   .grind
   .exact he
   .have:=below g4 ((h z.2).symm.trans (cov Wk hl)) (Cb _);omega
  have e:y=z:=Prod.ext e1 e2;subst e
  congr 1
  refine NP f4 g4 fun p=>?_;have hp:=h p;simp only[EN]at hp;cases hs:BP p y with
  |false=>simp_all
  |true=>
   have:=Em.1 hs
   have n:∀{t:AL},EJ (y.2+1) t->t.any (BP p)=false:=fun {t} ht=>by
    rw[A8];intro hx;have:=Pb ht hx;omega
   grind
theorem Fy{a b:AL}(ha:Eo a)(hb:Eo b)(h:∀p,has a p=has b p):a=b:=
 NP ha hb fun p=>by rw[<-H7 ha,<-H7 hb,h]
theorem Tu{a s:AL}(ha:Eo a)(h:∀p,has a p=has s p):a=canon s:=
 Fy ha (BG s) fun p=>by rw[h,Ek]
theorem JI{a:AL}(ha:Eo a):canon a=a:=(Tu ha fun _=>rfl).symm
theorem Zc{s t:AL}(h:∀p,has s p=has t p):canon s=canon t:=Fy (BG s) (BG t) fun p=>by grind [Ek]
theorem On{s:AL}{p:Int}(h:has s p=true):0<=p/\p<1000000:=by
 grind [has]
def PM(p:Int):Bool:=decide (0<=p)&&decide (p<1000000)
theorem Ld:∀(l:AL) {at_ lo:Int},0<=at_->EJ lo l->lo<=at_+1->at_<=lo->EJ at_ (GK at_ l)/\∀p,(GK at_ l).any (BP p)=(decide (at_<=p)&&decide (p<1000000)&&!l.any (BP p))
 | [],at_,lo,h0,_,h1,h2=>by
  unfold GK;split
  .exact⟨⟨Cb _,by omega,Cb _,trivial⟩,fun p=>by simp[BP]⟩
  .refine⟨trivial,fun p=>?_⟩
   grind
 |y::r,at_,lo,h0,⟨g1,g2,g3,g4⟩,h1,h2=>by
  have ih:=Ld r (at_:=y.2) Wk g4 (Cb _) Wk;have key:∀p,(decide (at_<=p)&&decide (p<y.1)||(GK y.2 r).any (BP p))=(decide (at_<=p)&&decide (p<1000000)&&!(y::r).any (BP p)):=fun p=>by
   rw[ih.2,EN];cases hr:r.any (BP p)with
   |true=>
    have:=Pb g4 hr
    grind
   |false=>
    grind [BP]
  unfold GK;split
  .rename_i h;refine⟨⟨Cb _,h,by omega,ih.1 |> fun c=>?_⟩,fun p=>?_⟩
   .dsimp only;cases e:GK y.2 r with
    |nil=>trivial
    |cons z s=>
     rw[e]at c;exact⟨by have:=c.1;omega,c.2⟩
   .rw[EN,<-key];rfl
  grind [EJ.mono]
theorem GL(s:AL):Eo (BV s):=by
 grind [BV,Ld,BG]
theorem Fu(s:AL)(p:Int):has (BV s) p=(PM p&&!has s p):=by
 rw[H7 (GL s)];unfold BV;rw[(Ld _ (Cb _) (BG s) Wk (Cb _)).2,KE];rfl
theorem cL(a b:AL)(p:Int):has (a++b) p=(has a p||has b p):=by
 grind [has]
theorem Mz:∀(l:List AL) (p:Int),has l.flatten p=l.any fun s=>has s p
 | [],p=>by simp[has]
 |s::l,p=>by rw[Ck,cL,Mz l p,EN]
theorem T8(l:List AL)(p:Int):has (JZ l) p=l.any fun s=>has s p:=by
 unfold JZ;rw[Ek,Mz]
theorem LQ(l:List AL):Eo (JZ l):=BG _
theorem Yb(l:List AL):Eo (MG l):=GL _
theorem T7(l:List AL)(p:Int):has (MG l) p=(PM p&&l.all fun s=>has s p):=by
 grind [MG,Fu,Mz,List.any_map]
theorem bu(a b:AL):Eo (EY a b):=BG _
theorem IN(a b:AL):Eo (Gw a b):=GL _
theorem iC(a b:AL)(p:Int):has (EY a b) p=(has a p||has b p):=by
 grind [EY,T8]
theorem Ni(a b:AL)(p:Int):has (Gw a b) p=(has a p&&has b p):=by
 grind [Gw,T7,On,PM]
theorem iB(a b:AL)(p:Int):has (UF a b) p=(has a p&&!has b p):=by
 grind [UF,Ni,Fu,On,PM]
theorem c8(s:AL):Gw s s=canon s:=Fy (IN _ _) (BG _) fun p=>by grind [Ni,Ek]
theorem VD{s:AL}:canon s=[]↔∀p,has s p=false:=by
 constructor
 .intro h p;rw[<-Ek,h];simp[has]
 .intro h;exact Fy (BG s) (b:=[]) trivial fun p=>by grind [Ek,has]
theorem Ra{s:AL}(hs:Eo s):s=[]↔∀p,has s p=false:=by
 rw[<-VD,JI hs]
theorem Zg{s t:AL}(h:∀p,has s p=has t p):BV s=BV t:=by grind [BV,Zc]
theorem XI(s:AL):BV (canon s)=BV s:=Zg (Ek s)
theorem ah{a b c d:AL}(h:∀p,has a p=has c p)(k:∀p,has b p=has d p):Gw a b=Gw c d:=
 Fy (IN _ _) (IN _ _) fun p=>by grind [Ni]
def lh(l:List AL)(p:Int):Nat:=l.countP fun s=>has s p
theorem Tt:∀{l:AL} {lo:Int},EJ lo l->lo<=1000000->(l.length:Int)<=1000000-lo
 | [],lo,_,h=>by simp_all
 |y::r,lo,⟨g1,g2,g3,g4⟩,h=>by
  by_cases h3:y.2+1<=1000000
  .have:=Tt g4 h3
   grind
  .cases r with
   |nil=>grind
   |cons z s=>have:=g4.1;have:=g4.2.1;have:=g4.2.2.1;omega
theorem E6{l:AL}(h:Eo l):l.length<=1000000:=by have:=Tt h Wk;omega
structure Ver where
 (a b c:Int)
variable (v:Ver)
structure Rq where
 path:ByteArray
 set:List (Int×Int)
variable {roots:List Rq}(q:Rq)
structure Rl where
 path:ByteArray
 ver:Ver
 reqs:List Rq
 (arch ifc cert:ByteArray)
 yanked:Bool
variable {x:List Rl}(r:Rl)
structure Sl where
 path:ByteArray
 ver:Ver
variable {s:List Sl}{y:Sl}
structure Tm where
 path:ByteArray
 absent:Bool
 set:List (Int×Int)
variable (l:List Tm)(u t:Tm)
structure Nf where
 kind:Int
 path:ByteArray
 (place number left right:Int)
structure Sk where
 path:ByteArray
 (place inf:Int)
structure An where
 found:Bool
 sel:List Sl
 infs:List Nf
 skips:List Sk
instance:DecidableEq Ver:=fun x y=>decidable_of_iff (x.a=y.a/\x.b=y.b/\x.c=y.c) ⟨fun⟨h1,h2,h3⟩=>by cases x<;>simp_all,fun h=>by simp_all⟩
instance:DecidableEq Sl:=fun x y=>decidable_of_iff (x.path=y.path/\x.ver=y.ver) ⟨fun⟨h1,h2⟩=>by cases x<;>simp_all,fun h=>by simp_all⟩
instance:DecidableEq Tm:=fun x y=>decidable_of_iff (x.path=y.path/\x.absent=y.absent/\x.set=y.set) ⟨fun⟨h1,h2,h3⟩=>by cases x<;>simp_all,fun h=>by simp_all⟩
theorem vM{x y:Tm}(h1:x.path=y.path)(h2:x.absent=y.absent)(h3:x.set=y.set):x=y:=by cases x<;>simp_all
def okPart(n:Int):Prop:=0<=n/\n<=999
instance (n:Int):Decidable (okPart n):=by unfold okPart;infer_instance
def By:Bool:=decide (okPart v.a)&&decide (okPart v.b)&&decide (okPart v.c)
def place:Int:=1000*v.b+v.c
def plc:Int:=if By v then place v else 0
def Mf:Sl:=⟨⟨#[]⟩,⟨0,0,0⟩⟩
def AF(s:List Sl)(p:ByteArray):Option Sl:=s.find? fun x=>decide (x.path=p)
def E4(s:List Sl):Bool:=
 match s.find? (fun x=>decide (x.path=t.path))with
 |none=>t.absent
 |some x=>By x.ver&&has t.set (place x.ver)
def BS(s:List Sl)(p:ByteArray):Bool:=s.any fun x=>decide (x.path=p)
def AX(s:List Sl):Bool:=l.all fun t=>E4 t s
def Bp(s:List Sl):Bool:=AX l s&&!l.any fun t=>!BS s t.path
def bp(a:An):Bool:=decide (a.infs.length<=400)&&decide (a.sel.length<=16)&&decide (a.skips.length<=100)
def KN:List UInt8->List UInt8->Bool
 | [],[]=>false
 | [],_::_=>true
 |_::_,[]=>false
 |a::x,b::y=>decide (a<b)||(decide (a=b)&&KN x y)
def Ez(a b:ByteArray):Bool:=KN a.data.toList b.data.toList
theorem RW:∀x,KN x x=false
 | []=>rfl
 |a::x=>by
  unfold KN;simp[RW x]
theorem Uz:∀{x y z},KN x y=true->KN y z=true->KN x z=true
 | [],[],_,h,_=>by omega
 | [],_::_,[],_,h=>by grind [KN]
 | [],_::_,_::_,_,_=>rfl
 |_::_,[],_,h,_=>by grind [KN]
 |_::_,_::_,[],_,h=>by grind [KN]
 |a::x,b::y,c::z,h1,h2=>by
  unfold KN at *
  simp only[HU,Ak,A4]at *
  rcases h1 with h1 | ⟨rfl,h1⟩
  .grind
  .rcases h2 with h2 | ⟨rfl,h2⟩
   .simp_all
   .exact .inr ⟨rfl,Uz h1 h2⟩
theorem au:∀{x y},KN x y=false->KN y x=false->x=y
 | [],[],_,_=>rfl
 | [],_::_,h,_=>by grind [KN]
 |_::_,[],_,h=>by grind [KN]
 |a::x,b::y,h1,h2=>by
  unfold KN at *
  simp only[Bool.or_eq_false_iff,Bool.and_eq_false_iff,decide_eq_false_iff_not]at *
  have e:a=b:=by
   grind
  subst e
  have:=au (x:=x) (y:=y) (by simp_all) (by simp_all)
  simp_all
theorem AaZ(h:a.data.toList=b.data.toList):a=b:=by
 cases a<;>simp_all
theorem Dg(a:ByteArray):Ez a a=false:=RW _
theorem Ei{c:ByteArray}(h:Ez a b=true)(k:Ez b c=true):Ez a c=true:=Uz h k
theorem Iy(h:Ez a b=false)(k:Ez b a=false):a=b:=AaZ (au h k)
theorem To(h:Ez a b=true):a≠b:=fun e=>by grind [Dg]
theorem gP(h:Ez a b=true):Ez b a=false:=by
 grind [Ei,Dg]
def Df:Tm:=⟨t.path,t.absent,canon t.set⟩
def EH:Tm:=⟨u.path,u.absent&&t.absent,Gw u.set t.set⟩
def Hw(t:Tm):List Tm->List Tm
 | []=>[Df t]
 |u::r=>if Ez u.path t.path then u::Hw t r else if u.path=t.path then EH u t::r else Df t::u::r
def Db:List Tm:=l.foldl (fun acc t=>Hw t acc) []
def F4:Bool:=!t.absent&&t.set.isEmpty
def Fx:Bool:=t.absent&&decide (t.set=[(0,1000000)])
def A7:Option (List Tm):=if(Db l).any F4 then none else some ((Db l).filter fun t=>!Fx t)
def BU:List Tm:=(A7 l).getD []
def Dw:Tm:=⟨q.path,true,BV q.set⟩
def Gy:List Tm:=BU [Dw q]
def BM(path:ByteArray)(pl:Int)(q:Rq):List Tm:=BU [⟨path,false,[(pl,pl+1)]⟩,Dw q]
def D7(path:ByteArray)(wS:AL):List Tm:=BU [⟨path,false,BV wS⟩]
def Dp(p:ByteArray):Option Tm:=l.find? fun t=>decide (t.path=p)
def AI(p:ByteArray):List Tm:=l.filter fun t=>!decide (t.path=p)
def CJ(a b:Tm):Tm:=⟨a.path,a.absent||b.absent,EY a.set b.set⟩
def DS(p:ByteArray):Option (Tm×List Tm):=match A7 l with
 |none=>none
 |some c=>match Dp c p with
  |none=>none
  |some t=>some (t,AI c p)
def AU(a b:List Tm)(p:ByteArray):List Tm×Int:=
 match DS a p,DS b p with
 |some (t,r),some (u,m)=>match A7 (r++m++[CJ t u])with
  |some o=>(o,0)
  |none=>([],8)
 |_,_=>([],1)
def BN(lo:Option ByteArray):List Tm->Prop
 | []=>True
 |t::r=>(∀p,lo=some p->Ez p t.path=true)/\Eo t.set/\BN (some t.path) r
theorem BN.weak:∀{l:List Tm},BN lo l->BN none l
 | [],_=>trivial
 |_::_,⟨_,h2,h3⟩=>⟨fun _ h=>(by cases h),h2,h3⟩
theorem BN.low{p:ByteArray}:∀{l:List Tm},BN (some p) l->∀t∈l,Ez p t.path=true
 |t::r,⟨h1,h2,h3⟩,u,hu=>by
  rcases AR.1 hu with rfl | hu
  .simp_all
  .exact Ei (h1 p rfl) (h3.low u hu)
theorem BN.canon{lo:Option ByteArray}:∀{l:List Tm},BN lo l->∀t∈l,Eo t.set
 |t::r,⟨h1,h2,h3⟩,u,hu=>by
  rcases AR.1 hu with rfl | hu
  .exact h2
  .exact h3.canon u hu
theorem BN.mono{p q:ByteArray}:∀{l:List Tm},BN (some p) l->Ez q p=true->BN (some q) l
 | [],_,_=>trivial
 |t::r,⟨h1,h2,h3⟩,h=>⟨fun _ e=>by grind [Ei],h2,h3⟩
theorem MF:∀{l:List Tm} {lo:Option ByteArray} (t:Tm),BN lo l->(∀p,lo=some p->Ez p t.path=true)->BN lo (Hw t l)
 | [],lo,t,_,h=>⟨h,BG _,trivial⟩
 |u::r,lo,t,⟨h1,h2,h3⟩,h=>by
  unfold Hw;split
  .rename_i ET;exact⟨h1,h2,MF t h3 fun p e=>by simp_all⟩
  .rename_i ET;split
   .rename_i he;exact⟨h1,IN _ _,h3⟩
   .rename_i he;refine⟨h,BG _,fun p e=>?_,h2,h3⟩;cases e
    have:Ez u.path t.path=false:=by simp_all
    cases hb:Ez t.path u.path with
    |true=>exact hb
    |false=>grind [Iy]
theorem PD:∀(l acc:List Tm),BN none acc->BN none (l.foldl (fun acc t=>Hw t acc) acc)
 | [],_,h=>h
 |t::l,acc,h=>PD l _ (MF t h fun _ e=>by cases e)
theorem DL:BN none (Db l):=PD l [] trivial
theorem EK(r:List Tm)(p:ByteArray):Dp (t::r) p=if t.path=p then some t else Dp r p:=by
 grind [Dp]
theorem Ka{p q:ByteArray}{l:List Tm}(h:BN (some p) l)(hq:Ez p q=false):Dp l q=none:=by
 grind [Dp,BN.low]
def Sz(o:Option Tm)(t:Tm):Tm:=match o with | none=>Df t | some u=>EH u t
theorem Rf(o:Option Tm)(t:Tm)(h:∀u,o=some u->u.path=t.path):(Sz o t).path=t.path:=by
 cases o with
 |none=>rfl
 |some u=>exact h u rfl
theorem Ll{l:List Tm}{p:ByteArray}{u:Tm}(h:Dp l p=some u):u.path=p:=by
 have:=FG h;simp_all
theorem GZ{l:List Tm}{p:ByteArray}{u:Tm}(h:Dp l p=some u):u∈l:=Br h
theorem TR:∀{l:List Tm} {lo:Option ByteArray} (t:Tm) (p:ByteArray),BN lo l->Dp (Hw t l) p=if t.path=p then some (Sz (Dp l p) t)else Dp l p
 | [],lo,t,p,_=>by
  grind [Hw,Df,Dp,Sz]
 |u::r,lo,t,p,⟨h1,h2,h3⟩=>by
  unfold Hw;split
  .rename_i ET;rw[EK,EK,TR t p h3]
   grind [To]
  grind [EK,EH,Sz,Df,Ka]
def Km(o:Option Tm)(t:Tm):Option Tm:=if t.path=p then some (Sz o t)else o
theorem RP(p:ByteArray):∀(l acc:List Tm),BN none acc->Dp (l.foldl (fun acc t=>Hw t acc) acc) p=l.foldl (Km p) (Dp acc p)
 | [],_,_=>rfl
 |t::l,acc,h=>by
  rw[FH,RP p l _ (MF t h fun _ e=>by cases e),TR t p h];rfl
theorem Jq(p:ByteArray):Dp (Db l) p=l.foldl (Km p) none:=RP p l [] trivial
theorem M2:∀{a b:List Tm} {lo:Option ByteArray},BN lo a->BN lo b->(∀p,Dp a p=Dp b p)->a=b
 | [],[],_,_,_,_=>rfl
 | [],z::s,_,_,_,h=>by have:=h z.path;rw[EK,A3 rfl]at this;cases this
 |z::s,[],_,_,_,h=>by have:=h z.path;rw[EK,A3 rfl]at this;cases this
 |y::r,z::s,lo,⟨f1,f2,f3⟩,⟨g1,g2,g3⟩,h=>by
  have e:y=z:=by
   have a1:=h y.path;have a2:=h z.path
   grind [EK,BN.low,GZ,Ei,Dg]
  subst e
  congr 1
  refine M2 f3 g3 fun p=>?_;have hp:=h p
  grind [EK,Ka,Dg]
theorem BN.filter(q:Tm->Bool):∀{l:List Tm} {lo:Option ByteArray},BN lo l->BN lo (l.filter q)
 | [],_,_=>trivial
 |t::r,lo,⟨h1,h2,h3⟩=>by
  have ih:=BN.filter q h3;rw[List.filter_cons];split
  .exact⟨h1,h2,ih⟩
  .cases lo<;>grind [BN.weak,BN.mono]
theorem GQ{l:List Tm}{t:Tm}(h:BN lo l):t∈l↔Dp l t.path=some t:=by
 constructor
 .induction l generalizing lo with
  |nil=>simp_all
  |cons u r ih=>
   intro ht;rw[EK];rcases AR.1 ht with rfl | ht
   .simp_all
   .have:=BN.low h.2.2 t ht
    rw[AN (To this)];exact ih h.2.2 ht
 .exact GZ
def Da(o:Option Sl):Bool:=match o with | none=>t.absent | some x=>By x.ver&&has t.set (place x.ver)
theorem mp(s:List Sl):E4 t s=Da t (AF s t.path):=by
 unfold E4 Da AF;rfl
theorem J9{p:ByteArray}{x:Sl}(h:AF s p=some x):x.path=p:=by
 have:=FG h;simp_all
theorem GP{p:ByteArray}{x:Sl}(h:AF s p=some x):x∈s:=Br h
theorem Kd{p:ByteArray}:BS s p=(AF s p).isSome:=by
 grind [BS,AF]
theorem cP(o:Option Sl):Da (Df t) o=Da t o:=by
 unfold Da Df;grind [Ek]
theorem ZR(o:Option Sl):Da (EH u t) o=(Da u o&&Da t o):=by
 unfold Da EH;cases o<;>grind [Ni]
theorem NZ(o:Option Sl):Da (CJ u t) o=(Da u o||Da t o):=by
 unfold Da CJ;cases o<;>grind [iC]
def gC(o:Option Sl)(l:List Tm):Bool:=l.all fun t=>!decide (t.path=p)||Da t o
theorem Kb(p:ByteArray)(o:Option Sl):∀(l:List Tm) (a:Option Tm),(∀u,a=some u->u.path=p) ->
  (l.foldl (Km p) a=none↔a=none/\l.all (fun t=>!decide (t.path=p))=true)/\(∀u,l.foldl (Km p) a=some u->u.path=p/\Da u o=((match a with | none=>true | some b=>Da b o)&&gC p o l))
 | [],a,ha=>by
  grind [gC]
 |t::l,a,ha=>by
  rw[FH]
  by_cases e:t.path=p
  .have hs:Km p a t=some (Sz a t):=by grind [Km]
   rw[hs];have ih:=Kb p o l (some (Sz a t)) (fun u h=>by grind [Rf])
   grind [gC,Sz,cP,ZR]
  .have hs:Km p a t=a:=by grind [Km]
   rw[hs];have ih:=Kb p o l a ha
   grind [gC]
theorem Bs{l:List Tm}:AX l s=true↔∀t∈l,Da t (AF s t.path)=true:=by
 grind [AX,mp]
theorem L5(s:List Sl):AX (Db l) s=AX l s:=by
 rw[Cy,Bs,Bs];constructor
 .intro h t ht
  have:=Kb t.path (AF s t.path) l none (fun _ e=>by cases e)
  rw[<-Jq]at this;cases e:Dp (Db l) t.path<;>grind [GZ,gC]
 .intro h u hu;have e:=(GQ (DL l)).1 hu
  have:=Kb u.path (AF s u.path) l none (fun _ e=>by cases e)
  grind [Jq,gC]
theorem dn{t:Tm}(h:F4 t=true)(o:Option Sl):Da t o=false:=by
 unfold F4 at h;simp only[Ak,EO,IU]at h;unfold Da
 grind [has]
def Gn(s:List Sl):Prop:=∀x∈s,By x.ver=true
theorem FZ{v:Ver}(h:By v=true):0<=v.a/\v.a<=999/\0<=v.b/\v.b<=999/\0<=v.c/\v.c<=999:=by
 unfold By at h;simp only[Ak]at h;obtain⟨⟨a,b⟩,c⟩:=h;obtain⟨a1,a2⟩:=CA a;obtain⟨b1,b2⟩:=CA b;obtain⟨c1,c2⟩:=CA c<;>simp_all
theorem JS{v:Ver}(h:By v=true):0<=place v/\place v<1000000:=by
 have:=FZ h;grind [place]
theorem VA{t:Tm}(h:Fx t=true)(hs:Gn s):Da t (AF s t.path)=true:=by
 unfold Fx at h;simp only[Ak,A4]at h;unfold Da;cases e:AF s t.path with
 |none=>exact h.1
 |some x=>
  have:=hs x (GP e)
  grind [JS,has,BP]
theorem De{l:List Tm}(hs:Gn s):AX l s=(match A7 l with | none=>false | some c=>AX c s):=by
 unfold A7;split
 .rename_i h;split at h
  .rename_i hn;rw[<-L5,A8]
   grind [Bs,dn]
  simp_all
 .rename_i c h;split at h
  .cases h
  .rename_i hn;cases h;rw[<-L5,Cy,Bs,Bs]
   grind [VA]
theorem Hu(a b:List Tm)(s:List Sl):AX (a++b) s=(AX a s&&AX b s):=by grind [AX]
theorem E2{l c:List Tm}(h:A7 l=some c):BN none c:=by
 grind [A7,BN.filter,DL]
theorem GV{l r:List Tm}{p:ByteArray}{t:Tm}(hs:Gn s)(h:DS l p=some (t,r)):AX l s=(Da t (AF s p)&&AX r s)/\t.path=p:=by
 unfold DS at h;cases hc:A7 l with
 |none=>simp_all
 |some c=>
  rw[hc]at h;dsimp only at h;cases hf:Dp c p with
  |none=>simp_all
  |some u=>
   rw[hf]at h;cases h;have hp:=Ll hf;refine⟨?_,hp⟩;rw[De hs,hc];dsimp only;rw[Cy,Ak,Bs,Bs];constructor
   .intro h
    have:=h t (GZ hf)
    rw[hp]at this;exact⟨this,fun v hv=>h v (Cr.1 hv).1⟩
   .intro⟨h1,h2⟩ v hv
    by_cases e:v.path=p
    .have:=(GQ (E2 hc)).1 hv
     simp_all
    .exact h2 v (Cr.2 ⟨hv,by simp[e]⟩)
theorem U6{a b o:List Tm}{p:ByteArray}(hs:Gn s)(h:AU a b p=(o,0))(hv:AX o s=true):AX a s=true\/AX b s=true:=by
 unfold AU at h;cases h1:DS a p with
 |none=>simp_all
 |some x=>
  cases h2:DS b p with
  |none=>simp_all
  |some y=>
   obtain⟨t,r⟩:=x;obtain⟨u,m⟩:=y;rw[h1,h2]at h;dsimp only at h;cases hc:A7 (r++m++[CJ t u])with
   |none=>simp_all
   |some c=>
    rw[hc]at h
    have:c=o:=by simp_all
    subst this;have e:=De (l:=r++m++[CJ t u]) hs;rw[hc]at e;dsimp only at e;rw[hv,Hu,Hu]at e;simp only[Ak]at e;obtain⟨⟨e1,e2⟩,e3⟩:=e;obtain⟨va,pa⟩:=GV hs h1;obtain⟨vb,pb⟩:=GV hs h2;have e3:=Bs.1 e3 _ (AJ.2 rfl)
    grind [CJ,NZ]
theorem Rb{l:List Tm}(hs:Gn s)(EG:BU l≠[]):AX (BU l) s=AX l s:=by
 grind [De,BU]
-- paths
def ED:Bool:=decide (97<=c)&&decide (c<=122)
def Mn:Bool:=decide (65<=c)&&decide (c<=90)
def Cn:Bool:=decide (48<=c)&&decide (c<=57)
def FS:Bool:=ED c||Mn c||Cn c||decide (c=95)
def de:List UInt8:=[32,97,110,100,32,97,110,121,32,97,115,32,98,111,111,108,32,100,101,112,114,101,99,97,116,101,100,32,101,108,115,101,32,101,120,112,111,114,116,32,102,97,108,115,101,32,102,110,32,102,111,108,100,32,102,114,111,109,32,105,102,32,105,109,112,111,114,116,32,105,110,32,105,110,116,32,108,101,110,103,116,104,32,108,101,116,32,108,105,115,116,32,109,97,116,99,104,32,109,111,100,117,108,101,32,110,111,110,101,32,110,111,116,32,111,114,32,116,101,120,116,32,116,104,101,110,32,116,114,117,101,32,116,121,112,101,32,117,115,101,32]
def Qi:List UInt8->List UInt8->Bool
 | [],_=>true
 |_::_,[]=>false
 |a::x,b::y=>decide (a=b)&&Qi x y
def oU(x:List UInt8):List UInt8->Bool
 | []=>Qi x []
 |b::y=>Qi x (b::y)||oU x y
def VL(s:List UInt8):Bool:=oU (32::(s++[32])) de
def Gx(s:List UInt8):Bool:=!s.isEmpty&&decide (s.length<=32)&&ED (s.headD 0)&&s.all FS&&!VL s
def HH(s:List UInt8):Bool:=Gx s&&s.all fun c=>ED c||Cn c
def DW(s:List UInt8):Int:=s.foldl (fun n c=>10*n+((c.toNat:Int)-48)) 0
def Gr(s:List UInt8):Option Int:=match s with
 |c::r=>if c=118 then(if r.isEmpty||decide (3<r.length)||(decide (1<r.length)&&decide (r.headD 0=48))||!r.all Cn then none else some (DW r))else none
 | []=>none
def CD(c:UInt8):List UInt8->List (List UInt8)
 | []=>[[]]
 |b::r=>if b=c then []::CD c r else match CD c r with
  | []=>[[b]]
  |x::l=>(b::x)::l
def QW(p:List UInt8):Option Int:=match Gr ((CD 47 p).getLastD [])with
 |none=>none
 |some n=>if 64<p.length||(CD 47 p).length<2 then none else if(CD 47 p).all HH then some n else none
def AT:Option Int:=QW p.data.toList
-- indexes
def Hd(before:Option ByteArray)(q:Rq):Int:=
 if(AT q.path).isNone then 4 else if q.set.isEmpty||!decide (q.set=canon q.set)||(match before with | some b=>!Ez b q.path | none=>false)then 1 else 0
def D2(before:Option ByteArray):List Rq->Int
 | []=>0
 |q::r=>if Hd before q=0 then D2 (some q.path) r else Hd before q
def AH(l:List Rq):Int:=if 16<l.length then 7 else D2 none l
def CI(s:ByteArray):Bool:=decide (s.size=0)||decide (s.size=32)
def CP:Int:=match AT r.path with
 |none=>4
 |some m=>if !By r.ver||!decide (r.ver.a=m)then 2 else if AH r.reqs≠0 then AH r.reqs else if CI r.arch&&CI r.ifc&&CI r.cert then 0 else 1
def Gc(a b:Int):Int:=if a<b then -1 else if b<a then 1 else 0
def Jm(a b:ByteArray):Int:=if Ez a b then -1 else if Ez b a then 1 else 0
def Jn(a b:Ver):Int:=if Gc a.a b.a≠0 then Gc a.a b.a else if Gc a.b b.b≠0 then Gc a.b b.b else Gc a.c b.c
def IJ(a b:Rl):Int:=if Jm a.path b.path≠0 then Jm a.path b.path else Jn a.ver b.ver
def Cp:Sl:=⟨r.path,r.ver⟩
def B5(before:Option Rl):List Rl->Int
 | []=>0
 |r::l=>if CP r≠0 then CP r else match before with
  |none=>B5 (some r) l
  |some b=>if Cp b=Cp r then 5 else if 0<IJ b r then 1 else B5 (some r) l
def At(l:List Rl):Int:=if 256<l.length then 7 else B5 none l
def AY(x:List Rl)(y:Sl):Option Rl:=if At x≠0 then none else x.find? fun r=>decide (Cp r=y)
def It(x:List Rl)(p:ByteArray):List Rl:=if At x≠0 then []else x.filter fun r=>decide (r.path=p)
def A9(x:List Rl)(p:ByteArray):AL:=canon (((It x p).filter fun r=>!r.yanked).map fun r=>(plc r.ver,plc r.ver+1))
def KL(before:Option ByteArray):List Sl->Bool
 | []=>true
 |y::r=>(match before with |some b=>Ez b y.path |none=>true)&&KL (some y.path) r
def Bb(s:List Sl):Bool:=KL none s
-- solutions
def FK(x:List Rl):List Sl->Option (List Rl)
 | []=>some []
 |y::s=>match AY x y with
  |none=>none
  |some r=>match FK x s with
   |none=>none
   |some l=>some (r::l)
def B9(l:List Rl)(q:Rq):Bool:=match l.find? (fun r=>decide (r.path=q.path))with
 |none=>true
 |some r=>!has q.set (plc r.ver)
def Fc(l:List Rl)(p:ByteArray):List Rq:=match l.find? (fun r=>decide (r.path=p))with
 |none=>[]
 |some r=>r.reqs
def Fq(l:List Rl):Nat->List Rq->List ByteArray->List ByteArray
 |0,_,d=>d
 |_+1,[],d=>d
 |n+1,q::t,d=>if d.any (fun p=>decide (p=q.path))then Fq l n t d else Fq l n (t++Fc l q.path) (d++[q.path])
def Hh(l:List Rl)(roots:List Rq):Nat:=roots.length+(l.map fun r=>r.reqs.length).foldl (·+·) 0+1
def CW(x:List Rl)(roots:List Rq)(s:List Sl):Int:=
 if At x≠0 then 1 else if !Bb s then 1 else match FK x s with
  |none=>6
  |some l=>if l.any (fun r=>r.reqs.any (B9 l))then 17 else if roots.any (B9 l)then 17 else
   if(Fq l (Hh l roots) roots []).length<l.length then 8 else 0
-- derivations
def Dj(x:List Rl)(p:ByteArray)(pl:Int):Option Rl:=x.find? fun r=>decide (r.path=p)&&decide (plc r.ver=pl)
def mt:ByteArray:=⟨#[]⟩
def DN(l:List α)(i:Int):Option α:=if i<0 then none else l[i.toNat]?
def OE:Option (List Tm):=if l.isEmpty then none else some l
def AQ(x:List Rl)(roots:List Rq)(d:List (List Tm))(i:Nf):Option (List Tm):=
 if i.kind=0 then
  if i.path=mt/\i.place=0/\i.left=0/\i.right=0 then(DN roots i.number).map Gy else none
 else if i.kind=1 then
  if i.left=0/\i.right=0 then match Dj x i.path i.place with
   |none=>none
   |some r=>match DN r.reqs i.number with
    |none=>none
    |some q=>OE (BM i.path i.place q)
  else none
 else if i.kind=2 then
  if i.place=0/\i.number=0/\i.left=0/\i.right=0 then OE (D7 i.path (A9 x i.path))else none
 else if i.kind=3 then
  if i.place=0/\i.number=0 then match DN d i.left,DN d i.right with
   |some a,some b=>if(AU a b i.path).2=0 then some (AU a b i.path).1 else none
   |_,_=>none
  else none
 else none
def BH(x:List Rl)(roots:List Rq):List Nf->List (List Tm)->Option (List (List Tm))
 | [],d=>some d
 |i::l,d=>match AQ x roots d i with
  |none=>none
  |some t=>BH x roots l (d++[t])
def A1(x:List Rl)(roots:List Rq)(l:List Nf):List (List Tm)×Int:=
 if At x≠0\/AH roots≠0 then([],1)else if 65536<l.length then([],7)else match BH x roots l []with
  |none=>([],18)
  |some d=>(d,0)
def EC(d:List (List Tm)):Bool:=match d.getLast? with | some []=>true | _=>false
def Gf(x:List Rl)(roots:List Rq)(l:List Nf):Int:=
 if(A1 x roots l).2≠0 then(A1 x roots l).2 else if EC (A1 x roots l).1 then 0 else 18
-- decisions
def CG(before:List Sl):List Rq->Option ByteArray->Option ByteArray
 | [],acc=>acc
 |q::l,acc=>CG before l (if BS before q.path then acc else match acc with
  |none=>some q.path
  |some p=>if Ez q.path p then some q.path else some p)
def DM(needs:List Rq)(before:List Sl):Option ByteArray:=CG before needs none
structure V2 where
 before:List Sl
 needs:List Rq
 rel:Rl
def D4(x:List Rl)(s:List Sl):Nat->List Sl->List Rq->List V2×Bool
 |0,_,_=>([],true)
 |n+1,before,needs=>match DM needs before with
  |none=>([],true)
  |some p=>match AF s p with
   |none=>([],false)
   |some y=>match AY x y with
    |none=>([],false)
    |some r=>(⟨before,needs,r⟩::(D4 x s n (before++[y]) (needs++r.reqs)).1,(D4 x s n (before++[y]) (needs++r.reqs)).2)
def visits(x:List Rl)(roots:List Rq)(s:List Sl):List V2×Bool:=D4 x s (s.length+1) [] roots
-- answers
def Dx(d:List (List Tm))(v:V2):List Rl->List Sk->List Sk×Bool
 | [],k=>(k,true)
 |o::x,k=>
  if !decide (o.path=v.rel.path)||o.yanked||!decide (plc o.ver<plc v.rel.ver)then Dx d v x k else
  if v.needs.any (fun q=>decide (q.path=v.rel.path)&&!has q.set (plc o.ver))then Dx d v x k else
  match k with
  | []=>([],false)
  |y::k'=>if !decide (y.path=v.rel.path)||!decide (y.place=plc o.ver)then([],false)else match DN d y.inf with
   |none=>([],false)
   |some t=>if Bp t (v.before++[Cp o])then Dx d v x k' else([],false)
def B6(x:List Rl)(d:List (List Tm))(a:Bool×List Sk)(v:V2):Bool×List Sk:=
 (a.1&&(Dx d v x a.2).2&&!v.rel.yanked,(Dx d v x a.2).1)
def Dk(x:List Rl)(roots:List Rq)(a:An):Int:=
 if(A1 x roots a.infs).2≠0 then(A1 x roots a.infs).2 else
 if a.found=false then(if !a.sel.isEmpty||!a.skips.isEmpty||!EC (A1 x roots a.infs).1 then 18 else 0)else
 if CW x roots a.sel≠0 then 18 else
 if(((visits x roots a.sel).1.foldl (B6 x (A1 x roots a.infs).1) (true,a.skips)).1&&((visits x roots a.sel).1.foldl (B6 x (A1 x roots a.infs).1) (true,a.skips)).2.isEmpty)then 0 else 18
-- the example
def bs(l:List UInt8):ByteArray:=⟨⟨l⟩⟩
-- the order of releases
theorem KF{a b:Int}(h:Gc a b=0):a=b:=by
 grind [Gc]
theorem XH{a b:Int}(h:Gc a b<0):a<b:=by
 grind [Gc]
theorem Wn(h:Jm a b=0):a=b:=by
 grind [Jm,Iy]
theorem pG(h:Jm a b<0):Ez a b=true:=by
 grind [Jm]
def sQ(a b:Ver):Prop:=a.a<b.a\/(a.a=b.a/\(a.b<b.b\/(a.b=b.b/\a.c<b.c)))
def jc(a b:Rl):Prop:=Ez a.path b.path=true\/(a.path=b.path/\sQ a.ver b.ver)
theorem pI{a b:Ver}(h:Jn a b<0):sQ a b:=by
 unfold Jn at h;split at h
 .exact .inl (XH h)
 .rename_i h1;have h1:=KF (B2.1 h1);split at h
  .exact .inr ⟨h1,.inl (XH h)⟩
  .rename_i h2;exact .inr ⟨h1,.inr ⟨KF (B2.1 h2),XH h⟩⟩
theorem g8{a b:Ver}(h:Jn a b=0):a=b:=by
 unfold Jn at h;split at h
 .omega
 .rename_i h1;have h1:=KF (B2.1 h1);split at h
  .omega
  .rename_i h2;have h2:=KF (B2.1 h2);have h3:=KF h;cases a<;>simp_all
theorem Wo{a b:Rl}(h:IJ a b=0):Cp a=Cp b:=by
 grind [IJ,Wn,g8,Cp]
theorem pH{a b:Rl}(h:IJ a b<0):jc a b:=by
 unfold IJ at h;split at h
 .exact .inl (pG h)
 .rename_i h1;exact .inr ⟨Wn (B2.1 h1),pI h⟩
theorem je{a b c:Ver}(h:sQ a b)(k:sQ b c):sQ a c:=by grind [sQ]
theorem jd{a b c:Rl}(h:jc a b)(k:jc b c):jc a c:=by
 rcases h with h | ⟨h1,h2⟩
 .rcases k with k | ⟨k1,k2⟩
  .exact .inl (Ei h k)
  .exact .inl (k1▸h)
 .rcases k with k | ⟨k1,k2⟩
  .exact .inl (h1▸k)
  .exact .inr ⟨h1.trans k1,je h2 k2⟩
theorem Oz{a b:Rl}(h:jc a b)(k:Cp a=Cp b):False:=by
 unfold Cp at k;simp only[Sl.mk.injEq]at k;rcases h with h | ⟨_,h⟩<;>grind [Dg,sQ]
-- a valid index
structure J4(r:Rl):Prop where
 maj:AT r.path=some r.ver.a
 val:By r.ver=true
 reqs:AH r.reqs=0
theorem cg{r:Rl}(h:CP r=0):J4 r:=by
 grind [CP,J4.mk]
theorem Pk:∀{l:List Rl} {b:Option Rl},B5 b l=0->(∀r∈l,J4 r)/\(l.Pairwise jc/\∀c,b=some c->∀r∈l,jc c r)
 | [],b,_=>⟨fun _ h=>(by cases h),.nil,fun _ _ _ h=>(by cases h)⟩
 |r::l,b,h=>by
  unfold B5 at h;split at h
  .omega
  .rename_i h1;have hr:=cg (B2.1 h1);have go:B5 (some r) l=0->(∀c,b=some c->jc c r)->(∀z∈r::l,J4 z)/\((r::l).Pairwise jc/\∀c,b=some c->∀z∈r::l,jc c z):=fun h hc=>by
    obtain⟨i1,i2,i3⟩:=Pk h<;>grind [jd,List.Pairwise.cons]
   grind [pH,Wo]
theorem BB{l:List Rl}(h:At l=0):(∀r∈l,J4 r)/\l.Pairwise jc:=by
 grind [At,Pk]
theorem Us{l:List Rl}(h:l.Pairwise jc){a b:Rl}(ha:a∈l)(hb:b∈l)(hk:Cp a=Cp b):a=b:=by
 induction h<;>grind [Oz]
theorem YA{a b:Ver}(ha:By a=true)(hb:By b=true)(h1:a.a=b.a)(h2:place a=place b):a=b:=by
 have:=FZ ha
 have:=FZ hb
 unfold place at h2;have e1:a.b=b.b:=by omega
 have e2:a.c=b.c:=by omega
 cases a<;>simp_all
theorem J4.plc{r:Rl}(h:J4 r):plc r.ver=place r.ver:=by grind [plc,J4.val]
theorem ge{l:List Rl}(h:(∀r∈l,J4 r)/\l.Pairwise jc){a b:Rl}(ha:a∈l)(hb:b∈l)(h1:a.path=b.path)(h2:place a.ver=place b.ver):a=b:=by
 grind [Us,Cp,YA,J4.maj,J4.val]
theorem Cv{r:Rl}(h:AY x y=some r):At x=0/\r∈x/\Cp r=y:=by
 grind [AY]
structure oJ(x:List Rl)(roots:List Rq)(s:List Sl):Prop where
 ix:At x=0
 inc:Bb s=true
 fnd:∀y∈s,∃r,AY x y=some r/\r.yanked=false
 root:∀q∈roots,∃y,AF s q.path=some y/\has q.set (place y.ver)=true
 req:∀y∈s,∀r,AY x y=some r->∀q∈r.reqs,∃z,AF s q.path=some z/\has q.set (place z.ver)=true
theorem Iq:∀{s:List Sl} {b:Option ByteArray},KL b s=true->s.Pairwise (fun a b=>Ez a.path b.path=true)/\∀c,b=some c->∀y∈s,Ez c y.path=true
 | [],_,_=>⟨.nil,fun _ _ _ h=>by cases h⟩
 |y::r,b,h=>by
  unfold KL at h;simp only[Ak]at h;obtain⟨h1,h2⟩:=h;obtain⟨i1,i2⟩:=Iq h2<;>grind [Ei,List.Pairwise.cons]
theorem NW(h:s.Pairwise (fun a b=>Ez a.path b.path=true))(hy:y∈s):AF s y.path=some y:=by
 induction h<;>grind [AF,To]
theorem RO(h:Bb s=true)(hy:y∈s):AF s y.path=some y:=NW (Iq h).1 hy
theorem oJ.valid(h:oJ x roots s):Gn s:=fun y hy=>by
 obtain⟨r,h1,_⟩:=h.fnd y hy;obtain⟨_,h2,h3⟩:=Cv h1
 have:=((BB h.ix).1 r h2).val
 rw[<-h3];exact this
theorem F5{x:List Rl}:∀{s:List Sl} {l:List Rl},FK x s=some l->l.map Cp=s/\(∀r∈l,AY x (Cp r)=some r)/\∀y∈s,∃r∈l,AY x y=some r
 | [],l,h=>by cases h<;>simp_all
 |y::s,l,h=>by
  unfold FK at h;split at h
  .cases h
  .rename_i r hr;split at h
   .cases h
   .rename_i l' hl;cases h;obtain⟨i1,i2,i3⟩:=F5 hl;have hk:=(Cv hr).2.2;simp_all
theorem QO:∀(l:List Rl) (p:ByteArray),(l.find? fun r=>decide (r.path=p)).map Cp=AF (l.map Cp) p
 | [],_=>rfl
 |r::l,p=>by
  unfold AF;rw[HX,Bo,HX];show _=(match decide (r.path=p)with | true=>some (Cp r) | false=>_);cases h:decide (r.path=p)with
  |true=>rfl
  |false=>exact QO l p
theorem LA{l:List Rl}(hx:At x=0)(hl:FK x s=some l){q:Rq}(h:B9 l q=false):∃y,AF s q.path=some y/\has q.set (place y.ver)=true:=by
 obtain⟨h1,h2,h3⟩:=F5 hl;unfold B9 at h;have hk:=QO l q.path;split at h
 .cases h
 .rename_i r hr;rw[hr,h1]at hk;refine⟨Cp r,hk.symm,?_⟩;have hm:=(Cv (h2 r (Br hr))).2.1;show has q.set (place r.ver)=true;rw[<-((BB hx).1 r hm).plc];simp_all
structure KA(x:List Rl)(roots:List Rq)(s:List Sl)(l:List Rl):Prop where
 ix:At x=0
 inc:Bb s=true
 sel:FK x s=some l
 rl:∀r∈l,∀q∈r.reqs,B9 l q=false
 rt:∀q∈roots,B9 l q=false
 min:l.length<=(Fq l (Hh l roots) roots []).length
theorem Vg(h:CW x roots s=0):∃l,KA x roots s l:=by
 unfold CW at h;split at h
 .cases h
 .rename_i h1;split at h
  .cases h
  .rename_i h2;split at h
   .cases h
   .rename_i l hl;split at h
    .cases h
    .rename_i h3;split at h
     .cases h
     .rename_i h4;split at h
      .cases h
      .rename_i h5;refine⟨l,B2.1 h1,by simp_all,hl,fun r hr q hq=>?_,fun q hq=>?_,by omega⟩
       all_goals grind
theorem KA.sol{l:List Rl}(h:KA x roots s l)(hy:∀y∈s,∀r,AY x y=some r->r.yanked=false):oJ x roots s:=by
 obtain⟨h1,h2,h3⟩:=F5 h.sel;refine⟨h.ix,h.inc,fun y hm=>?_,fun q hq=>LA h.ix h.sel (h.rt q hq),fun y hm r hr q hq=>?_⟩
 .grind
 .obtain⟨r',h4,h5⟩:=h3 y hm;rw[hr]at h5;cases h5;exact LA h.ix h.sel (h.rl r h4 q hq)
-- soundness
theorem Sd{q:Rq}(h:∃y,AF s q.path=some y/\has q.set (place y.ver)=true):Da (Dw q) (AF s q.path)=false:=by
 grind [Da,Dw,Fu]
theorem nt{l:List Tm}(hs:Gn s)(hn:A7 l≠none)(hv:AX l s=false):AX (BU l) s=false:=by
 grind [De,BU]
theorem aI{l:List Tm}(hs:Gn s){o:List Tm}(h:OE (BU l)=some o)(hv:AX l s=false):AX o s=false:=by
 grind [OE,Rb]
theorem dH:A7 [Dw q]≠none:=by
 grind [A7,Db,Hw,F4,Df,Dw]
theorem UL{l:List α}{i:Int}{a:α}(h:DN l i=some a):a∈l:=by
 grind [DN]
theorem X9(hs:oJ x roots s){d:List (List Tm)}(hd:∀t∈d,AX t s=false){i:Nf}{o:List Tm}(h:AQ x roots d i=some o):AX o s=false:=by
 have hv:=hs.valid;unfold AQ at h;split at h
 .split at h
  .rw[B3]at h;obtain⟨q,hq,rfl⟩:=h;refine nt hv (dH q) ?_;rw[A8];intro hw
   have:=Bs.1 hw _ (AJ.2 rfl)
   rw[show(Dw q).path=q.path from rfl,Sd (hs.root q (UL hq))]at this;simp_all
  simp_all
 .split at h
  .split at h
   .split at h
    .cases h
    .rename_i r hr;split at h
     .cases h
     .rename_i q hq;refine aI hv h ?_;rw[A8];intro hw;have h1:=Bs.1 hw _ (Ag ..);have h2:=Bs.1 hw (Dw q) aa0;rw[show(Dw q).path=q.path from rfl]at h2;dsimp only at h1;cases hf:AF s i.path with
      |none=>grind [Da]
      |some y=>
       rw[hf]at h1;unfold Da at h1;simp only[Ak]at h1;have hp:place y.ver=i.place:=by
        grind [has,BP]
       have hy:=GP hf;have hyp:=J9 hf;obtain⟨r',e1,e2⟩:=hs.fnd y hy;obtain⟨_,m1,k1⟩:=Cv e1;have mr:r∈x:=Br hr;have cS:=FG hr;simp only[Ak,A4]at cS;have GR:=BB hs.ix
       have:r'=r:=by
        refine ge GR m1 mr ?_ ?_
        .rw[cS.1,<-hyp,<-k1];rfl
        .rw[<-(GR.1 r mr).plc,cS.2,<-hp,<-k1];rfl
       subst this
       have:=hs.req y hy r' e1 q (UL hq)
       grind [Sd]
   simp_all
  .split at h
   .split at h
    .refine aI hv h ?_;rw[A8];intro hw;have h1:=Bs.1 hw _ (AJ.2 rfl);dsimp only at h1;cases hf:AF s i.path with
     |none=>grind [Da]
     |some y=>
      rw[hf]at h1;unfold Da at h1;simp only[Ak]at h1;have hy:=GP hf;have hyp:=J9 hf;obtain⟨r,e1,e2⟩:=hs.fnd y hy;obtain⟨_,m1,k1⟩:=Cv e1;have GR:=BB hs.ix;have h1:=h1.2;rw[Fu]at h1;have ZO:=JS (hv y hy)
      have:has (A9 x i.path) (place y.ver)=true:=by
       unfold A9;rw[Ek];unfold has;simp only[ZO,decide_true,Sn,BC,Ar,Cr];refine⟨(plc r.ver,plc r.ver+1),⟨r,⟨?_,by simp_all⟩,rfl⟩,?_⟩
       .unfold It;simp only[hs.ix,ne_eq,not_true,if_false,Cr,m1,true_and,A4];rw[<-hyp,<-k1];rfl
       .rw[(GR.1 r m1).plc,<-k1];rw[Em];exact⟨Cb _,by show place r.ver<place r.ver+1;omega⟩
      simp_all
    simp_all
   .split at h
    .split at h
     .split at h
      .rename_i a b ha hb;split at h
       .rename_i h0;cases h;rw[A8];intro hw;rcases U6 hv (o:=(AU a b i.path).1) (Prod.ext rfl h0) hw with hw | hw<;>grind [UL]
       simp_all
      simp_all
     simp_all
    simp_all
theorem Mq{x:List Rl}{roots:List Rq}{s:List Sl}(hs:oJ x roots s):∀{l:List Nf} {d d' : List (List Tm)},(∀t∈d,AX t s=false)->BH x roots l d=some d'->∀t∈d',AX t s=false
 | [],d,d',hd,h=>by cases h;exact hd
 |i::l,d,d',hd,h=>by
  unfold BH at h;split at h
  .cases h
  .rename_i o ho;refine Mq hs (fun t ht=>?_) h
   grind [X9]
theorem CB{α:Type}[DecidableEq α]:∀{l m:List α},l.Nodup->(∀x∈l,x∈m)->l.length<=m.length
 | [],_,_,_=>Al _
 |a::l,m,hn,hs=>by
  rw[GE]at hn;have ha:a∈m:=hs a (Ag ..)
  have:=CB (l:=l) (m:=m.erase a) hn.2 fun x hx=>by
   grind
  grind
theorem aK[DecidableEq α]{l m:List α}(hn:l.Nodup)(hs:∀x∈l,x∈m)(hl:m.length<=l.length):∀x∈m,x∈l:=fun x hx=>by
 apply Aw;intro kk
 have:=CB (m:=m.erase x) hn fun y hy=>(List.mem_erase_of_ne (a:=y) (b:=x) (fun e=>kk (by simp_all))).2 (hs y hy)
 grind
abbrev Vx(s:List Sl):Prop:=s.Pairwise (fun a b=>Ez a.path b.path=true)
theorem cX(h:Vx s):(s.map (·.path)).Nodup:=by
 grind [To]
-- the next path
theorem Kj(before:List Sl):∀{l:List Rq} {acc:Option ByteArray},(∀p,acc=some p->BS before p=false) ->
  (∀p,CG before l acc=some p->BS before p=false/\(acc=some p\/∃q∈l,q.path=p))/\(CG before l acc=none->acc=none/\∀q∈l,BS before q.path=true)
 | [],acc,ha=>⟨fun p h=>⟨ha p h,.inl h⟩,fun h=>⟨h,fun _ h=>(by cases h)⟩⟩
 |q::l,acc,ha=>by
  unfold CG
  have key:∀gz,(∀p,gz=some p->BS before p=false)->(∀p,gz=some p->acc=some p\/q.path=p)->(gz=none->acc=none/\BS before q.path=true) ->
    (∀p,CG before l gz=some p->BS before p=false/\(acc=some p\/∃q'∈q::l,q'.path=p))/\(CG before l gz=none->acc=none/\∀q'∈q::l,BS before q'.path=true):=by
   intro gz h1 h2 h3;obtain⟨i1,i2⟩:=Kj before (l:=l) h1<;>grind
  cases hb:BS before q.path<;>grind
theorem Is{needs:List Rq}{before:List Sl}{p:ByteArray}(h:DM needs before=some p):BS before p=false/\∃q∈needs,q.path=p:=by
 obtain⟨h1,h2⟩:=(Kj before (l:=needs) (acc:=none) fun _ e=>by cases e).1 p h<;>simp_all
theorem UI{needs:List Rq}{before:List Sl}(h:DM needs before=none):∀q∈needs,BS before q.path=true:=
 ((Kj before (l:=needs) (acc:=none) fun _ e=>by cases e).2 h).2
theorem Ls{p:ByteArray}:BS s p=true↔∃y∈s,y.path=p:=by grind [BS]
theorem E3{p:ByteArray}:BS s p=true↔p∈s.map (·.path):=by grind [Ls]
abbrev FY(v:V2):Sl:=Cp v.rel
structure o6(x:List Rl)(s:List Sl)(before:List Sl)(needs:List Rq)(vs:List V2):Prop where
 closed:∀q∈needs,BS (before++vs.map FY) q.path=true
 closedR:∀v∈vs,∀q∈v.rel.reqs,BS (before++vs.map FY) q.path=true
 mem:∀v∈vs,FY v∈s/\AY x (FY v)=some v.rel
 nodup:((before++vs.map FY).map (·.path)).Nodup
theorem nY{x:List Rl}{s:List Sl}:∀{n:Nat} {before:List Sl} {needs:List Rq},(before.map (·.path)).Nodup->(∀y∈before,y∈s)->s.length+1<=n+before.length->(D4 x s n before needs).2=true ->
  o6 x s before needs (D4 x s n before needs).1
 |0,before,needs,h1,h2,h3,_=>by
  exfalso
  have:=CB (m:=s.map (·.path)) h1 fun p hp=>by
   grind
  grind
 |n+1,before,needs,h1,h2,h3,h4=>by
  unfold D4 at h4⊢;cases hp:DM needs before with
  |none=>grind [UI,o6.mk]
  |some p=>
   rw[hp]at h4;dsimp only at h4⊢;cases hf:AF s p with
   |none=>simp_all
   |some y=>
    rw[hf]at h4;dsimp only at h4⊢;cases hr:AY x y with
    |none=>simp_all
    |some r=>
     rw[hr]at h4;dsimp only at h4⊢;obtain⟨g1,g2⟩:=Is hp;have hy:=GP hf;have hyp:=J9 hf;have hk:Cp r=y:=(Cv hr).2.2;have ih:=nY (x:=x) (s:=s) (n:=n) (before:=before++[y]) (needs:=needs++r.reqs) (by
       grind [E3])
      (fun z hz=>by
       grind) (by grind) h4
     have e:before++(⟨before,needs,r⟩::(D4 x s n (before++[y]) (needs++r.reqs)).1).map FY=before++[y]++(D4 x s n (before++[y]) (needs++r.reqs)).1.map FY:=by
      simp_all
     refine⟨fun q hq=>?_,fun v hv q hq=>?_,fun v hv=>?_,?_⟩
     all_goals grind [o6.closed,o6.closedR,o6.mem,o6.nodup]
theorem Iw(h:(visits x roots s).2=true):o6 x s [] roots (visits x roots s).1:=nY aa0 (fun _ h=>by cases h) aa0 h
theorem Pn{x:List Rl}{s:List Sl}(hs:∀y∈s,∃r,AY x y=some r)(hq:∀y∈s,∀r,AY x y=some r->∀q∈r.reqs,∃z,AF s q.path=some z) :
  ∀{n:Nat} {before:List Sl} {needs:List Rq},(∀q∈needs,∃z,AF s q.path=some z)->(D4 x s n before needs).2=true
 |0,_,_,_=>rfl
 |n+1,before,needs,hn=>by
  unfold D4;cases hp:DM needs before with
  |none=>rfl
  |some p=>
   dsimp only;obtain⟨_,q,q1,q2⟩:=Is hp;obtain⟨z,hz⟩:=hn q q1;rw[q2]at hz;rw[hz];dsimp only;obtain⟨r,hr⟩:=hs z (GP hz);rw[hr];dsimp only;refine Pn hs hq fun q hq'=>?_
   grind [GP]
-- what is needed
theorem Nr{l:List Rl}{C:List ByteArray}(hC:∀r∈l,r.path∈C->∀q∈r.reqs,q.path∈C):∀{n:Nat} {t:List Rq} {d:List ByteArray},(∀q∈t,q.path∈C)->(∀p∈d,p∈C)->∀p∈Fq l n t d,p∈C
 |0,_,_,_,hd=>by grind [Fq]
 |_+1,[],_,_,hd=>by grind [Fq]
 |n+1,q::t,d,ht,hd=>by
  unfold Fq;split
  .exact Nr hC (fun q hq=>ht q (Aj _ hq)) hd
  .refine Nr hC (fun q' hq=>?_) fun p hp=>?_
   all_goals grind [Fc]
theorem Kh{l:List Rl}:∀{n:Nat} {t:List Rq} {d:List ByteArray},d.Nodup->(Fq l n t d).Nodup
 |0,_,_,hd=>by grind [Fq]
 |_+1,[],_,hd=>by grind [Fq]
 |n+1,q::t,d,hd=>by
  unfold Fq;split
  .exact Kh hd
  .rename_i h;refine Kh ?_
   grind
theorem cp{l:List Rl}(h:KA x roots s l){C:List ByteArray}(hn:C.Nodup)(hr:∀q∈roots,q.path∈C)(hC:∀y∈s,∀r,AY x y=some r->y.path∈C->∀q∈r.reqs,q.path∈C)(hs:∀p∈C,p∈s.map (·.path)):(∀y∈s,y.path∈C)/\C.length=s.length:=by
 obtain⟨h1,h2,h3⟩:=F5 h.sel;have iK:=Nr (l:=l) (C:=C) (fun r hr hp q hq=>by
  have hk:Cp r∈s:=by grind
  grind [Cp]) (n:=Hh l roots) (t:=roots) (d:=[]) hr (fun _ h=>by cases h)
 have CL:=CB (Kh (l:=l) (n:=Hh l roots) (t:=roots) Kx) iK;have hl:l.length=s.length:=by grind
 have qu:=h.min;have AcK:=aK hn hs (by grind);refine⟨fun y hy=>AcK _ (Ar.2 ⟨y,hy,rfl⟩),?_⟩
 have:=CB hn hs
 grind
theorem KA.fnd{l:List Rl}(h:KA x roots s l):∀y∈s,∃r,AY x y=some r:=fun y hy=>by
 obtain⟨r,_,h⟩:=(F5 h.sel).2.2 y hy<;>simp_all
theorem KA.req{l:List Rl}(h:KA x roots s l):∀y∈s,∀r,AY x y=some r->∀q∈r.reqs,∃z,AF s q.path=some z/\has q.set (place z.ver)=true:=fun y hy r hr q hq=>by
 obtain⟨r',h4,h5⟩:=(F5 h.sel).2.2 y hy;rw[hr]at h5;cases h5;exact LA h.ix h.sel (h.rl r h4 q hq)
theorem KA.root{l:List Rl}(h:KA x roots s l):∀q∈roots,∃z,AF s q.path=some z/\has q.set (place z.ver)=true:=fun q hq=>LA h.ix h.sel (h.rt q hq)
theorem KA.visits{x:List Rl}{roots:List Rq}{s:List Sl}{l:List Rl}(h:KA x roots s l):(visits x roots s).2=true:=
 Pn h.fnd (fun y hy r hr q hq=>let ⟨z,hz,_⟩:=h.req y hy r hr q hq;⟨z,hz⟩) fun q hq=>let ⟨z,hz,_⟩:=h.root q hq;⟨z,hz⟩
theorem KA.all{l:List Rl}(h:KA x roots s l):(∀y∈s,∃v∈(Go.Eng.visits x roots s).1,FY v=y)/\(Go.Eng.visits x roots s).1.length=s.length:=by
 have hr:=Iw h.visits;have hu:∀{y:Sl},y∈s->AF s y.path=some y:=RO h.inc;have key:∀y∈s,y.path∈((Go.Eng.visits x roots s).1.map FY).map (·.path)->∃v∈(Go.Eng.visits x roots s).1,FY v=y:=fun y hy hp=>by
  obtain⟨z,hz,e⟩:=Ar.1 hp;obtain⟨v,hv,rfl⟩:=Ar.1 hz;refine⟨v,hv,?_⟩;have h1:=hu (hr.mem v hv).1;simp_all
 have:=cp h (C:=((Go.Eng.visits x roots s).1.map FY).map (·.path)) (by simpa using hr.nodup) (fun q hq=>by have:=hr.closed q hq;grind [E3]) (fun y hy r hrl hp q hq=>by
  obtain⟨v,hv,e⟩:=key y hy hp;have h1:=(hr.mem v hv).2;rw[e,hrl]at h1;cases h1
  have:=hr.closedR v hv q hq;grind [E3]) (fun p hp=>by
  obtain⟨z,hz,rfl⟩:=Ar.1 hp;obtain⟨v,hv,rfl⟩:=Ar.1 hz;exact Ar.2 ⟨_,(hr.mem v hv).1,rfl⟩)
 grind
-- skips
theorem XN{t:List Tm}{b:List Sl}(hs:Bb s=true)(hb:∀y∈b,y∈s)(h:Bp t b=true):AX t s=true:=by
 unfold Bp at h;simp only[Ak,EO,List.any_eq_false]at h;obtain⟨h1,h2⟩:=h;rw[Bs]at h1⊢;intro u hu
 have:=h2 u hu
 simp only[RC]at this;rw[Kd]at this;cases hf:AF b u.path<;>grind [AF,RO]
end Go.Eng
