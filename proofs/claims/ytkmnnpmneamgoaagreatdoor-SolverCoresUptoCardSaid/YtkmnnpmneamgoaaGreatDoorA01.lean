/- Lemmas for the claims of this seat, without a condition: part 1 (P1, P2, P3, P4, P5, P6, P7). -/
import Derived.Test.YtkmnnpmneamgoaaGreatDoorA00
namespace Go.Eng
def BV(p:Int)(s:Int×Int):Bool:=decide (s.1≤p)&&decide (p<s.2)
def has(s:List (Int×Int))(p:Int):Bool:=decide (0≤p)&&decide (p<1000000)&&s.any (BV p)
abbrev Bc:=List (Int×Int)
def EX(lo:Int):Bc→Prop
 | []=>True
 |y::r=>lo≤y.1∧y.1<y.2∧y.2≤1000000∧EX (y.2+1) r
abbrev EQ(l:Bc):Prop:=EX 0 l
def Wb(x:Int×Int):Bc→Bc
 | []=>[x]
 |y::r=>if x.2<y.1 then x::y::r else if y.2<x.1 then y::Wb x r else Wb (min x.1 y.1,max x.2 y.2) r
def Ee(x:Int×Int):Int×Int:=(max x.1 0,min x.2 1000000)
def canon:Bc→Bc
 | []=>[]
 |x::r=>if(Ee x).1<(Ee x).2 then Wb (Ee x) (canon r)else canon r
def Lh(at_:Int):Bc→Bc
 | []=>if at_<1000000 then [(at_,1000000)]else []
 |y::r=>if at_<y.1 then(at_,y.1)::Lh y.2 r else Lh y.2 r
def Eu(s:Bc):Bc:=Lh 0 (canon s)
def QF(l:List Bc):Bc:=canon l.flatten
def P0(l:List Bc):Bc:=Eu (l.map Eu).flatten
def Pr(a b:Bc):Bc:=QF [a,b]
def O1(a b:Bc):Bc:=P0 [a,b]

theorem EX.mono{lo HQ : Int}:∀{l:Bc},EX lo l→HQ≤lo→EX HQ l
 | [],_,_=>trivial
 |_::_,⟨h1,h2,h3,h4⟩,h=>⟨Int.le_trans h h1,h2,h3,h4⟩
theorem EX.low{lo:Int}:∀{l:Bc},EX lo l→∀y∈l,lo≤y.1∧y.1<y.2∧y.2≤1000000
 |y::r,⟨h1,h2,h3,h4⟩,z,hz=>by
  rcases AF.1 hz with rfl | hz
  ·exact⟨h1,h2,h3⟩
  ·have:=h4.low z hz
   exact⟨by omega,this.2.1,this.2.2⟩
theorem DO{p:Int}{s:Int×Int}:BV p s=true↔s.1≤p∧p<s.2:=by simp[BV]
theorem MH{lo:Int}{l:Bc}(h:EX lo l){p:Int}(hp:l.any (BV p)=true):lo≤p:=by
 obtain⟨y,hy,h2⟩:=A5.1 hp
 have:=h.low y hy
 have:=DO.1 h2
 omega
theorem fp{lo:Int}{l:Bc}(h:EX lo l){p:Int}(hp:l.any (BV p)=true):p<1000000:=by
 obtain⟨y,hy,h2⟩:=A5.1 hp
 have:=h.low y hy
 have:=DO.1 h2
 omega
theorem NM:∀(l:Bc) {lo:Int} {x:Int×Int},EX lo l→lo≤x.1→x.1<x.2→x.2≤1000000→EX lo (Wb x l)
 | [],lo,x,_,h1,h2,h3=>⟨h1,h2,h3,trivial⟩
 |y::r,lo,x,⟨g1,g2,g3,g4⟩,h1,h2,h3=>by
  unfold Wb;split
  ·exact⟨h1,h2,h3,by omega,g2,g3,g4⟩
  ·split
   ·exact⟨g1,g2,g3,NM r g4 (by omega) h2 h3⟩
   ·refine NM r (g4.mono (by omega)) ?_ ?_ ?_<;>dsimp only<;>omega
theorem Ow:∀(l:Bc) {lo:Int} {x:Int×Int} (p:Int),EX lo l→x.1<x.2→(Wb x l).any (BV p)=(BV p x||l.any (BV p))
 | [],lo,x,p,_,_=>by simp[Wb]
 |y::r,lo,x,p,⟨g1,g2,g3,g4⟩,h2=>by
  unfold Wb;split
  ·simp
  ·split
   ·rw[BX,Ow r p g4 h2,BX,←Bool.or_assoc,←Bool.or_assoc,Bool.or_comm (BV p y)]
   ·rw[Ow r p g4 (by dsimp only;omega),BX,←Bool.or_assoc]
    congr 1
    simp only[BV];rw[B3];simp only[Af,CU,AD];omega
theorem Cs:∀s:Bc,EQ (canon s)
 | []=>trivial
 |x::r=>by
  unfold canon;split
  ·rename_i h;refine NM _ (Cs r) ?_ h ?_<;>simp only[Ee]<;>omega
  ·exact Cs r
theorem KH:∀(s:Bc) (p:Int),(canon s).any (BV p)=has s p
 | [],p=>by simp[has,canon]
 |x::r,p=>by
  have ih:=KH r p;unfold canon;have hx:BV p (Ee x)=(decide (0≤p)&&decide (p<1000000)&&BV p x):=by
   simp only[BV,Ee];rw[B3];simp only[Af,AD,Int.max_le,Int.lt_min];omega
  split
  ·rename_i h;rw[Ow _ p (Cs r) h,ih,hx];simp only[has,BX];cases decide (0≤p)<;>cases decide (p<1000000)<;>simp
  ·rename_i h;rw[ih];simp only[has,BX]
   have:BV p (Ee x)=false:=by
    rw[AI];intro h3
    have:=DO.1 h3
    omega
   rw[this]at hx;cases h1:decide (0≤p)<;>cases h2:decide (p<1000000)<;>simp_all
theorem HJ{l:Bc}(h:EQ l)(p:Int):has l p=l.any (BV p):=by
 unfold has;cases e:l.any (BV p)with
 |false=>simp
 |true=>have h1:0≤p:=MH h e;have h2:=fp h e;simp[h1,h2]
theorem Hp(s:Bc)(p:Int):has (canon s) p=has s p:=by
 rw[HJ (Cs s),KH]
theorem Np:∀{a b:Bc} {lo:Int},EX lo a→EX lo b→(∀p,a.any (BV p)=b.any (BV p))→a=b
 | [],[],_,_,_,_=>rfl
 | [],z::s,_,_,⟨g1,g2,g3,g4⟩,h=>by
  have:=h z.1
  rw[BX,DO.2 ⟨BF _,g2⟩]at this;simp at this
 |y::r,[],_,⟨g1,g2,g3,g4⟩,_,h=>by
  have:=h y.1
  rw[BX,DO.2 ⟨BF _,g2⟩]at this;simp at this
 |y::r,z::s,lo,⟨f1,f2,f3,f4⟩,⟨g1,g2,g3,g4⟩,h=>by
  have below:∀{x:Int×Int} {t:Bc} {p:Int},EX (x.2+1) t→(x::t).any (BV p)=true→p≤x.2→x.1≤p∧p<x.2:=fun {x t p} ht hp HN=>by
   rw[BX,CU]at hp;rcases hp with hp | hp
   ·exact DO.1 hp
   ·have:=MH ht hp;omega
  have low:∀{x:Int×Int} {t:Bc} {p:Int},x.1<x.2→EX (x.2+1) t→(x::t).any (BV p)=true→x.1≤p:=fun {x t p} hx ht hp=>by
   rw[BX,CU]at hp;rcases hp with hp | hp
   ·exact(DO.1 hp).1
   ·have:=MH ht hp;omega
  have cov:∀{x:Int×Int} {t:Bc} {p:Int},x.1≤p→p<x.2→(x::t).any (BV p)=true:=fun {x t p} h1 h2=>by
   rw[BX,DO.2 ⟨h1,h2⟩,Bool.true_or]
  have e1:y.1=z.1:=by
   have a1:=low f2 f4 ((h z.1).trans (cov (BF _) g2));have a2:=low g2 g4 ((h y.1).symm.trans (cov (BF _) f2));omega
  have e2:y.2=z.2:=by
   rcases Int.lt_trichotomy y.2 z.2 with hl | he | hl
   ·have:=below f4 ((h y.2).trans (cov (by omega) hl)) (BF _);omega
   ·exact he
   ·have:=below g4 ((h z.2).symm.trans (cov (by omega) hl)) (BF _);omega
  have e:y=z:=Prod.ext e1 e2;subst e
  congr 1
  refine Np f4 g4 fun p=>?_;have hp:=h p;simp only[BX]at hp;cases hs:BV p y with
  |false=>rw[hs,Js,Js]at hp;exact hp
  |true =>
   have:=DO.1 hs
   have n:∀{t:Bc},EX (y.2+1) t→t.any (BV p)=false:=fun {t} ht=>by
    rw[AI];intro hx;have:=MH ht hx;omega
   rw[n f4,n g4]
theorem HD{a b:Bc}(ha:EQ a)(hb:EQ b)(h:∀p,has a p=has b p):a=b :=
 Np ha hb fun p=>by rw[←HJ ha,←HJ hb,h]
theorem SD{a s:Bc}(ha:EQ a)(h:∀p,has a p=has s p):a=canon s :=
 HD ha (Cs s) fun p=>by rw[h,Hp]
theorem Ju{a:Bc}(ha:EQ a):canon a=a:=(SD ha fun _=>rfl).symm
theorem Mp{s:Bc}{p:Int}(h:has s p=true):0≤p∧p<1000000:=by
 unfold has at h;simp only[Af,AD]at h;exact h.1
def L0(p:Int):Bool:=decide (0≤p)&&decide (p<1000000)
theorem Li:∀(l:Bc) {at_ lo:Int},0≤at_→EX lo l→lo≤at_+1→at_≤lo→EX at_ (Lh at_ l)∧∀p,(Lh at_ l).any (BV p)=(decide (at_≤p)&&decide (p<1000000)&&!l.any (BV p))
 | [],at_,lo,h0,_,h1,h2=>by
  unfold Lh;split
  ·exact⟨⟨BF _,by dsimp only;omega,BF _,trivial⟩,fun p=>by simp[BV]⟩
  ·refine⟨trivial,fun p=>?_⟩
   have:(decide (at_≤p)&&decide (p<1000000))=false:=by
    rw[AI];simp only[Ri,Af,AD];omega
   simp[this]
 |y::r,at_,lo,h0,⟨g1,g2,g3,g4⟩,h1,h2=>by
  have ih:=Li r (at_:=y.2) (by omega) g4 (BF _) (by omega);have key:∀p,(decide (at_≤p)&&decide (p<y.1)||(Lh y.2 r).any (BV p))=(decide (at_≤p)&&decide (p<1000000)&&!(y::r).any (BV p)):=fun p=>by
   rw[ih.2,BX];cases hr:r.any (BV p)with
   |true =>
    have:=MH g4 hr
    have a:decide (p<y.1)=false:=Au (by omega);simp[a]
   |false =>
    rw[B3];simp only[BV,Af,CU,AD,Cy,Rw,Bool.and_eq_false_iff,FJ,Bool.not_false,Sr];omega
  unfold Lh;split
  ·rename_i h;refine⟨⟨BF _,h,by dsimp only;omega,ih.1 |> fun c=>?_⟩,fun p=>?_⟩
   ·dsimp only;cases e:Lh y.2 r with
    |nil=>trivial
    |cons z s =>
     rw[e]at c;exact⟨by have:=c.1;omega,c.2⟩
   ·rw[BX,←key];rfl
  ·rename_i h;refine⟨ih.1.mono (by omega),fun p=>?_⟩;rw[←key]
   have:(decide (at_≤p)&&decide (p<y.1))=false:=by
    rw[AI];simp only[Ri,Af,AD];omega
   rw[this,Js]
theorem Hm(s:Bc):EQ (Eu s):=by
 unfold Eu;exact(Li _ (BF _) (Cs s) (by omega) (BF _)).1
theorem FU(s:Bc)(p:Int):has (Eu s) p=(L0 p&&!has s p):=by
 rw[HJ (Hm s)];unfold Eu;rw[(Li _ (BF _) (Cs s) (by omega) (BF _)).2,KH];rfl
theorem ZH(a b:Bc)(p:Int):has (a++b) p=(has a p||has b p):=by
 simp only[has,Gt];cases decide (0≤p)<;>cases decide (p<1000000)<;>simp
theorem Mo:∀(l:List Bc) (p:Int),has l.flatten p=l.any fun s=>has s p
 | [],p=>by simp[has]
 |s::l,p=>by rw[Bu,ZH,Mo l p,BX]
theorem Th(l:List Bc)(p:Int):has (QF l) p=l.any fun s=>has s p:=by
 unfold QF;rw[Hp,Mo]
theorem W4(l:List Bc):EQ (QF l):=Cs _
theorem WI(l:List Bc):EQ (P0 l):=Hm _
theorem Tg(l:List Bc)(p:Int):has (P0 l) p=(L0 p&&l.all fun s=>has s p):=by
 unfold P0;rw[FU,Mo,List.any_map];cases h:L0 p with
 |false=>rfl
 |true =>
  rw[El,El,List.not_any_eq_all_not]
  congr 1
  funext s
  simp[FU,h]
theorem YY(a b:Bc):EQ (Pr a b):=Cs _
theorem Rb(a b:Bc):EQ (O1 a b):=Hm _
theorem cQ(a b:Bc)(p:Int):has (Pr a b) p=(has a p||has b p):=by
 unfold Pr;rw[Th];simp
theorem Vj(a b:Bc)(p:Int):has (O1 a b) p=(has a p&&has b p):=by
 unfold O1;rw[Tg];simp only[List.all_cons,List.all_nil,Bool.and_true];cases h:has a p with
 |false=>simp
 |true=>have:=Mp h;simp[L0,this]
theorem ZT(s:Bc):O1 s s=canon s:=HD (Rb _ _) (Cs _) fun p=>by rw[Vj,Hp,Bool.and_self]
theorem Uu{s:Bc}:canon s=[]↔∀p,has s p=false:=by
 constructor
 ·intro h p;rw[←Hp,h];simp[has]
 ·intro h;exact HD (Cs s) (b:=[]) trivial fun p=>by rw[Hp,h p];simp[has]
theorem Qj{s:Bc}(hs:EQ s):s=[]↔∀p,has s p=false:=by
 rw[←Uu,Ju hs]
def eT(l:List Bc)(p:Int):Nat:=l.countP fun s=>has s p
theorem SC:∀{l:Bc} {lo:Int},EX lo l→lo≤1000000→(l.length:Int)≤1000000-lo
 | [],lo,_,h=>by simp;omega
 |y::r,lo,⟨g1,g2,g3,g4⟩,h=>by
  by_cases h3:y.2+1≤1000000
  ·have:=SC g4 h3
   simp only[Aj];omega
  ·cases r with
   |nil=>simp;omega
   |cons z s=>have:=g4.1;have:=g4.2.1;have:=g4.2.2.1;omega
theorem Ig{l:Bc}(h:EQ l):l.length≤1000000:=by have:=SC h (by omega);omega
end Go.Eng

namespace Go.Eng
structure Ver where
 (a b c:Int)
structure Rq where
 path:ByteArray
 set:List (Int×Int)
structure Rl where
 path:ByteArray
 ver:Ver
 reqs:List Rq
 (arch ifc cert:ByteArray)
 yanked:Bool
structure Sl where
 path:ByteArray
 ver:Ver
structure Tm where
 path:ByteArray
 absent:Bool
 set:List (Int×Int)
structure Nf where
 kind:Int
 path:ByteArray
 (place number left right:Int)
structure Sk where
 path:ByteArray
 (place inf:Int)
structure An where
 found:Bool
 sel:List Sl
 infs:List Nf
 skips:List Sk
instance:DecidableEq Ver:=fun x y=>decidable_of_iff (x.a=y.a∧x.b=y.b∧x.c=y.c) ⟨fun⟨h1,h2,h3⟩=>by cases x;cases y;simp_all,fun h=>by subst h;exact⟨rfl,rfl,rfl⟩⟩
instance:DecidableEq Sl:=fun x y=>decidable_of_iff (x.path=y.path∧x.ver=y.ver) ⟨fun⟨h1,h2⟩=>by cases x;cases y;simp_all,fun h=>by subst h;exact⟨rfl,rfl⟩⟩
theorem pP{x y:Tm}(h1:x.path=y.path)(h2:x.absent=y.absent)(h3:x.set=y.set):x=y:=by cases x;cases y;simp_all
def okPart(n:Int):Prop:=0≤n∧n≤999
instance (n:Int):Decidable (okPart n):=by unfold okPart;infer_instance
def CJ(v:Ver):Bool:=decide (okPart v.a)&&decide (okPart v.b)&&decide (okPart v.c)
def place(v:Ver):Int:=1000*v.b+v.c
def plc(v:Ver):Int:=if CJ v then place v else 0
def pN:Sl:=⟨⟨#[]⟩,⟨0,0,0⟩⟩
def BD(s:List Sl)(p:ByteArray):Option Sl:=s.find? fun x=>decide (x.path=p)
def GS(t:Tm)(s:List Sl):Bool :=
 match s.find? (fun x=>decide (x.path=t.path))with
 |none=>t.absent
 |some x=>CJ x.ver&&has t.set (place x.ver)
def Cv(s:List Sl)(p:ByteArray):Bool:=s.any fun x=>decide (x.path=p)
def Bj(l:List Tm)(s:List Sl):Bool:=l.all fun t=>GS t s
def CB(l:List Tm)(s:List Sl):Bool:=Bj l s&&!l.any fun t=>!Cv s t.path

def Kl:List UInt8→List UInt8→Bool
 | [],[]=>false
 | [],_::_=>true
 |_::_,[]=>false
 |a::x,b::y=>decide (a<b)||(decide (a=b)&&Kl x y)
def EN(a b:ByteArray):Bool:=Kl a.data.toList b.data.toList
theorem Rd:∀x,Kl x x=false
 | []=>rfl
 |a::x=>by
  unfold Kl;simp[Rd x]
theorem TF:∀{x y z},Kl x y=true→Kl y z=true→Kl x z=true
 | [],[],_,h,_=>by simp[Kl]at h
 | [],_::_,[],_,h=>by simp[Kl]at h
 | [],_::_,_::_,_,_=>rfl
 |_::_,[],_,h,_=>by simp[Kl]at h
 |_::_,_::_,[],_,h=>by simp[Kl]at h
 |a::x,b::y,c::z,h1,h2=>by
  unfold Kl at *
  simp only[CU,Af,AD]at *
  rcases h1 with h1 | ⟨rfl,h1⟩
  ·rcases h2 with h2 | ⟨rfl,h2⟩
   ·exact .inl (UInt8.lt_trans h1 h2)
   ·exact .inl h1
  ·rcases h2 with h2 | ⟨rfl,h2⟩
   ·exact .inl h2
   ·exact .inr ⟨rfl,TF h1 h2⟩
theorem Yr:∀{x y},Kl x y=false→Kl y x=false→x=y
 | [],[],_,_=>rfl
 | [],_::_,h,_=>by simp[Kl]at h
 |_::_,[],_,h=>by simp[Kl]at h
 |a::x,b::y,h1,h2=>by
  unfold Kl at *
  simp only[Bool.or_eq_false_iff,Bool.and_eq_false_iff,FJ]at *
  have e:a=b:=by
   have l1:=UInt8.not_lt.1 h1.1;have l2:=UInt8.not_lt.1 h2.1;exact UInt8.le_antisymm l2 l1
  subst e
  have:=Yr (x:=x) (y:=y) (by simpa using h1.2) (by simpa using h2.2)
  rw[this]
theorem uI{a b:ByteArray}(h:a.data.toList=b.data.toList):a=b:=by
 cases a;cases b;simp only[ByteArray.mk.injEq];exact LT.1 h
theorem DY(a:ByteArray):EN a a=false:=Rd _
theorem Ep{a b c:ByteArray}(h:EN a b=true)(k:EN b c=true):EN a c=true:=TF h k
theorem I7{a b:ByteArray}(h:EN a b=false)(k:EN b a=false):a=b:=uI (Yr h k)
theorem Zl{a b:ByteArray}(h:EN a b=true):a≠b:=fun e=>by subst e;rw[DY]at h;cases h
theorem PG{a b:ByteArray}(h:EN a b=true):EN b a=false:=by
 rw[AI];intro k;have:=Ep h k;rw[DY]at this;cases this

def LI(t:Tm):Tm:=⟨t.path,t.absent,canon t.set⟩
def G4(u t:Tm):Tm:=⟨u.path,u.absent&&t.absent,O1 u.set t.set⟩
def NZ(t:Tm):List Tm→List Tm
 | []=>[LI t]
 |u::r=>if EN u.path t.path then u::NZ t r else if u.path=t.path then G4 u t::r else LI t::u::r
def Fa(l:List Tm):List Tm:=l.foldl (fun acc t=>NZ t acc) []
def HS(t:Tm):Bool:=!t.absent&&t.set.isEmpty
def GK(t:Tm):Bool:=t.absent&&decide (t.set=[(0,1000000)])
def Da(l:List Tm):Option (List Tm):=if(Fa l).any HS then none else some ((Fa l).filter fun t=>!GK t)
def Qk(l:List Tm):List Tm:=(Da l).getD []
def DK(q:Rq):Tm:=⟨q.path,true,Eu q.set⟩
def JK(q:Rq):List Tm:=Qk [DK q]
def Es(path:ByteArray)(pl:Int)(q:Rq):List Tm:=Qk [⟨path,false,[(pl,pl+1)]⟩,DK q]
def HX(path:ByteArray)(qH:Bc):List Tm:=Qk [⟨path,false,Eu qH⟩]
def Dx(l:List Tm)(p:ByteArray):Option Tm:=l.find? fun t=>decide (t.path=p)
def FX(l:List Tm)(p:ByteArray):List Tm:=l.filter fun t=>!decide (t.path=p)
def Dv(a b:Tm):Tm:=⟨a.path,a.absent||b.absent,Pr a.set b.set⟩
def FH(l:List Tm)(p:ByteArray):Option (Tm×List Tm):=match Da l with
 |none=>none
 |some c=>match Dx c p with
  |none=>none
  |some t=>some (t,FX c p)
def BA(a b:List Tm)(p:ByteArray):List Tm×Int :=
 match FH a p,FH b p with
 |some (t,r),some (u,m)=>match Da (r++m++[Dv t u])with
  |some o=>(o,0)
  |none=>([],8)
 |_,_=>([],1)

def Cm(lo:Option ByteArray):List Tm→Prop
 | []=>True
 |t::r=>(∀p,lo=some p→EN p t.path=true)∧EQ t.set∧Cm (some t.path) r
theorem Cm.weak{lo:Option ByteArray}:∀{l:List Tm},Cm lo l→Cm none l
 | [],_=>trivial
 |_::_,⟨_,h2,h3⟩=>⟨fun _ h=>(by cases h),h2,h3⟩
theorem Cm.low{p:ByteArray}:∀{l:List Tm},Cm (some p) l→∀t∈l,EN p t.path=true
 |t::r,⟨h1,h2,h3⟩,u,hu=>by
  rcases AF.1 hu with rfl | hu
  ·exact h1 p rfl
  ·exact Ep (h1 p rfl) (h3.low u hu)
theorem Cm.canon{lo:Option ByteArray}:∀{l:List Tm},Cm lo l→∀t∈l,EQ t.set
 |t::r,⟨h1,h2,h3⟩,u,hu=>by
  rcases AF.1 hu with rfl | hu
  ·exact h2
  ·exact h3.canon u hu
theorem Cm.mono{p q:ByteArray}:∀{l:List Tm},Cm (some p) l→EN q p=true→Cm (some q) l
 | [],_,_=>trivial
 |t::r,⟨h1,h2,h3⟩,h=>⟨fun _ e=>by cases e;exact Ep h (h1 p rfl),h2,h3⟩
theorem Mu:∀{l:List Tm} {lo:Option ByteArray} (t:Tm),Cm lo l→(∀p,lo=some p→EN p t.path=true)→Cm lo (NZ t l)
 | [],lo,t,_,h=>⟨h,Cs _,trivial⟩
 |u::r,lo,t,⟨h1,h2,h3⟩,h=>by
  unfold NZ;split
  ·rename_i Dy;exact⟨h1,h2,Mu t h3 fun p e=>by cases e;exact Dy⟩
  ·rename_i Dy;split
   ·rename_i he;exact⟨h1,Rb _ _,h3⟩
   ·rename_i he;refine⟨h,Cs _,fun p e=>?_,h2,h3⟩;cases e
    have:EN u.path t.path=false:=by simpa using Dy
    cases hb:EN t.path u.path with
    |true=>exact hb
    |false=>exact absurd (I7 this hb) he
theorem OR:∀(l acc:List Tm),Cm none acc→Cm none (l.foldl (fun acc t=>NZ t acc) acc)
 | [],_,h=>h
 |t::l,acc,h=>OR l _ (Mu t h fun _ e=>by cases e)
theorem Ew(l:List Tm):Cm none (Fa l):=OR l [] trivial
theorem C0(t:Tm)(r:List Tm)(p:ByteArray):Dx (t::r) p=if t.path=p then some t else Dx r p:=by
 unfold Dx;rw[E0];by_cases h:t.path=p<;>simp[h]
theorem HF{p q:ByteArray}{l:List Tm}(h:Cm (some p) l)(hq:EN p q=false):Dx l q=none:=by
 unfold Dx;rw[Ev];intro t ht
 have:=h.low t ht
 simp only[AD];intro e;subst e;rw[hq]at this;cases this
def N9(o:Option Tm)(t:Tm):Tm:=match o with | none=>LI t | some u=>G4 u t
theorem Qp(o:Option Tm)(t:Tm)(h:∀u,o=some u→u.path=t.path):(N9 o t).path=t.path:=by
 cases o with
 |none=>rfl
 |some u=>exact h u rfl
theorem Hh{l:List Tm}{p:ByteArray}{u:Tm}(h:Dx l p=some u):u.path=p:=by
 have:=FM h;simpa using this
theorem Fr{l:List Tm}{p:ByteArray}{u:Tm}(h:Dx l p=some u):u∈l:=CX h
theorem SX:∀{l:List Tm} {lo:Option ByteArray} (t:Tm) (p:ByteArray),Cm lo l→Dx (NZ t l) p=if t.path=p then some (N9 (Dx l p) t)else Dx l p
 | [],lo,t,p,_=>by
  unfold NZ;rw[C0];show(if t.path=p then some (LI t)else none)=_
  by_cases h:t.path=p<;>simp[h,Dx,N9]
 |u::r,lo,t,p,⟨h1,h2,h3⟩=>by
  unfold NZ;split
  ·rename_i Dy;rw[C0,C0,SX t p h3]
   by_cases hu:u.path=p
   ·have:¬t.path=p:=fun e=>Zl Dy (hu.trans e.symm)
    simp[hu,this]
   ·simp[hu]
  ·rename_i Dy;split
   ·rename_i he;rw[C0,C0];show(if u.path=p then some (G4 u t)else _)=_
    by_cases hu:u.path=p
    ·simp[hu,he▸hu,N9]
    ·have:¬t.path=p:=fun e=>hu (he.trans e)
     simp[hu,this]
   ·rename_i he;rw[C0];show(if t.path=p then some (LI t)else _)=_
    by_cases ht:t.path=p
    ·have hn:Dx (u::r) p=none:=by
      rw[C0];have hu:¬u.path=p:=fun e=>he (e.trans ht.symm);simp only[hu,Gc];exact HF h3 (by subst ht;simpa using Dy)
     simp[ht,hn,N9]
    ·simp[ht]
def Kd(p:ByteArray)(o:Option Tm)(t:Tm):Option Tm:=if t.path=p then some (N9 o t)else o
theorem QV(p:ByteArray):∀(l acc:List Tm),Cm none acc→Dx (l.foldl (fun acc t=>NZ t acc) acc) p=l.foldl (Kd p) (Dx acc p)
 | [],_,_=>rfl
 |t::l,acc,h=>by
  rw[FN,QV p l _ (Mu t h fun _ e=>by cases e),SX t p h];rfl
theorem Jc(l:List Tm)(p:ByteArray):Dx (Fa l) p=l.foldl (Kd p) none:=QV p l [] trivial
theorem MF:∀{a b:List Tm} {lo:Option ByteArray},Cm lo a→Cm lo b→(∀p,Dx a p=Dx b p)→a=b
 | [],[],_,_,_,_=>rfl
 | [],z::s,_,_,_,h=>by have:=h z.path;rw[C0,Ax rfl]at this;cases this
 |z::s,[],_,_,_,h=>by have:=h z.path;rw[C0,Ax rfl]at this;cases this
 |y::r,z::s,lo,⟨f1,f2,f3⟩,⟨g1,g2,g3⟩,h=>by
  have e:y=z:=by
   have a1:=h y.path;have a2:=h z.path;rw[C0,Ax rfl,C0]at a1;rw[C0,C0 z,Ax rfl]at a2
   by_cases e:z.path=y.path
   ·rw[Ax e]at a1;exact Ck a1
   ·rw[Aq e]at a1;rw[Aq (fun c=>e c.symm)]at a2;have b1:=Cm.low g3 y (Fr a1.symm);have b2:=Cm.low f3 z (Fr a2)
    have:=Ep b1 b2
    rw[DY]at this;cases this
  subst e
  congr 1
  refine MF f3 g3 fun p=>?_;have hp:=h p;rw[C0,C0]at hp
  by_cases e:y.path=p
  ·subst e;rw[HF f3 (DY _),HF g3 (DY _)]
  ·simpa[e]using hp
theorem Cm.filter(q:Tm→Bool):∀{l:List Tm} {lo:Option ByteArray},Cm lo l→Cm lo (l.filter q)
 | [],_,_=>trivial
 |t::r,lo,⟨h1,h2,h3⟩=>by
  have ih:=Cm.filter q h3;rw[DD];split
  ·exact⟨h1,h2,ih⟩
  ·cases lo with
   |none=>exact ih.weak
   |some p=>exact ih.mono (h1 p rfl)
theorem FS{l:List Tm}{lo:Option ByteArray}{t:Tm}(h:Cm lo l):t∈l↔Dx l t.path=some t:=by
 constructor
 ·induction l generalizing lo with
  |nil=>intro h;cases h
  |cons u r ih =>
   intro ht;rw[C0];rcases AF.1 ht with rfl | ht
   ·rw[Ax rfl]
   ·have:=Cm.low h.2.2 t ht
    rw[Aq (Zl this)];exact ih h.2.2 ht
 ·exact Fr
end Go.Eng

namespace Go.Eng
def Dw(t:Tm)(o:Option Sl):Bool:=match o with | none=>t.absent | some x=>CJ x.ver&&has t.set (place x.ver)
theorem gV(t:Tm)(s:List Sl):GS t s=Dw t (BD s t.path):=by
 unfold GS Dw BD;rfl
theorem Mk{s:List Sl}{p:ByteArray}{x:Sl}(h:BD s p=some x):x.path=p:=by
 have:=FM h;simpa using this
theorem Jx{s:List Sl}{p:ByteArray}{x:Sl}(h:BD s p=some x):x∈s:=CX h
theorem J3{s:List Sl}{p:ByteArray}:Cv s p=(BD s p).isSome:=by
 unfold Cv BD;rw[B3,List.find?_isSome,A5]
theorem ZN(t:Tm)(o:Option Sl):Dw (LI t) o=Dw t o:=by
 unfold Dw LI;cases o<;>simp[Hp]
theorem X9(u t:Tm)(o:Option Sl):Dw (G4 u t) o=(Dw u o&&Dw t o):=by
 unfold Dw G4;cases o with
 |none=>rfl
 |some x=>simp only[Vj];cases CJ x.ver<;>simp
theorem NA(u t:Tm)(o:Option Sl):Dw (Dv u t) o=(Dw u o||Dw t o):=by
 unfold Dw Dv;cases o with
 |none=>rfl
 |some x=>simp only[cQ];cases CJ x.ver<;>simp
def Ur(p:ByteArray)(o:Option Sl)(l:List Tm):Bool:=l.all fun t=>!decide (t.path=p)||Dw t o
theorem J0(p:ByteArray)(o:Option Sl):∀(l:List Tm) (a:Option Tm),(∀u,a=some u→u.path=p) →
  (l.foldl (Kd p) a=none↔a=none∧l.all (fun t=>!decide (t.path=p))=true)∧(∀u,l.foldl (Kd p) a=some u→u.path=p∧Dw u o=((match a with | none=>true | some b=>Dw b o)&&Ur p o l))
 | [],a,ha=>by
  refine⟨by simp,fun u h=>?_⟩;have h:a=some u:=h;subst h;exact⟨ha u rfl,by simp[Ur]⟩
 |t::l,a,ha=>by
  rw[FN]
  by_cases e:t.path=p
  ·have hs:Kd p a t=some (N9 a t):=by unfold Kd;rw[Ax e]
   rw[hs];have ih:=J0 p o l (some (N9 a t)) (fun u h=>by cases h;rw[Qp a t fun u h=>(ha u h).trans e.symm];exact e);refine⟨⟨fun h=>?_,fun h=>?_⟩,fun u h=>?_⟩
   ·have:=ih.1.1 h;cases this.1
   ·simp[e]at h
   ·obtain⟨h1,h2⟩:=ih.2 u h;refine⟨h1,?_⟩;rw[h2]
    have:Ur p o (t::l)=(Dw t o&&Ur p o l):=by simp[Ur,e]
    rw[this];cases a with
    |none=>simp[N9,ZN]
    |some b=>simp[N9,X9,Bool.and_assoc]
  ·have hs:Kd p a t=a:=by unfold Kd;rw[Aq e]
   rw[hs];have ih:=J0 p o l a ha
   have:Ur p o (t::l)=Ur p o l:=by simp[Ur,e]
   rw[this];refine⟨?_,ih.2⟩;rw[ih.1];simp[e]
theorem BJ{l:List Tm}{s:List Sl}:Bj l s=true↔∀t∈l,Dw t (BD s t.path)=true:=by
 unfold Bj;rw[AW];simp only[gV]
theorem LR(l:List Tm)(s:List Sl):Bj (Fa l) s=Bj l s:=by
 rw[B3,BJ,BJ];constructor
 ·intro h t ht
  have:=J0 t.path (BD s t.path) l none (fun _ e=>by cases e)
  rw[←Jc]at this;cases e:Dx (Fa l) t.path with
  |none =>
   have:=(this.1.1 e).2
   rw[AW]at this
   have:=this t ht
   simp at this
  |some u =>
   obtain⟨h1,h2⟩:=this.2 u e;have hu:=h u (Fr e);rw[h1,h2]at hu;simp only[El,Ur,AW]at hu
   have:=hu t ht
   simpa using this
 ·intro h u hu;have e:=(FS (Ew l)).1 hu
  have:=J0 u.path (BD s u.path) l none (fun _ e=>by cases e)
  rw[←Jc]at this;obtain⟨h1,h2⟩:=this.2 u e;rw[h2];simp only[El,Ur,AW];intro t ht
  by_cases e:t.path=u.path
  ·have:=h t ht;rw[e]at this;simp[this]
  ·simp[e]
theorem af{t:Tm}(h:HS t=true)(o:Option Sl):Dw t o=false:=by
 unfold HS at h;simp only[Af,Cy,F4]at h;unfold Dw;cases o with
 |none=>exact h.1
 |some x=>dsimp only;rw[h.2];simp[has]
def Gk(s:List Sl):Prop:=∀x∈s,CJ x.ver=true
theorem IK{v:Ver}(h:CJ v=true):0≤v.a∧v.a≤999∧0≤v.b∧v.b≤999∧0≤v.c∧v.c≤999:=by
 unfold CJ at h;simp only[Af]at h;obtain⟨⟨a,b⟩,c⟩:=h;obtain⟨a1,a2⟩:=Cq a;obtain⟨b1,b2⟩:=Cq b;obtain⟨c1,c2⟩:=Cq c;exact⟨a1,a2,b1,b2,c1,c2⟩
theorem JH{v:Ver}(h:CJ v=true):0≤place v∧place v<1000000:=by
 have:=IK h;unfold place;omega
theorem Us{t:Tm}(h:GK t=true){s:List Sl}(hs:Gk s):Dw t (BD s t.path)=true:=by
 unfold GK at h;simp only[Af,AD]at h;unfold Dw;cases e:BD s t.path with
 |none=>exact h.1
 |some x =>
  have:=hs x (Jx e)
  have hp:=JH this;dsimp only;rw[this,h.2];simp[has,BV,hp]
theorem Dj{l:List Tm}{s:List Sl}(hs:Gk s):Bj l s=(match Da l with | none=>false | some c=>Bj c s):=by
 unfold Da;split
 ·rename_i h;split at h
  ·rename_i hn;rw[←LR,AI];intro hv;rw[BJ]at hv;obtain⟨t,ht,hn⟩:=A5.1 hn
   have:=hv t ht
   rw[af hn]at this;cases this
  ·cases h
 ·rename_i c h;split at h
  ·cases h
  ·rename_i hn;cases h;rw[←LR,B3,BJ,BJ];constructor
   ·intro h t ht;exact h t (BM.1 ht).1
   ·intro h t ht;cases ha:GK t with
    |true=>exact Us ha hs
    |false=>exact h t (BM.2 ⟨ht,by simp[ha]⟩)
theorem Hd(a b:List Tm)(s:List Sl):Bj (a++b) s=(Bj a s&&Bj b s):=by unfold Bj;rw[List.all_append]
theorem E1{l c:List Tm}(h:Da l=some c):Cm none c:=by
 unfold Da at h;split at h
 ·cases h
 ·cases h;exact Cm.filter _ (Ew l)
theorem FW{l r:List Tm}{p:ByteArray}{t:Tm}{s:List Sl}(hs:Gk s)(h:FH l p=some (t,r)):Bj l s=(Dw t (BD s p)&&Bj r s)∧t.path=p:=by
 unfold FH at h;cases hc:Da l with
 |none=>rw[hc]at h;cases h
 |some c =>
  rw[hc]at h;dsimp only at h;cases hf:Dx c p with
  |none=>rw[hf]at h;cases h
  |some u =>
   rw[hf]at h;cases h;have hp:=Hh hf;refine⟨?_,hp⟩;rw[Dj hs,hc];dsimp only;rw[B3,Af,BJ,BJ];constructor
   ·intro h
    have:=h t (Fr hf)
    rw[hp]at this;exact⟨this,fun v hv=>h v (BM.1 hv).1⟩
   ·intro⟨h1,h2⟩ v hv
    by_cases e:v.path=p
    ·have:=(FS (E1 hc)).1 hv
     rw[e,hf]at this;cases this;rw[e];exact h1
    ·exact h2 v (BM.2 ⟨hv,by simp[e]⟩)
theorem T5{a b o:List Tm}{p:ByteArray}{s:List Sl}(hs:Gk s)(h:BA a b p=(o,0))(hv:Bj o s=true):Bj a s=true∨Bj b s=true:=by
 unfold BA at h;cases h1:FH a p with
 |none=>rw[h1]at h;simp at h
 |some x =>
  cases h2:FH b p with
  |none=>rw[h1,h2]at h;simp at h
  |some y =>
   obtain⟨t,r⟩:=x;obtain⟨u,m⟩:=y;rw[h1,h2]at h;dsimp only at h;cases hc:Da (r++m++[Dv t u])with
   |none=>rw[hc]at h;simp at h
   |some c =>
    rw[hc]at h
    have:c=o:=by simpa using h
    subst this;have e:=Dj (l:=r++m++[Dv t u]) hs;rw[hc]at e;dsimp only at e;rw[hv,Hd,Hd]at e;simp only[Af]at e;obtain⟨⟨e1,e2⟩,e3⟩:=e;obtain⟨va,pa⟩:=FW hs h1;obtain⟨vb,pb⟩:=FW hs h2;have e3:=BJ.1 e3 _ (As.2 rfl)
    have:(Dv t u).path=p:=pa
    rw[this,NA,CU]at e3;rcases e3 with e3 | e3
    ·exact .inl (by rw[va,e3,e1];rfl)
    ·exact .inr (by rw[vb,e3,e2];rfl)
theorem Ql{l:List Tm}{s:List Sl}(hs:Gk s)(DB:Qk l≠[]):Bj (Qk l) s=Bj l s:=by
 have:=Dj (l:=l) hs
 unfold Qk at *
 cases h:Da l with
 |none=>rw[h]at DB;exact absurd rfl DB
 |some c=>rw[h]at this;exact this.symm
end Go.Eng

namespace Go.Eng
-- paths
def EJ(c:UInt8):Bool:=decide (97≤c)&&decide (c≤122)
def Mb(c:UInt8):Bool:=decide (65≤c)&&decide (c≤90)
def CE(c:UInt8):Bool:=decide (48≤c)&&decide (c≤57)
def FY(c:UInt8):Bool:=EJ c||Mb c||CE c||decide (c=95)
def ZV:List UInt8:=[32,97,110,100,32,97,110,121,32,97,115,32,98,111,111,108,32,100,101,112,114,101,99,97,116,101,100,32,101,108,115,101,32,101,120,112,111,114,116,32,102,97,108,115,101,32,102,110,32,102,111,108,100,32,102,114,111,109,32,105,102,32,105,109,112,111,114,116,32,105,110,32,105,110,116,32,108,101,110,103,116,104,32,108,101,116,32,108,105,115,116,32,109,97,116,99,104,32,109,111,100,117,108,101,32,110,111,110,101,32,110,111,116,32,111,114,32,116,101,120,116,32,116,104,101,110,32,116,114,117,101,32,116,121,112,101,32,117,115,101,32]
def Ni:List UInt8→List UInt8→Bool
 | [],_=>true
 |_::_,[]=>false
 |a::x,b::y=>decide (a=b)&&Ni x y
def ig(x:List UInt8):List UInt8→Bool
 | []=>Ni x []
 |b::y=>Ni x (b::y)||ig x y
def UK(s:List UInt8):Bool:=ig (32::(s++[32])) ZV
def Gp(s:List UInt8):Bool:=!s.isEmpty&&decide (s.length≤32)&&EJ (s.headD 0)&&s.all FY&&!UK s
def G8(s:List UInt8):Bool:=Gp s&&s.all fun c=>EJ c||CE c
def D3(s:List UInt8):Int:=s.foldl (fun n c=>10*n+((c.toNat:Int)-48)) 0
def Gn(s:List UInt8):Option Int:=match s with
 |c::r=>if c=118 then(if r.isEmpty||decide (3<r.length)||(decide (1<r.length)&&decide (r.headD 0=48))||!r.all CE then none else some (D3 r))else none
 | []=>none
def CT(c:UInt8):List UInt8→List (List UInt8)
 | []=>[[]]
 |b::r=>if b=c then []::CT c r else match CT c r with
  | []=>[[b]]
  |x::l=>(b::x)::l
def Qf(p:List UInt8):Option Int:=match Gn ((CT 47 p).getLastD [])with
 |none=>none
 |some n=>if 64<p.length||(CT 47 p).length<2 then none else if(CT 47 p).all G8 then some n else none
def By(p:ByteArray):Option Int:=Qf p.data.toList
-- indexes
def F6(before:Option ByteArray)(q:Rq):Int :=
 if(By q.path).isNone then 4 else if q.set.isEmpty||!decide (q.set=canon q.set)||(match before with | some b=>!EN b q.path | none=>false)then 1 else 0
def Ea(before:Option ByteArray):List Rq→Int
 | []=>0
 |q::r=>if F6 before q=0 then Ea (some q.path) r else F6 before q
def Bn(l:List Rq):Int:=if 16<l.length then 7 else Ea none l
def DS(s:ByteArray):Bool:=decide (s.size=0)||decide (s.size=32)
def De(r:Rl):Int:=match By r.path with
 |none=>4
 |some m=>if !CJ r.ver||!decide (r.ver.a=m)then 2 else if Bn r.reqs≠0 then Bn r.reqs else if DS r.arch&&DS r.ifc&&DS r.cert then 0 else 1
def FD(a b:Int):Int:=if a<b then -1 else if b<a then 1 else 0
def LY(a b:ByteArray):Int:=if EN a b then -1 else if EN b a then 1 else 0
def I8(a b:Ver):Int:=if FD a.a b.a≠0 then FD a.a b.a else if FD a.b b.b≠0 then FD a.b b.b else FD a.c b.c
def IA(a b:Rl):Int:=if LY a.path b.path≠0 then LY a.path b.path else I8 a.ver b.ver
def FF(r:Rl):Sl:=⟨r.path,r.ver⟩
def Dd(before:Option Rl):List Rl→Int
 | []=>0
 |r::l=>if De r≠0 then De r else match before with
  |none=>Dd (some r) l
  |some b=>if FF b=FF r then 5 else if 0<IA b r then 1 else Dd (some r) l
def Ba(l:List Rl):Int:=if 256<l.length then 7 else Dd none l
def FR(x:List Rl)(y:Sl):Option Rl:=if Ba x≠0 then none else x.find? fun r=>decide (FF r=y)
def Kn(x:List Rl)(p:ByteArray):List Rl:=if Ba x≠0 then []else x.filter fun r=>decide (r.path=p)
def Cf(x:List Rl)(p:ByteArray):Bc:=canon (((Kn x p).filter fun r=>!r.yanked).map fun r=>(plc r.ver,plc r.ver+1))
def Tq(before:Option ByteArray):List Sl→Bool
 | []=>true
 |y::r=>(match before with |some b=>EN b y.path |none=>true)&&Tq (some y.path) r
def Lr(s:List Sl):Bool:=Tq none s
-- solutions
-- derivations
def Ph(x:List Rl)(p:ByteArray)(pl:Int):Option Rl:=x.find? fun r=>decide (r.path=p)&&decide (plc r.ver=pl)
def mt:ByteArray:=⟨#[]⟩
def JG{α:Type}(l:List α)(i:Int):Option α:=if i<0 then none else l[i.toNat]?
def dA(l:List Tm):Option (List Tm):=if l.isEmpty then none else some l
def DZ(x:List Rl)(roots:List Rq)(d:List (List Tm))(i:Nf):Option (List Tm) :=
 if i.kind=0 then
  if i.path=mt∧i.place=0∧i.left=0∧i.right=0 then(JG roots i.number).map JK else none
 else if i.kind=1 then
  if i.left=0∧i.right=0 then match Ph x i.path i.place with
   |none=>none
   |some r=>match JG r.reqs i.number with
    |none=>none
    |some q=>dA (Es i.path i.place q)
  else none
 else if i.kind=2 then
  if i.place=0∧i.number=0∧i.left=0∧i.right=0 then dA (HX i.path (Cf x i.path))else none
 else if i.kind=3 then
  if i.place=0∧i.number=0 then match JG d i.left,JG d i.right with
   |some a,some b=>if(BA a b i.path).2=0 then some (BA a b i.path).1 else none
   |_,_=>none
  else none
 else none
def Dt(x:List Rl)(roots:List Rq):List Nf→List (List Tm)→Option (List (List Tm))
 | [],d=>some d
 |i::l,d=>match DZ x roots d i with
  |none=>none
  |some t=>Dt x roots l (d++[t])
-- decisions
def CC(before:List Sl):List Rq→Option ByteArray→Option ByteArray
 | [],acc=>acc
 |q::l,acc=>CC before l (if Cv before q.path then acc else match acc with
  |none=>some q.path
  |some p=>if EN q.path p then some q.path else some p)
def HT(needs:List Rq)(before:List Sl):Option ByteArray:=CC before needs none
structure Vis where
 before:List Sl
 needs:List Rq
 rel:Rl
-- answers
-- the example
def bs(l:List UInt8):ByteArray:=⟨⟨l⟩⟩
end Go.Eng

namespace Go.Eng
-- the order of releases
theorem KI{a b:Int}(h:FD a b=0):a=b:=by
 unfold FD at h;split at h
 ·cases h
 ·split at h
  ·cases h
  ·omega
theorem Wj{a b:Int}(h:FD a b<0):a<b:=by
 unfold FD at h;split at h
 ·assumption
 ·split at h<;>omega
theorem U9{a b:ByteArray}(h:LY a b=0):a=b:=by
 unfold LY at h;cases h1:EN a b with
 |true=>rw[h1]at h;simp at h
 |false =>
  cases h2:EN b a with
  |true=>rw[h1,h2]at h;simp at h
  |false=>exact I7 h1 h2
theorem kG{a b:ByteArray}(h:LY a b<0):EN a b=true:=by
 unfold LY at h;cases h1:EN a b with
 |true=>rfl
 |false=>rw[h1]at h;cases h2:EN b a<;>rw[h2]at h<;>simp at h
def pk(a b:Ver):Prop:=a.a<b.a∨(a.a=b.a∧(a.b<b.b∨(a.b=b.b∧a.c<b.c)))
def dw(a b:Rl):Prop:=EN a.path b.path=true∨(a.path=b.path∧pk a.ver b.ver)
theorem kJ{a b:Ver}(h:I8 a b<0):pk a b:=by
 unfold I8 at h;split at h
 ·exact .inl (Wj h)
 ·rename_i h1;have h1:=KI (BR.1 h1);split at h
  ·exact .inr ⟨h1,.inl (Wj h)⟩
  ·rename_i h2;exact .inr ⟨h1,.inr ⟨KI (BR.1 h2),Wj h⟩⟩
theorem cu{a b:Ver}(h:I8 a b=0):a=b:=by
 unfold I8 at h;split at h
 ·rename_i h1;exact absurd h h1
 ·rename_i h1;have h1:=KI (BR.1 h1);split at h
  ·rename_i h2;exact absurd h h2
  ·rename_i h2;have h2:=KI (BR.1 h2);have h3:=KI h;cases a;cases b;simp_all
theorem Va{a b:Rl}(h:IA a b=0):FF a=FF b:=by
 unfold IA at h;split at h
 ·rename_i h1;exact absurd h h1
 ·rename_i h1;have h1:=U9 (BR.1 h1);have h2:=cu h;unfold FF;rw[h1,h2]
theorem kH{a b:Rl}(h:IA a b<0):dw a b:=by
 unfold IA at h;split at h
 ·exact .inl (kG h)
 ·rename_i h1;exact .inr ⟨U9 (BR.1 h1),kJ h⟩
theorem dy{a b c:Ver}(h:pk a b)(k:pk b c):pk a c:=by unfold pk at *;omega
theorem dx{a b c:Rl}(h:dw a b)(k:dw b c):dw a c:=by
 rcases h with h | ⟨h1,h2⟩
 ·rcases k with k | ⟨k1,k2⟩
  ·exact .inl (Ep h k)
  ·exact .inl (k1▸h)
 ·rcases k with k | ⟨k1,k2⟩
  ·exact .inl (h1▸k)
  ·exact .inr ⟨h1.trans k1,dy h2 k2⟩
theorem N1{a b:Rl}(h:dw a b)(k:FF a=FF b):False:=by
 unfold FF at k;simp only[Sl.mk.injEq]at k;rcases h with h | ⟨_,h⟩
 ·rw[k.1,DY]at h;cases h
 ·rw[k.2]at h;unfold pk at h;omega
-- a valid index
structure So(r:Rl):Prop where
 maj:By r.path=some r.ver.a
 val:CJ r.ver=true
 reqs:Bn r.reqs=0
theorem Zq{r:Rl}(h:De r=0):So r:=by
 unfold De at h;split at h
 ·cases h
 ·rename_i m hm;split at h
  ·cases h
  ·rename_i h1;split at h
   ·rename_i h2;exact absurd h h2
   ·rename_i h2;simp only[CU,Cy,FJ,not_or,BR]at h1;refine⟨by rw[hm,h1.2],by simpa using h1.1,BR.1 h2⟩
theorem Lc:∀{l:List Rl} {b:Option Rl},Dd b l=0→(∀r∈l,So r)∧(l.Pairwise dw∧∀c,b=some c→∀r∈l,dw c r)
 | [],b,_=>⟨fun _ h=>(by cases h),.nil,fun _ _ _ h=>(by cases h)⟩
 |r::l,b,h=>by
  unfold Dd at h;split at h
  ·rename_i h1;exact absurd h h1
  ·rename_i h1;have hr:=Zq (BR.1 h1);have go:Dd (some r) l=0→(∀c,b=some c→dw c r)→(∀z∈r::l,So z)∧((r::l).Pairwise dw∧∀c,b=some c→∀z∈r::l,dw c z):=fun h hc=>by
    obtain⟨i1,i2,i3⟩:=Lc h;refine⟨fun z hz=>?_,.cons (i3 r rfl) i2,fun c e z hz=>?_⟩
    ·rcases AF.1 hz with rfl | hz
     ·exact hr
     ·exact i1 z hz
    ·rcases AF.1 hz with rfl | hz
     ·exact hc c e
     ·exact dx (hc c e) (i3 r rfl z hz)
   cases b with
   |none=>exact go h fun _ e=>by cases e
   |some b =>
    dsimp only at h;split at h
    ·cases h
    ·rename_i hk;split at h
     ·cases h
     ·rename_i hc;refine go h fun c e=>?_;cases e;refine kH ?_
      have:IA b r≠0:=fun e=>hk (Va e)
      omega
theorem CQ{l:List Rl}(h:Ba l=0):(∀r∈l,So r)∧l.Pairwise dw:=by
 unfold Ba at h;split at h
 ·cases h
 ·exact⟨(Lc h).1,(Lc h).2.1⟩
theorem Ty{l:List Rl}(h:l.Pairwise dw){a b:Rl}(ha:a∈l)(hb:b∈l)(hk:FF a=FF b):a=b:=by
 induction h with
 |nil=>cases ha
 |cons h1 h2 ih =>
  rcases AF.1 ha with e1 | ha
  ·rcases AF.1 hb with e2 | hb
   ·exact e1.trans e2.symm
   ·exact(N1 (e1▸h1 b hb) hk).elim
  ·rcases AF.1 hb with e2 | hb
   ·exact(N1 (e2▸h1 a ha) hk.symm).elim
   ·exact ih ha hb
theorem W7{a b:Ver}(ha:CJ a=true)(hb:CJ b=true)(h1:a.a=b.a)(h2:place a=place b):a=b:=by
 have:=IK ha
 have:=IK hb
 unfold place at h2;have e1:a.b=b.b:=by omega
 have e2:a.c=b.c:=by omega
 cases a;cases b;simp_all
theorem So.plc{r:Rl}(h:So r):plc r.ver=place r.ver:=by unfold Go.Eng.plc;rw[h.val];rfl
theorem bL{l:List Rl}(h:(∀r∈l,So r)∧l.Pairwise dw){a b:Rl}(ha:a∈l)(hb:b∈l)(h1:a.path=b.path)(h2:place a.ver=place b.ver):a=b:=by
 refine Ty h.2 ha hb ?_
 have:=h.1 a ha
 have:=h.1 b hb
 have e:a.ver.a=b.ver.a:=by
  have e1:=(h.1 a ha).maj;rw[h1,(h.1 b hb).maj]at e1;exact(Ck e1).symm
 unfold FF;rw[h1,W7 (h.1 a ha).val (h.1 b hb).val e h2]
theorem Ji{x:List Rl}{y:Sl}{r:Rl}(h:FR x y=some r):Ba x=0∧r∈x∧FF r=y:=by
 unfold FR at h;split at h
 ·cases h
 ·rename_i h1;refine⟨BR.1 h1,CX h,?_⟩
  have:=FM h;simpa using this
structure nD(x:List Rl)(roots:List Rq)(s:List Sl):Prop where
 ix:Ba x=0
 inc:Lr s=true
 fnd:∀y∈s,∃r,FR x y=some r∧r.yanked=false
 root:∀q∈roots,∃y,BD s q.path=some y∧has q.set (place y.ver)=true
 req:∀y∈s,∀r,FR x y=some r→∀q∈r.reqs,∃z,BD s q.path=some z∧has q.set (place z.ver)=true
theorem Ts:∀{s:List Sl} {b:Option ByteArray},Tq b s=true→s.Pairwise (fun a b=>EN a.path b.path=true)∧∀c,b=some c→∀y∈s,EN c y.path=true
 | [],_,_=>⟨.nil,fun _ _ _ h=>by cases h⟩
 |y::r,b,h=>by
  unfold Tq at h;simp only[Af]at h;obtain⟨h1,h2⟩:=h;obtain⟨i1,i2⟩:=Ts h2;refine⟨.cons (i2 _ rfl) i1,fun c e z hz=>?_⟩;subst e;rcases AF.1 hz with rfl | hz
  ·exact h1
  ·exact Ep h1 (i2 _ rfl z hz)
theorem Nw{s:List Sl}(h:s.Pairwise (fun a b=>EN a.path b.path=true)){y:Sl}(hy:y∈s):BD s y.path=some y:=by
 induction h with
 |nil=>cases hy
 |cons h1 h2 ih =>
  rename_i a l;unfold BD;rw[E0];rcases AF.1 hy with rfl | hy
  ·simp
  ·have:=Zl (h1 y hy)
   simp only[this,decide_false];exact ih hy
theorem XH{s:List Sl}(h:Lr s=true){y:Sl}(hy:y∈s):BD s y.path=some y:=Nw (Ts h).1 hy
theorem nD.valid{x:List Rl}{roots:List Rq}{s:List Sl}(h:nD x roots s):Gk s:=fun y hy=>by
 obtain⟨r,h1,_⟩:=h.fnd y hy;obtain⟨_,h2,h3⟩:=Ji h1
 have:=((CQ h.ix).1 r h2).val
 rw[←h3];exact this
-- soundness
theorem Ro{q:Rq}{s:List Sl}(h:∃y,BD s q.path=some y∧has q.set (place y.ver)=true):Dw (DK q) (BD s q.path)=false:=by
 obtain⟨y,h1,h2⟩:=h;rw[h1];unfold Dw DK;dsimp only;rw[FU,h2];simp
theorem iV{l:List Tm}{s:List Sl}(hs:Gk s)(hn:Da l≠none)(hv:Bj l s=false):Bj (Qk l) s=false:=by
 have:=Dj (l:=l) hs
 unfold Qk;cases h:Da l with
 |none=>exact absurd h hn
 |some c=>rw[h,hv]at this;exact this.symm
theorem YB{l:List Tm}{s:List Sl}(hs:Gk s){o:List Tm}(h:dA (Qk l)=some o)(hv:Bj l s=false):Bj o s=false:=by
 unfold dA at h;split at h
 ·cases h
 ·rename_i DB;cases h;rw[Ql hs (by intro e;rw[e]at DB;exact DB rfl)];exact hv
theorem aE(q:Rq):Da [DK q]≠none:=by
 unfold Da Fa;simp only[List.foldl,NZ]
 have:HS (LI (DK q))=false:=by simp[HS,LI,DK]
 simp[this]
theorem Pd{α:Type}{l:List α}{i:Int}{a:α}(h:JG l i=some a):a∈l:=by
 unfold JG at h;split at h
 ·cases h
 ·exact AA h
theorem WG{x:List Rl}{roots:List Rq}{s:List Sl}(hs:nD x roots s){d:List (List Tm)}(hd:∀t∈d,Bj t s=false){i:Nf}{o:List Tm}(h:DZ x roots d i=some o):Bj o s=false:=by
 have hv:=hs.valid;unfold DZ at h;split at h
 ·split at h
  ·rw[AQ]at h;obtain⟨q,hq,rfl⟩:=h;refine iV hv (aE q) ?_;rw[AI];intro hw
   have:=BJ.1 hw _ (As.2 rfl)
   rw[show(DK q).path=q.path from rfl,Ro (hs.root q (Pd hq))]at this;cases this
  ·cases h
 ·split at h
  ·split at h
   ·split at h
    ·cases h
    ·rename_i r hr;split at h
     ·cases h
     ·rename_i q hq;refine YB hv h ?_;rw[AI];intro hw;have h1:=BJ.1 hw _ (Ab ..);have h2:=BJ.1 hw (DK q) (by simp);rw[show(DK q).path=q.path from rfl]at h2;dsimp only at h1;cases hf:BD s i.path with
      |none=>rw[hf]at h1;simp[Dw]at h1
      |some y =>
       rw[hf]at h1;unfold Dw at h1;simp only[Af]at h1;have hp:place y.ver=i.place:=by
        have:=h1.2
        simp only[has,BX,List.any_nil,Rw,Af,BV,AD]at this;omega
       have hy:=Jx hf;have xF:=Mk hf;obtain⟨r',e1,e2⟩:=hs.fnd y hy;obtain⟨_,m1,k1⟩:=Ji e1;have bu:r∈x:=CX hr;have qi:=FM hr;simp only[Af,AD]at qi;have FV:=CQ hs.ix
       have:r'=r:=by
        refine bL FV m1 bu ?_ ?_
        ·rw[qi.1,←xF,←k1];rfl
        ·rw[←(FV.1 r bu).plc,qi.2,←hp,←k1];rfl
       subst this
       have:=hs.req y hy r' e1 q (Pd hq)
       rw[Ro this]at h2;cases h2
   ·cases h
  ·split at h
   ·split at h
    ·refine YB hv h ?_;rw[AI];intro hw;have h1:=BJ.1 hw _ (As.2 rfl);dsimp only at h1;cases hf:BD s i.path with
     |none=>rw[hf]at h1;simp[Dw]at h1
     |some y =>
      rw[hf]at h1;unfold Dw at h1;simp only[Af]at h1;have hy:=Jx hf;have xF:=Mk hf;obtain⟨r,e1,e2⟩:=hs.fnd y hy;obtain⟨_,m1,k1⟩:=Ji e1;have FV:=CQ hs.ix;have h1:=h1.2;rw[FU]at h1;have Y4:=JH (hv y hy)
      have:has (Cf x i.path) (place y.ver)=true:=by
       unfold Cf;rw[Hp];unfold has;simp only[Y4,decide_true,El,A5,Ar,BM];refine⟨(plc r.ver,plc r.ver+1),⟨r,⟨?_,by simp[e2]⟩,rfl⟩,?_⟩
       ·unfold Kn;simp only[hs.ix,Ri,not_true,Gc,BM,m1,true_and,AD];rw[←xF,←k1];rfl
       ·rw[(FV.1 r m1).plc,←k1];rw[DO];exact⟨BF _,by show place r.ver<place r.ver+1;omega⟩
      rw[this]at h1;simp at h1
    ·cases h
   ·split at h
    ·split at h
     ·split at h
      ·rename_i a b ha hb;split at h
       ·rename_i h0;cases h;rw[AI];intro hw;rcases T5 hv (o:=(BA a b i.path).1) (Prod.ext rfl h0) hw with hw | hw
        ·rw[hd a (Pd ha)]at hw;cases hw
        ·rw[hd b (Pd hb)]at hw;cases hw
       ·cases h
      ·cases h
     ·cases h
    ·cases h
theorem Jv{x:List Rl}{roots:List Rq}{s:List Sl}(hs:nD x roots s):∀{l:List Nf} {d d' : List (List Tm)},(∀t∈d,Bj t s=false)→Dt x roots l d=some d'→∀t∈d',Bj t s=false
 | [],d,d',hd,h=>by cases h;exact hd
 |i::l,d,d',hd,h=>by
  unfold Dt at h;split at h
  ·cases h
  ·rename_i o ho;refine Jv hs (fun t ht=>?_) h;rcases A4.1 ht with ht | ht
   ·exact hd t ht
   ·rw[As.1 ht];exact WG hs hd ho
end Go.Eng

namespace Go.Eng
theorem Ir{α:Type}[DecidableEq α]:∀{l m:List α},l.Nodup→(∀x∈l,x∈m)→l.length≤m.length
 | [],_,_,_=>AL _
 |a::l,m,hn,hs=>by
  rw[Db]at hn;have ha:a∈m:=hs a (Ab ..)
  have:=Ir (l:=l) (m:=m.erase a) hn.2 fun x hx=>by
   have:x≠a:=fun e=>hn.1 (e▸hx)
   exact(List.mem_erase_of_ne this).2 (hs x (Ai _ hx))
  rw[List.length_erase_of_mem ha]at this
  have:=List.length_pos_of_mem ha
  simp only[Aj];omega
abbrev Pz(s:List Sl):Prop:=s.Pairwise (fun a b=>EN a.path b.path=true)
-- the next path
theorem J9(before:List Sl):∀{l:List Rq} {acc:Option ByteArray},(∀p,acc=some p→Cv before p=false) →
  (∀p,CC before l acc=some p→Cv before p=false∧(acc=some p∨∃q∈l,q.path=p))∧(CC before l acc=none→acc=none∧∀q∈l,Cv before q.path=true)
 | [],acc,ha=>⟨fun p h=>⟨ha p h,.inl h⟩,fun h=>⟨h,fun _ h=>(by cases h)⟩⟩
 |q::l,acc,ha=>by
  unfold CC
  have key:∀ca,(∀p,ca=some p→Cv before p=false)→(∀p,ca=some p→acc=some p∨q.path=p)→(ca=none→acc=none∧Cv before q.path=true) →
    (∀p,CC before l ca=some p→Cv before p=false∧(acc=some p∨∃q'∈q::l,q'.path=p))∧(CC before l ca=none→acc=none∧∀q'∈q::l,Cv before q'.path=true):=by
   intro ca h1 h2 h3;obtain⟨i1,i2⟩:=J9 before (l:=l) h1;refine⟨fun p h=>?_,fun h=>?_⟩
   ·obtain⟨j1,j2⟩:=i1 p h;refine⟨j1,?_⟩;rcases j2 with j2 | ⟨q',j3,j4⟩
    ·rcases h2 p j2 with h2 | h2
     ·exact .inl h2
     ·exact .inr ⟨q,Ab ..,h2⟩
    ·exact .inr ⟨q',Ai _ j3,j4⟩
   ·obtain⟨j1,j2⟩:=i2 h;obtain⟨k1,k2⟩:=h3 j1;refine⟨k1,fun q' hq=>?_⟩;rcases AF.1 hq with rfl | hq
    ·exact k2
    ·exact j2 q' hq
  cases hb:Cv before q.path with
  |true=>simp only[L5];exact key acc ha (fun p h=>.inl h) fun h=>⟨h,hb⟩
  |false =>
   simp only[Df,Gc];cases acc with
   |none=>exact key _ (fun p h=>by cases h;exact hb) (fun p h=>by cases h;exact .inr rfl) fun h=>by cases h
   |some p0 =>
    dsimp only;split
    ·exact key _ (fun p h=>by cases h;exact hb) (fun p h=>by cases h;exact .inr rfl) fun h=>by cases h
    ·exact key _ (fun p h=>by cases h;exact ha _ rfl) (fun p h=>by cases h;exact .inl rfl) fun h=>by cases h
theorem TP{needs:List Rq}{before:List Sl}{p:ByteArray}(h:HT needs before=some p):Cv before p=false∧∃q∈needs,q.path=p:=by
 obtain⟨h1,h2⟩:=(J9 before (l:=needs) (acc:=none) fun _ e=>by cases e).1 p h;rcases h2 with h2 | h2
 ·cases h2
 ·exact⟨h1,h2⟩
theorem ah{needs:List Rq}{before:List Sl}(h:HT needs before=none):∀q∈needs,Cv before q.path=true :=
 ((J9 before (l:=needs) (acc:=none) fun _ e=>by cases e).2 h).2
theorem Tf(a b:List Sl)(p:ByteArray):Cv (a++b) p=(Cv a p||Cv b p):=by unfold Cv;rw[Gt]
theorem Lp{s:List Sl}{p:ByteArray}:Cv s p=true↔∃y∈s,y.path=p:=by unfold Cv;simp
theorem Ho{s:List Sl}{p:ByteArray}:Cv s p=true↔p∈s.map (·.path):=by rw[Lp,Ar]
-- what is needed
-- skips
theorem Wm{t:List Tm}{b s:List Sl}(hs:Lr s=true)(hb:∀y∈b,y∈s)(h:CB t b=true):Bj t s=true:=by
 unfold CB at h;simp only[Af,Cy,CM]at h;obtain⟨h1,h2⟩:=h;rw[BJ]at h1⊢;intro u hu
 have:=h2 u hu
 simp only[Bool.not_eq_false]at this;rw[J3]at this;cases hf:BD b u.path with
 |none=>rw[hf]at this;cases this
 |some y =>
  have h3:=h1 u hu;rw[hf]at h3
  have:=XH hs (hb y (Jx hf))
  rw[Mk hf]at this;rw[this];exact h3
end Go.Eng

namespace Go.Eng
-- right answers
-- the first decision that differs
-- prefixes
theorem Ja{x:List Rl}{roots:List Rq}:∀{l:List Nf} {d d' : List (List Tm)},Dt x roots l d=some d'→d'.length=d.length+l.length
 | [],d,d',h=>by cases h;rfl
 |i::l,d,d',h=>by
  unfold Dt at h;split at h
  ·cases h
  ·have:=Ja h
   simp only[Ad,Aj,Ah]at this⊢;omega
theorem Hc{x:List Rl}{roots:List Rq}:∀(l m:List Nf) (d:List (List Tm)),Dt x roots (l++m) d=match Dt x roots l d with | none=>none | some d'=>Dt x roots m d'
 | [],_,_=>rfl
 |i::l,m,d=>by
  show(match DZ x roots d i with | none=>none | some t=>Dt x roots (l++m) (d++[t]))=(match(match DZ x roots d i with | none=>none | some t=>Dt x roots l (d++[t]))with | none=>none | some d'=>Dt x roots m d');cases DZ x roots d i with
  |none=>rfl
  |some t=>exact Hc l m _
theorem LK{x:List Rl}{roots:List Rq}:∀{l:List Nf} {d d' : List (List Tm)},Dt x roots l d=some d'→d <+: d'
 | [],d,d',h=>by cases h;exact List.prefix_refl _
 |i::l,d,d',h=>by
  unfold Dt at h;split at h
  ·cases h
  ·exact(Ot _ _).trans (LK h)
theorem Ns{x:List Rl}{roots:List Rq}{l:List Nf}{d:List (List Tm)}(h:Dt x roots l []=some d)(k:Nat):Dt x roots (l.take k) []=some (d.take k):=by
 rw[←Ek k l,Hc]at h;cases e:Dt x roots (l.take k) []with
 |none=>rw[e]at h;cases h
 |some f =>
  rw[e]at h;dsimp only at h;have h1:=Ja e;have h2:=Ja h;have h3:=LK h
  congr 1
  simp only[Ah,AG,B4]at h1 h2;obtain⟨z,rfl⟩:=h3
  by_cases hk:k≤l.length
  ·rw[Eg (by omega),AC (by omega)]
  ·rw[Ad]at h2
   have:z=[]:=AK (by omega)
   subst this;rw[CV,AC (by omega)]
def La(l:List Tm):Prop:=Da l=some l
theorem d7{l:List Tm}:∀(l2:List Tm),Cm none (l2++l)→l.foldl (fun acc t=>NZ t acc) l2=l2++l:=by
 induction l with
 |nil=>intro l2 _;simp
 |cons t r ih =>
  intro l2 h;have hi:NZ t l2=l2++[t]:=by
   have:∀(m:List Tm) (lo:Option ByteArray),Cm lo (m++t::r)→NZ t m=m++[t]:=by
    intro m
    induction m with
    |nil =>
     intro lo hm;have hc:EQ t.set:=hm.2.1;unfold NZ;rw[show LI t=t from pP rfl rfl (Ju hc)];rfl
    |cons u m ihm =>
     intro lo hm;have hm:Cm lo (u::(m++t::r)):=hm;have Dy:=Cm.low hm.2.2 t (by simp);unfold NZ;rw[Ax Dy,ihm _ hm.2.2];rfl
   exact this l2 none h
  rw[FN,hi]
  have:=ih (l2++[t]) (by rw[BH];exact h)
  rw[this,BH];rfl
theorem Qg{l:List Tm}(h:Cm none l):Fa l=l:=by
 have:=d7 (l:=l) [] h
 simpa[Fa]using this
theorem QS{l c:List Tm}(h:Da l=some c):La c:=by
 have hs:=E1 h;unfold La;unfold Da at h⊢;rw[Qg hs];split at h
 ·cases h
 ·rename_i hn;cases h;rw[Aq]
  ·congr 1
   rw[List.filter_filter];simp
  ·rw[Bool.not_eq_true,CM]at hn⊢;intro t ht;exact hn t (BM.1 ht).1
theorem OS:La []:=rfl
theorem My(l:List Tm):La (Qk l):=by
 unfold Qk;cases h:Da l with
 |none=>exact OS
 |some c=>exact QS h
theorem NH(a b:List Tm)(p:ByteArray):La (BA a b p).1:=by
 unfold BA;split
 ·split
  ·rename_i h;exact QS h
  ·exact OS
 ·exact OS
theorem YA{l o:List Tm}(h:dA l=some o):o=l:=by unfold dA at h;split at h<;>cases h;rfl
theorem Yf{x:List Rl}{roots:List Rq}{d:List (List Tm)}{i:Nf}{o:List Tm}(h:DZ x roots d i=some o):La o:=by
 unfold DZ at h;split at h
 ·split at h
  ·rw[AQ]at h;obtain⟨q,_,rfl⟩:=h;exact My _
  ·cases h
 ·split at h
  ·split at h
   ·split at h
    ·cases h
    ·split at h
     ·cases h
     ·rw[YA h];exact My _
   ·cases h
  ·split at h
   ·split at h
    ·rw[YA h];exact My _
    ·cases h
   ·split at h
    ·split at h
     ·split at h
      ·split at h
       ·cases h;exact NH _ _ _
       ·cases h
      ·cases h
     ·cases h
    ·cases h
theorem Nr{x:List Rl}{roots:List Rq}:∀{l:List Nf} {d d' : List (List Tm)},(∀t∈d,La t)→Dt x roots l d=some d'→∀t∈d',La t
 | [],d,d',hd,h=>by cases h;exact hd
 |i::l,d,d',hd,h=>by
  unfold Dt at h;split at h
  ·cases h
  ·rename_i o ho;refine Nr (fun t ht=>?_) h;rcases A4.1 ht with ht | ht
   ·exact hd t ht
   ·rw[As.1 ht];exact Yf ho
-- tampering
end Go.Eng
