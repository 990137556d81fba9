/- Lemmas for the claims of this seat, without a condition: part 1 (P1, P2, P3, P4, P5, P6, P7). -/
import Derived.Test.YtmcbkdbfaneofaaGreatDoorBA00
namespace Go.Eng
def BR(p:Int)(s:Int×Int):Bool:=decide (s.1≤p)&&decide (p<s.2)
def has(s:List (Int×Int))(p:Int):Bool:=decide (0≤p)&&decide (p<1000000)&&s.any (BR p)
abbrev Bc:=List (Int×Int)
def EV(lo:Int):Bc→Prop
 | []=>True
 |y::r=>lo≤y.1∧y.1<y.2∧y.2≤1000000∧EV (y.2+1) r
abbrev EQ(l:Bc):Prop:=EV 0 l
def Wo(x:Int×Int):Bc→Bc
 | []=>[x]
 |y::r=>if x.2<y.1 then x::y::r else if y.2<x.1 then y::Wo x r else Wo (min x.1 y.1,max x.2 y.2) r
def Ef(x:Int×Int):Int×Int:=(max x.1 0,min x.2 1000000)
def canon:Bc→Bc
 | []=>[]
 |x::r=>if(Ef x).1<(Ef x).2 then Wo (Ef x) (canon r)else canon r
def Lp(at_:Int):Bc→Bc
 | []=>if at_<1000000 then [(at_,1000000)]else []
 |y::r=>if at_<y.1 then(at_,y.1)::Lp y.2 r else Lp y.2 r
def En(s:Bc):Bc:=Lp 0 (canon s)
def Rc(l:List Bc):Bc:=canon l.flatten
def QA(l:List Bc):Bc:=En (l.map En).flatten
def PX(a b:Bc):Bc:=Rc [a,b]
def NO(a b:Bc):Bc:=QA [a,b]
def sX(a b:Bc):Bc:=NO a (En b)
def yU(a b:Bc):Bool:=(sX a b).isEmpty
theorem EV.mono{lo H1 : Int}:∀{l:Bc},EV lo l→H1≤lo→EV H1 l
 | [],_,_=>trivial
 |_::_,⟨h1,h2,h3,h4⟩,h=>⟨Int.le_trans h h1,h2,h3,h4⟩
theorem EV.low{lo:Int}:∀{l:Bc},EV lo l→∀y∈l,lo≤y.1∧y.1<y.2∧y.2≤1000000
 |y::r,⟨h1,h2,h3,h4⟩,z,hz=>by
  rcases AC.1 hz with rfl | hz
  ·exact⟨h1,h2,h3⟩
  ·have:=h4.low z hz
   exact⟨by omega,this.2.1,this.2.2⟩
theorem DU{p:Int}{s:Int×Int}:BR p s=true↔s.1≤p∧p<s.2:=by simp[BR]
theorem MX{lo:Int}{l:Bc}(h:EV lo l){p:Int}(hp:l.any (BR p)=true):lo≤p:=by
 obtain⟨y,hy,h2⟩:=A8.1 hp
 have:=h.low y hy
 have:=DU.1 h2
 omega
theorem fD{lo:Int}{l:Bc}(h:EV lo l){p:Int}(hp:l.any (BR p)=true):p<1000000:=by
 obtain⟨y,hy,h2⟩:=A8.1 hp
 have:=h.low y hy
 have:=DU.1 h2
 omega
theorem N1:∀(l:Bc) {lo:Int} {x:Int×Int},EV lo l→lo≤x.1→x.1<x.2→x.2≤1000000→EV lo (Wo x l)
 | [],lo,x,_,h1,h2,h3=>⟨h1,h2,h3,trivial⟩
 |y::r,lo,x,⟨g1,g2,g3,g4⟩,h1,h2,h3=>by
  unfold Wo;split
  ·exact⟨h1,h2,h3,by omega,g2,g3,g4⟩
  ·split
   ·exact⟨g1,g2,g3,N1 r g4 (by omega) h2 h3⟩
   ·refine N1 r (g4.mono (by omega)) ?_ ?_ ?_<;>dsimp only<;>omega
theorem OQ:∀(l:Bc) {lo:Int} {x:Int×Int} (p:Int),EV lo l→x.1<x.2→(Wo x l).any (BR p)=(BR p x||l.any (BR p))
 | [],lo,x,p,_,_=>by simp[Wo]
 |y::r,lo,x,p,⟨g1,g2,g3,g4⟩,h2=>by
  unfold Wo;split
  ·simp
  ·split
   ·rw[Cc,OQ r p g4 h2,Cc,←Bool.or_assoc,←Bool.or_assoc,Bool.or_comm (BR p y)]
   ·rw[OQ r p g4 (by dsimp only;omega),Cc,←Bool.or_assoc]
    congr 1
    simp only[BR];rw[BZ];simp only[Ai,CG,Ay];omega
theorem Cs:∀s:Bc,EQ (canon s)
 | []=>trivial
 |x::r=>by
  unfold canon;split
  ·rename_i h;refine N1 _ (Cs r) ?_ h ?_<;>simp only[Ef]<;>omega
  ·exact Cs r
theorem KO:∀(s:Bc) (p:Int),(canon s).any (BR p)=has s p
 | [],p=>by simp[has,canon]
 |x::r,p=>by
  have ih:=KO r p;unfold canon;have hx:BR p (Ef x)=(decide (0≤p)&&decide (p<1000000)&&BR p x):=by
   simp only[BR,Ef];rw[BZ];simp only[Ai,Ay,Int.max_le,Int.lt_min];omega
  split
  ·rename_i h;rw[OQ _ p (Cs r) h,ih,hx];simp only[has,Cc];cases decide (0≤p)<;>cases decide (p<1000000)<;>simp
  ·rename_i h;rw[ih];simp only[has,Cc]
   have:BR p (Ef x)=false:=by
    rw[AD];intro h3
    have:=DU.1 h3
    omega
   rw[this]at hx;cases h1:decide (0≤p)<;>cases h2:decide (p<1000000)<;>simp_all
theorem HW{l:Bc}(h:EQ l)(p:Int):has l p=l.any (BR p):=by
 unfold has;cases e:l.any (BR p)with
 |false=>simp
 |true=>have h1:0≤p:=MX h e;have h2:=fD h e;simp[h1,h2]
theorem Hw(s:Bc)(p:Int):has (canon s) p=has s p:=by
 rw[HW (Cs s),KO]
theorem NE:∀{a b:Bc} {lo:Int},EV lo a→EV lo b→(∀p,a.any (BR p)=b.any (BR p))→a=b
 | [],[],_,_,_,_=>rfl
 | [],z::s,_,_,⟨g1,g2,g3,g4⟩,h=>by
  have:=h z.1
  rw[Cc,DU.2 ⟨AZ _,g2⟩]at this;simp at this
 |y::r,[],_,⟨g1,g2,g3,g4⟩,_,h=>by
  have:=h y.1
  rw[Cc,DU.2 ⟨AZ _,g2⟩]at this;simp at this
 |y::r,z::s,lo,⟨f1,f2,f3,f4⟩,⟨g1,g2,g3,g4⟩,h=>by
  have below:∀{x:Int×Int} {t:Bc} {p:Int},EV (x.2+1) t→(x::t).any (BR p)=true→p≤x.2→x.1≤p∧p<x.2:=fun {x t p} ht hp Ho=>by
   rw[Cc,CG]at hp;rcases hp with hp | hp
   ·exact DU.1 hp
   ·have:=MX ht hp;omega
  have low:∀{x:Int×Int} {t:Bc} {p:Int},x.1<x.2→EV (x.2+1) t→(x::t).any (BR p)=true→x.1≤p:=fun {x t p} hx ht hp=>by
   rw[Cc,CG]at hp;rcases hp with hp | hp
   ·exact(DU.1 hp).1
   ·have:=MX ht hp;omega
  have cov:∀{x:Int×Int} {t:Bc} {p:Int},x.1≤p→p<x.2→(x::t).any (BR p)=true:=fun {x t p} h1 h2=>by
   rw[Cc,DU.2 ⟨h1,h2⟩,Bool.true_or]
  have e1:y.1=z.1:=by
   have a1:=low f2 f4 ((h z.1).trans (cov (AZ _) g2));have a2:=low g2 g4 ((h y.1).symm.trans (cov (AZ _) f2));omega
  have e2:y.2=z.2:=by
   rcases Int.lt_trichotomy y.2 z.2 with hl | he | hl
   ·have:=below f4 ((h y.2).trans (cov (by omega) hl)) (AZ _);omega
   ·exact he
   ·have:=below g4 ((h z.2).symm.trans (cov (by omega) hl)) (AZ _);omega
  have e:y=z:=Prod.ext e1 e2;subst e
  congr 1
  refine NE f4 g4 fun p=>?_;have hp:=h p;simp only[Cc]at hp;cases hs:BR p y with
  |false=>rw[hs,Jz,Jz]at hp;exact hp
  |true =>
   have:=DU.1 hs
   have n:∀{t:Bc},EV (y.2+1) t→t.any (BR p)=false:=fun {t} ht=>by
    rw[AD];intro hx;have:=MX ht hx;omega
   rw[n f4,n g4]
theorem HQ{a b:Bc}(ha:EQ a)(hb:EQ b)(h:∀p,has a p=has b p):a=b :=
 NE ha hb fun p=>by rw[←HW ha,←HW hb,h]
theorem S0{a s:Bc}(ha:EQ a)(h:∀p,has a p=has s p):a=canon s :=
 HQ ha (Cs s) fun p=>by rw[h,Hw]
theorem JB{a:Bc}(ha:EQ a):canon a=a:=(S0 ha fun _=>rfl).symm
theorem Mu{s:Bc}{p:Int}(h:has s p=true):0≤p∧p<1000000:=by
 unfold has at h;simp only[Ai,Ay]at h;exact h.1
def L5(p:Int):Bool:=decide (0≤p)&&decide (p<1000000)
theorem Lq:∀(l:Bc) {at_ lo:Int},0≤at_→EV lo l→lo≤at_+1→at_≤lo→EV at_ (Lp at_ l)∧∀p,(Lp at_ l).any (BR p)=(decide (at_≤p)&&decide (p<1000000)&&!l.any (BR p))
 | [],at_,lo,h0,_,h1,h2=>by
  unfold Lp;split
  ·exact⟨⟨AZ _,by dsimp only;omega,AZ _,trivial⟩,fun p=>by simp[BR]⟩
  ·refine⟨trivial,fun p=>?_⟩
   have:(decide (at_≤p)&&decide (p<1000000))=false:=by
    rw[AD];simp only[VQ,Ai,Ay];omega
   simp[this]
 |y::r,at_,lo,h0,⟨g1,g2,g3,g4⟩,h1,h2=>by
  have ih:=Lq r (at_:=y.2) (by omega) g4 (AZ _) (by omega);have key:∀p,(decide (at_≤p)&&decide (p<y.1)||(Lp y.2 r).any (BR p))=(decide (at_≤p)&&decide (p<1000000)&&!(y::r).any (BR p)):=fun p=>by
   rw[ih.2,Cc];cases hr:r.any (BR p)with
   |true =>
    have:=MX g4 hr
    have a:decide (p<y.1)=false:=Aj (by omega);simp[a]
   |false =>
    rw[BZ];simp only[BR,Ai,CG,Ay,C3,Bool.or_false,Bool.and_eq_false_iff,Ka,Bool.not_false,and_true];omega
  unfold Lp;split
  ·rename_i h;refine⟨⟨AZ _,h,by dsimp only;omega,ih.1 |> fun c=>?_⟩,fun p=>?_⟩
   ·dsimp only;cases e:Lp y.2 r with
    |nil=>trivial
    |cons z s =>
     rw[e]at c;exact⟨by have:=c.1;omega,c.2⟩
   ·rw[Cc,←key];rfl
  ·rename_i h;refine⟨ih.1.mono (by omega),fun p=>?_⟩;rw[←key]
   have:(decide (at_≤p)&&decide (p<y.1))=false:=by
    rw[AD];simp only[VQ,Ai,Ay];omega
   rw[this,Jz]
theorem Hu(s:Bc):EQ (En s):=by
 unfold En;exact(Lq _ (AZ _) (Cs s) (by omega) (AZ _)).1
theorem FW(s:Bc)(p:Int):has (En s) p=(L5 p&&!has s p):=by
 rw[HW (Hu s)];unfold En;rw[(Lq _ (AZ _) (Cs s) (by omega) (AZ _)).2,KO];rfl
theorem ZR(a b:Bc)(p:Int):has (a++b) p=(has a p||has b p):=by
 simp only[has,HL];cases decide (0≤p)<;>cases decide (p<1000000)<;>simp
theorem Mt:∀(l:List Bc) (p:Int),has l.flatten p=l.any fun s=>has s p
 | [],p=>by simp[has]
 |s::l,p=>by rw[BI,ZR,Mt l p,Cc]
theorem TE(l:List Bc)(p:Int):has (Rc l) p=l.any fun s=>has s p:=by
 unfold Rc;rw[Hw,Mt]
theorem Xf(l:List Bc):EQ (Rc l):=Cs _
theorem WY(l:List Bc):EQ (QA l):=Hu _
theorem TC(l:List Bc)(p:Int):has (QA l) p=(L5 p&&l.all fun s=>has s p):=by
 unfold QA;rw[FW,Mt,List.any_map];cases h:L5 p with
 |false=>rfl
 |true =>
  rw[EP,EP,List.not_any_eq_all_not]
  congr 1
  funext s
  simp[FW,h]
theorem Y6(a b:Bc):EQ (PX a b):=Cs _
theorem RE(a b:Bc):EQ (NO a b):=Hu _
theorem cX(a b:Bc)(p:Int):has (PX a b) p=(has a p||has b p):=by
 unfold PX;rw[TE];simp
theorem Vz(a b:Bc)(p:Int):has (NO a b) p=(has a p&&has b p):=by
 unfold NO;rw[TC];simp only[List.all_cons,List.all_nil,RV];cases h:has a p with
 |false=>simp
 |true=>have:=Mu h;simp[L5,this]
theorem ZY(s:Bc):NO s s=canon s:=HQ (RE _ _) (Cs _) fun p=>by rw[Vz,Hw,Bool.and_self]
theorem UO{s:Bc}:canon s=[]↔∀p,has s p=false:=by
 constructor
 ·intro h p;rw[←Hw,h];simp[has]
 ·intro h;exact HQ (Cs s) (b:=[]) trivial fun p=>by rw[Hw,h p];simp[has]
theorem QL{s:Bc}(hs:EQ s):s=[]↔∀p,has s p=false:=by
 rw[←UO,JB hs]
def fc(l:List Bc)(p:Int):Nat:=l.countP fun s=>has s p
theorem SZ:∀{l:Bc} {lo:Int},EV lo l→lo≤1000000→(l.length:Int)≤1000000-lo
 | [],lo,_,h=>by simp;omega
 |y::r,lo,⟨g1,g2,g3,g4⟩,h=>by
  by_cases h3:y.2+1≤1000000
  ·have:=SZ g4 h3
   simp only[Av];omega
  ·cases r with
   |nil=>simp;omega
   |cons z s=>have:=g4.1;have:=g4.2.1;have:=g4.2.2.1;omega
theorem Is{l:Bc}(h:EQ l):l.length≤1000000:=by have:=SZ h (by omega);omega
structure Ver where
 (a b c:Int)
structure Rq where
 path:ByteArray
 set:List (Int×Int)
structure Rl where
 path:ByteArray
 ver:Ver
 reqs:List Rq
 (arch ifc cert:ByteArray)
 yanked:Bool
structure Sl where
 path:ByteArray
 ver:Ver
structure Tm where
 path:ByteArray
 absent:Bool
 set:List (Int×Int)
structure Nf where
 kind:Int
 path:ByteArray
 (place number left right:Int)
structure Sk where
 path:ByteArray
 (place inf:Int)
structure An where
 found:Bool
 sel:List Sl
 infs:List Nf
 skips:List Sk
instance:DecidableEq Ver:=fun x y=>decidable_of_iff (x.a=y.a∧x.b=y.b∧x.c=y.c) ⟨fun⟨h1,h2,h3⟩=>by cases x;cases y;simp_all,fun h=>by subst h;exact⟨rfl,rfl,rfl⟩⟩
instance:DecidableEq Sl:=fun x y=>decidable_of_iff (x.path=y.path∧x.ver=y.ver) ⟨fun⟨h1,h2⟩=>by cases x;cases y;simp_all,fun h=>by subst h;exact⟨rfl,rfl⟩⟩
theorem pW{x y:Tm}(h1:x.path=y.path)(h2:x.absent=y.absent)(h3:x.set=y.set):x=y:=by cases x;cases y;simp_all
def okPart(n:Int):Prop:=0≤n∧n≤999
instance (n:Int):Decidable (okPart n):=by unfold okPart;infer_instance
def Cy(v:Ver):Bool:=decide (okPart v.a)&&decide (okPart v.b)&&decide (okPart v.c)
def place(v:Ver):Int:=1000*v.b+v.c
def plc(v:Ver):Int:=if Cy v then place v else 0
def Ck(s:List Sl)(p:ByteArray):Option Sl:=s.find? fun x=>decide (x.path=p)
def GV(t:Tm)(s:List Sl):Bool :=
 match s.find? (fun x=>decide (x.path=t.path))with
 |none=>t.absent
 |some x=>Cy x.ver&&has t.set (place x.ver)
def CT(s:List Sl)(p:ByteArray):Bool:=s.any fun x=>decide (x.path=p)
def Bm(l:List Tm)(s:List Sl):Bool:=l.all fun t=>GV t s
def CP(l:List Tm)(s:List Sl):Bool:=Bm l s&&!l.any fun t=>!CT s t.path
def Kw:List UInt8→List UInt8→Bool
 | [],[]=>false
 | [],_::_=>true
 |_::_,[]=>false
 |a::x,b::y=>decide (a<b)||(decide (a=b)&&Kw x y)
def EJ(a b:ByteArray):Bool:=Kw a.data.toList b.data.toList
theorem RG:∀x,Kw x x=false
 | []=>rfl
 |a::x=>by
  unfold Kw;simp[RG x]
theorem T4:∀{x y z},Kw x y=true→Kw y z=true→Kw x z=true
 | [],[],_,h,_=>by simp[Kw]at h
 | [],_::_,[],_,h=>by simp[Kw]at h
 | [],_::_,_::_,_,_=>rfl
 |_::_,[],_,h,_=>by simp[Kw]at h
 |_::_,_::_,[],_,h=>by simp[Kw]at h
 |a::x,b::y,c::z,h1,h2=>by
  unfold Kw at *
  simp only[CG,Ai,Ay]at *
  rcases h1 with h1 | ⟨rfl,h1⟩
  ·rcases h2 with h2 | ⟨rfl,h2⟩
   ·exact .inl (UInt8.lt_trans h1 h2)
   ·exact .inl h1
  ·rcases h2 with h2 | ⟨rfl,h2⟩
   ·exact .inl h2
   ·exact .inr ⟨rfl,T4 h1 h2⟩
theorem YA:∀{x y},Kw x y=false→Kw y x=false→x=y
 | [],[],_,_=>rfl
 | [],_::_,h,_=>by simp[Kw]at h
 |_::_,[],_,h=>by simp[Kw]at h
 |a::x,b::y,h1,h2=>by
  unfold Kw at *
  simp only[Bool.or_eq_false_iff,Bool.and_eq_false_iff,Ka]at *
  have e:a=b:=by
   have l1:=UInt8.not_lt.1 h1.1;have l2:=UInt8.not_lt.1 h2.1;exact UInt8.le_antisymm l2 l1
  subst e
  have:=YA (x:=x) (y:=y) (by simpa using h1.2) (by simpa using h2.2)
  rw[this]
theorem uW{a b:ByteArray}(h:a.data.toList=b.data.toList):a=b:=by
 cases a;cases b;simp only[ByteArray.mk.injEq];exact I0.1 h
theorem Dk(a:ByteArray):EJ a a=false:=RG _
theorem EK{a b c:ByteArray}(h:EJ a b=true)(k:EJ b c=true):EJ a c=true:=T4 h k
theorem HP{a b:ByteArray}(h:EJ a b=false)(k:EJ b a=false):a=b:=uW (YA h k)
theorem Zu{a b:ByteArray}(h:EJ a b=true):a≠b:=fun e=>by subst e;rw[Dk]at h;cases h
theorem Qk{a b:ByteArray}(h:EJ a b=true):EJ b a=false:=by
 rw[AD];intro k;have:=EK h k;rw[Dk]at this;cases this
def LP(t:Tm):Tm:=⟨t.path,t.absent,canon t.set⟩
def G8(u t:Tm):Tm:=⟨u.path,u.absent&&t.absent,NO u.set t.set⟩
def Oh(t:Tm):List Tm→List Tm
 | []=>[LP t]
 |u::r=>if EJ u.path t.path then u::Oh t r else if u.path=t.path then G8 u t::r else LP t::u::r
def Fb(l:List Tm):List Tm:=l.foldl (fun acc t=>Oh t acc) []
def H3(t:Tm):Bool:=!t.absent&&t.set.isEmpty
def GO(t:Tm):Bool:=t.absent&&decide (t.set=[(0,1000000)])
def CZ(l:List Tm):Option (List Tm):=if(Fb l).any H3 then none else some ((Fb l).filter fun t=>!GO t)
def QM(l:List Tm):List Tm:=(CZ l).getD []
def DQ(q:Rq):Tm:=⟨q.path,true,En q.set⟩
def JS(q:Rq):List Tm:=QM [DQ q]
def Ev(path:ByteArray)(pl:Int)(q:Rq):List Tm:=QM [⟨path,false,[(pl,pl+1)]⟩,DQ q]
def Io(path:ByteArray)(qS:Bc):List Tm:=QM [⟨path,false,En qS⟩]
def Dz(l:List Tm)(p:ByteArray):Option Tm:=l.find? fun t=>decide (t.path=p)
def F1(l:List Tm)(p:ByteArray):List Tm:=l.filter fun t=>!decide (t.path=p)
def Dw(a b:Tm):Tm:=⟨a.path,a.absent||b.absent,PX a.set b.set⟩
def FC(l:List Tm)(p:ByteArray):Option (Tm×List Tm):=match CZ l with
 |none=>none
 |some c=>match Dz c p with
  |none=>none
  |some t=>some (t,F1 c p)
def BF(a b:List Tm)(p:ByteArray):List Tm×Int :=
 match FC a p,FC b p with
 |some (t,r),some (u,m)=>match CZ (r++m++[Dw t u])with
  |some o=>(o,0)
  |none=>([],8)
 |_,_=>([],1)
def Cm(lo:Option ByteArray):List Tm→Prop
 | []=>True
 |t::r=>(∀p,lo=some p→EJ p t.path=true)∧EQ t.set∧Cm (some t.path) r
theorem Cm.weak{lo:Option ByteArray}:∀{l:List Tm},Cm lo l→Cm none l
 | [],_=>trivial
 |_::_,⟨_,h2,h3⟩=>⟨fun _ h=>(by cases h),h2,h3⟩
theorem Cm.low{p:ByteArray}:∀{l:List Tm},Cm (some p) l→∀t∈l,EJ p t.path=true
 |t::r,⟨h1,h2,h3⟩,u,hu=>by
  rcases AC.1 hu with rfl | hu
  ·exact h1 p rfl
  ·exact EK (h1 p rfl) (h3.low u hu)
theorem Cm.canon{lo:Option ByteArray}:∀{l:List Tm},Cm lo l→∀t∈l,EQ t.set
 |t::r,⟨h1,h2,h3⟩,u,hu=>by
  rcases AC.1 hu with rfl | hu
  ·exact h2
  ·exact h3.canon u hu
theorem Cm.mono{p q:ByteArray}:∀{l:List Tm},Cm (some p) l→EJ q p=true→Cm (some q) l
 | [],_,_=>trivial
 |t::r,⟨h1,h2,h3⟩,h=>⟨fun _ e=>by cases e;exact EK h (h1 p rfl),h2,h3⟩
theorem Mz:∀{l:List Tm} {lo:Option ByteArray} (t:Tm),Cm lo l→(∀p,lo=some p→EJ p t.path=true)→Cm lo (Oh t l)
 | [],lo,t,_,h=>⟨h,Cs _,trivial⟩
 |u::r,lo,t,⟨h1,h2,h3⟩,h=>by
  unfold Oh;split
  ·rename_i DH;exact⟨h1,h2,Mz t h3 fun p e=>by cases e;exact DH⟩
  ·rename_i DH;split
   ·rename_i he;exact⟨h1,RE _ _,h3⟩
   ·rename_i he;refine⟨h,Cs _,fun p e=>?_,h2,h3⟩;cases e
    have:EJ u.path t.path=false:=by simpa using DH
    cases hb:EJ t.path u.path with
    |true=>exact hb
    |false=>exact absurd (HP this hb) he
theorem Pn:∀(l acc:List Tm),Cm none acc→Cm none (l.foldl (fun acc t=>Oh t acc) acc)
 | [],_,h=>h
 |t::l,acc,h=>Pn l _ (Mz t h fun _ e=>by cases e)
theorem EA(l:List Tm):Cm none (Fb l):=Pn l [] trivial
theorem CW(t:Tm)(r:List Tm)(p:ByteArray):Dz (t::r) p=if t.path=p then some t else Dz r p:=by
 unfold Dz;rw[FK];by_cases h:t.path=p<;>simp[h]
theorem HR{p q:ByteArray}{l:List Tm}(h:Cm (some p) l)(hq:EJ p q=false):Dz l q=none:=by
 unfold Dz;rw[D2];intro t ht
 have:=h.low t ht
 simp only[Ay];intro e;subst e;rw[hq]at this;cases this
def Ox(o:Option Tm)(t:Tm):Tm:=match o with | none=>LP t | some u=>G8 u t
theorem QP(o:Option Tm)(t:Tm)(h:∀u,o=some u→u.path=t.path):(Ox o t).path=t.path:=by
 cases o with
 |none=>rfl
 |some u=>exact h u rfl
theorem Hl{l:List Tm}{p:ByteArray}{u:Tm}(h:Dz l p=some u):u.path=p:=by
 have:=E0 h;simpa using this
theorem Fq{l:List Tm}{p:ByteArray}{u:Tm}(h:Dz l p=some u):u∈l:=Cu h
theorem Tr:∀{l:List Tm} {lo:Option ByteArray} (t:Tm) (p:ByteArray),Cm lo l→Dz (Oh t l) p=if t.path=p then some (Ox (Dz l p) t)else Dz l p
 | [],lo,t,p,_=>by
  unfold Oh;rw[CW];show(if t.path=p then some (LP t)else none)=_
  by_cases h:t.path=p<;>simp[h,Dz,Ox]
 |u::r,lo,t,p,⟨h1,h2,h3⟩=>by
  unfold Oh;split
  ·rename_i DH;rw[CW,CW,Tr t p h3]
   by_cases hu:u.path=p
   ·have:¬t.path=p:=fun e=>Zu DH (hu.trans e.symm)
    simp[hu,this]
   ·simp[hu]
  ·rename_i DH;split
   ·rename_i he;rw[CW,CW];show(if u.path=p then some (G8 u t)else _)=_
    by_cases hu:u.path=p
    ·simp[hu,he▸hu,Ox]
    ·have:¬t.path=p:=fun e=>hu (he.trans e)
     simp[hu,this]
   ·rename_i he;rw[CW];show(if t.path=p then some (LP t)else _)=_
    by_cases ht:t.path=p
    ·have hn:Dz (u::r) p=none:=by
      rw[CW];have hu:¬u.path=p:=fun e=>he (e.trans ht.symm);simp only[hu,Gd];exact HR h3 (by subst ht;simpa using DH)
     simp[ht,hn,Ox]
    ·simp[ht]
def Kj(p:ByteArray)(o:Option Tm)(t:Tm):Option Tm:=if t.path=p then some (Ox o t)else o
theorem Rx(p:ByteArray):∀(l acc:List Tm),Cm none acc→Dz (l.foldl (fun acc t=>Oh t acc) acc) p=l.foldl (Kj p) (Dz acc p)
 | [],_,_=>rfl
 |t::l,acc,h=>by
  rw[FL,Rx p l _ (Mz t h fun _ e=>by cases e),Tr t p h];rfl
theorem Jm(l:List Tm)(p:ByteArray):Dz (Fb l) p=l.foldl (Kj p) none:=Rx p l [] trivial
theorem MV:∀{a b:List Tm} {lo:Option ByteArray},Cm lo a→Cm lo b→(∀p,Dz a p=Dz b p)→a=b
 | [],[],_,_,_,_=>rfl
 | [],z::s,_,_,_,h=>by have:=h z.path;rw[CW,Au rfl]at this;cases this
 |z::s,[],_,_,_,h=>by have:=h z.path;rw[CW,Au rfl]at this;cases this
 |y::r,z::s,lo,⟨f1,f2,f3⟩,⟨g1,g2,g3⟩,h=>by
  have e:y=z:=by
   have a1:=h y.path;have a2:=h z.path;rw[CW,Au rfl,CW]at a1;rw[CW,CW z,Au rfl]at a2
   by_cases e:z.path=y.path
   ·rw[Au e]at a1;exact Bv a1
   ·rw[Al e]at a1;rw[Al (fun c=>e c.symm)]at a2;have b1:=Cm.low g3 y (Fq a1.symm);have b2:=Cm.low f3 z (Fq a2)
    have:=EK b1 b2
    rw[Dk]at this;cases this
  subst e
  congr 1
  refine MV f3 g3 fun p=>?_;have hp:=h p;rw[CW,CW]at hp
  by_cases e:y.path=p
  ·subst e;rw[HR f3 (Dk _),HR g3 (Dk _)]
  ·simpa[e]using hp
theorem Cm.filter(q:Tm→Bool):∀{l:List Tm} {lo:Option ByteArray},Cm lo l→Cm lo (l.filter q)
 | [],_,_=>trivial
 |t::r,lo,⟨h1,h2,h3⟩=>by
  have ih:=Cm.filter q h3;rw[D8];split
  ·exact⟨h1,h2,ih⟩
  ·cases lo with
   |none=>exact ih.weak
   |some p=>exact ih.mono (h1 p rfl)
theorem FV{l:List Tm}{lo:Option ByteArray}{t:Tm}(h:Cm lo l):t∈l↔Dz l t.path=some t:=by
 constructor
 ·induction l generalizing lo with
  |nil=>intro h;cases h
  |cons u r ih =>
   intro ht;rw[CW];rcases AC.1 ht with rfl | ht
   ·rw[Au rfl]
   ·have:=Cm.low h.2.2 t ht
    rw[Al (Zu this)];exact ih h.2.2 ht
 ·exact Fq
def Dy(t:Tm)(o:Option Sl):Bool:=match o with | none=>t.absent | some x=>Cy x.ver&&has t.set (place x.ver)
theorem ia(t:Tm)(s:List Sl):GV t s=Dy t (Ck s t.path):=by
 unfold GV Dy Ck;rfl
theorem Mo{s:List Sl}{p:ByteArray}{x:Sl}(h:Ck s p=some x):x.path=p:=by
 have:=E0 h;simpa using this
theorem JD{s:List Sl}{p:ByteArray}{x:Sl}(h:Ck s p=some x):x∈s:=Cu h
theorem Kc{s:List Sl}{p:ByteArray}:CT s p=(Ck s p).isSome:=by
 unfold CT Ck;rw[BZ,List.find?_isSome,A8]
theorem ZV(t:Tm)(o:Option Sl):Dy (LP t) o=Dy t o:=by
 unfold Dy LP;cases o<;>simp[Hw]
theorem Yl(u t:Tm)(o:Option Sl):Dy (G8 u t) o=(Dy u o&&Dy t o):=by
 unfold Dy G8;cases o with
 |none=>rfl
 |some x=>simp only[Vz];cases Cy x.ver<;>simp
theorem NN(u t:Tm)(o:Option Sl):Dy (Dw u t) o=(Dy u o||Dy t o):=by
 unfold Dy Dw;cases o with
 |none=>rfl
 |some x=>simp only[cX];cases Cy x.ver<;>simp
def UK(p:ByteArray)(o:Option Sl)(l:List Tm):Bool:=l.all fun t=>!decide (t.path=p)||Dy t o
theorem Kb(p:ByteArray)(o:Option Sl):∀(l:List Tm) (a:Option Tm),(∀u,a=some u→u.path=p) →
  (l.foldl (Kj p) a=none↔a=none∧l.all (fun t=>!decide (t.path=p))=true)∧(∀u,l.foldl (Kj p) a=some u→u.path=p∧Dy u o=((match a with | none=>true | some b=>Dy b o)&&UK p o l))
 | [],a,ha=>by
  refine⟨by simp,fun u h=>?_⟩;have h:a=some u:=h;subst h;exact⟨ha u rfl,by simp[UK]⟩
 |t::l,a,ha=>by
  rw[FL]
  by_cases e:t.path=p
  ·have hs:Kj p a t=some (Ox a t):=by unfold Kj;rw[Au e]
   rw[hs];have ih:=Kb p o l (some (Ox a t)) (fun u h=>by cases h;rw[QP a t fun u h=>(ha u h).trans e.symm];exact e);refine⟨⟨fun h=>?_,fun h=>?_⟩,fun u h=>?_⟩
   ·have:=ih.1.1 h;cases this.1
   ·simp[e]at h
   ·obtain⟨h1,h2⟩:=ih.2 u h;refine⟨h1,?_⟩;rw[h2]
    have:UK p o (t::l)=(Dy t o&&UK p o l):=by simp[UK,e]
    rw[this];cases a with
    |none=>simp[Ox,ZV]
    |some b=>simp[Ox,Yl,Bool.and_assoc]
  ·have hs:Kj p a t=a:=by unfold Kj;rw[Al e]
   rw[hs];have ih:=Kb p o l a ha
   have:UK p o (t::l)=UK p o l:=by simp[UK,e]
   rw[this];refine⟨?_,ih.2⟩;rw[ih.1];simp[e]
theorem BK{l:List Tm}{s:List Sl}:Bm l s=true↔∀t∈l,Dy t (Ck s t.path)=true:=by
 unfold Bm;rw[AS];simp only[ia]
theorem LZ(l:List Tm)(s:List Sl):Bm (Fb l) s=Bm l s:=by
 rw[BZ,BK,BK];constructor
 ·intro h t ht
  have:=Kb t.path (Ck s t.path) l none (fun _ e=>by cases e)
  rw[←Jm]at this;cases e:Dz (Fb l) t.path with
  |none =>
   have:=(this.1.1 e).2
   rw[AS]at this
   have:=this t ht
   simp at this
  |some u =>
   obtain⟨h1,h2⟩:=this.2 u e;have hu:=h u (Fq e);rw[h1,h2]at hu;simp only[EP,UK,AS]at hu
   have:=hu t ht
   simpa using this
 ·intro h u hu;have e:=(FV (EA l)).1 hu
  have:=Kb u.path (Ck s u.path) l none (fun _ e=>by cases e)
  rw[←Jm]at this;obtain⟨h1,h2⟩:=this.2 u e;rw[h2];simp only[EP,UK,AS];intro t ht
  by_cases e:t.path=u.path
  ·have:=h t ht;rw[e]at this;simp[this]
  ·simp[e]
theorem ao{t:Tm}(h:H3 t=true)(o:Option Sl):Dy t o=false:=by
 unfold H3 at h;simp only[Ai,C3,F7]at h;unfold Dy;cases o with
 |none=>exact h.1
 |some x=>dsimp only;rw[h.2];simp[has]
def Gm(s:List Sl):Prop:=∀x∈s,Cy x.ver=true
theorem Kk{v:Ver}(h:Cy v=true):0≤v.a∧v.a≤999∧0≤v.b∧v.b≤999∧0≤v.c∧v.c≤999:=by
 unfold Cy at h;simp only[Ai]at h;obtain⟨⟨a,b⟩,c⟩:=h;obtain⟨a1,a2⟩:=BC a;obtain⟨b1,b2⟩:=BC b;obtain⟨c1,c2⟩:=BC c;exact⟨a1,a2,b1,b2,c1,c2⟩
theorem JR{v:Ver}(h:Cy v=true):0≤place v∧place v<1000000:=by
 have:=Kk h;unfold place;omega
theorem UL{t:Tm}(h:GO t=true){s:List Sl}(hs:Gm s):Dy t (Ck s t.path)=true:=by
 unfold GO at h;simp only[Ai,Ay]at h;unfold Dy;cases e:Ck s t.path with
 |none=>exact h.1
 |some x =>
  have:=hs x (JD e)
  have hp:=JR this;dsimp only;rw[this,h.2];simp[has,BR,hp]
theorem Dj{l:List Tm}{s:List Sl}(hs:Gm s):Bm l s=(match CZ l with | none=>false | some c=>Bm c s):=by
 unfold CZ;split
 ·rename_i h;split at h
  ·rename_i hn;rw[←LZ,AD];intro hv;rw[BK]at hv;obtain⟨t,ht,hn⟩:=A8.1 hn
   have:=hv t ht
   rw[ao hn]at this;cases this
  ·cases h
 ·rename_i c h;split at h
  ·cases h
  ·rename_i hn;cases h;rw[←LZ,BZ,BK,BK];constructor
   ·intro h t ht;exact h t (Bu.1 ht).1
   ·intro h t ht;cases ha:GO t with
    |true=>exact UL ha hs
    |false=>exact h t (Bu.2 ⟨ht,by simp[ha]⟩)
theorem Hh(a b:List Tm)(s:List Sl):Bm (a++b) s=(Bm a s&&Bm b s):=by unfold Bm;rw[List.all_append]
theorem E1{l c:List Tm}(h:CZ l=some c):Cm none c:=by
 unfold CZ at h;split at h
 ·cases h
 ·cases h;exact Cm.filter _ (EA l)
theorem F0{l r:List Tm}{p:ByteArray}{t:Tm}{s:List Sl}(hs:Gm s)(h:FC l p=some (t,r)):Bm l s=(Dy t (Ck s p)&&Bm r s)∧t.path=p:=by
 unfold FC at h;cases hc:CZ l with
 |none=>rw[hc]at h;cases h
 |some c =>
  rw[hc]at h;dsimp only at h;cases hf:Dz c p with
  |none=>rw[hf]at h;cases h
  |some u =>
   rw[hf]at h;cases h;have hp:=Hl hf;refine⟨?_,hp⟩;rw[Dj hs,hc];dsimp only;rw[BZ,Ai,BK,BK];constructor
   ·intro h
    have:=h t (Fq hf)
    rw[hp]at this;exact⟨this,fun v hv=>h v (Bu.1 hv).1⟩
   ·intro⟨h1,h2⟩ v hv
    by_cases e:v.path=p
    ·have:=(FV (E1 hc)).1 hv
     rw[e,hf]at this;cases this;rw[e];exact h1
    ·exact h2 v (Bu.2 ⟨hv,by simp[e]⟩)
theorem Up{a b o:List Tm}{p:ByteArray}{s:List Sl}(hs:Gm s)(h:BF a b p=(o,0))(hv:Bm o s=true):Bm a s=true∨Bm b s=true:=by
 unfold BF at h;cases h1:FC a p with
 |none=>rw[h1]at h;simp at h
 |some x =>
  cases h2:FC b p with
  |none=>rw[h1,h2]at h;simp at h
  |some y =>
   obtain⟨t,r⟩:=x;obtain⟨u,m⟩:=y;rw[h1,h2]at h;dsimp only at h;cases hc:CZ (r++m++[Dw t u])with
   |none=>rw[hc]at h;simp at h
   |some c =>
    rw[hc]at h
    have:c=o:=by simpa using h
    subst this;have e:=Dj (l:=r++m++[Dw t u]) hs;rw[hc]at e;dsimp only at e;rw[hv,Hh,Hh]at e;simp only[Ai]at e;obtain⟨⟨e1,e2⟩,e3⟩:=e;obtain⟨va,pa⟩:=F0 hs h1;obtain⟨vb,pb⟩:=F0 hs h2;have e3:=BK.1 e3 _ (As.2 rfl)
    have:(Dw t u).path=p:=pa
    rw[this,NN,CG]at e3;rcases e3 with e3 | e3
    ·exact .inl (by rw[va,e3,e1];rfl)
    ·exact .inr (by rw[vb,e3,e2];rfl)
theorem QN{l:List Tm}{s:List Sl}(hs:Gm s)(DM:QM l≠[]):Bm (QM l) s=Bm l s:=by
 have:=Dj (l:=l) hs
 unfold QM at *
 cases h:CZ l with
 |none=>rw[h]at DM;exact absurd rfl DM
 |some c=>rw[h]at this;exact this.symm
-- paths
def EH(c:UInt8):Bool:=decide (97≤c)&&decide (c≤122)
def Mh(c:UInt8):Bool:=decide (65≤c)&&decide (c≤90)
def CK(c:UInt8):Bool:=decide (48≤c)&&decide (c≤57)
def F2(c:UInt8):Bool:=EH c||Mh c||CK c||decide (c=95)
def aa:List UInt8:=[32,97,110,100,32,97,110,121,32,97,115,32,98,111,111,108,32,100,101,112,114,101,99,97,116,101,100,32,101,108,115,101,32,101,120,112,111,114,116,32,102,97,108,115,101,32,102,110,32,102,111,108,100,32,102,114,111,109,32,105,102,32,105,109,112,111,114,116,32,105,110,32,105,110,116,32,108,101,110,103,116,104,32,108,101,116,32,108,105,115,116,32,109,97,116,99,104,32,109,111,100,117,108,101,32,110,111,110,101,32,110,111,116,32,111,114,32,116,101,120,116,32,116,104,101,110,32,116,114,117,101,32,116,121,112,101,32,117,115,101,32]
def Ny:List UInt8→List UInt8→Bool
 | [],_=>true
 |_::_,[]=>false
 |a::x,b::y=>decide (a=b)&&Ny x y
def iq(x:List UInt8):List UInt8→Bool
 | []=>Ny x []
 |b::y=>Ny x (b::y)||iq x y
def UY(s:List UInt8):Bool:=iq (32::(s++[32])) aa
def Gq(s:List UInt8):Bool:=!s.isEmpty&&decide (s.length≤32)&&EH (s.headD 0)&&s.all F2&&!UY s
def Hc(s:List UInt8):Bool:=Gq s&&s.all fun c=>EH c||CK c
def D3(s:List UInt8):Int:=s.foldl (fun n c=>10*n+((c.toNat:Int)-48)) 0
def Gp(s:List UInt8):Option Int:=match s with
 |c::r=>if c=118 then(if r.isEmpty||decide (3<r.length)||(decide (1<r.length)&&decide (r.headD 0=48))||!r.all CK then none else some (D3 r))else none
 | []=>none
def CQ(c:UInt8):List UInt8→List (List UInt8)
 | []=>[[]]
 |b::r=>if b=c then []::CQ c r else match CQ c r with
  | []=>[[b]]
  |x::l=>(b::x)::l
def QI(p:List UInt8):Option Int:=match Gp ((CQ 47 p).getLastD [])with
 |none=>none
 |some n=>if 64<p.length||(CQ 47 p).length<2 then none else if(CQ 47 p).all Hc then some n else none
def Bh(p:ByteArray):Option Int:=QI p.data.toList
-- indexes
def Gb(before:Option ByteArray)(q:Rq):Int :=
 if(Bh q.path).isNone then 4 else if q.set.isEmpty||!decide (q.set=canon q.set)||(match before with | some b=>!EJ b q.path | none=>false)then 1 else 0
def Ed(before:Option ByteArray):List Rq→Int
 | []=>0
 |q::r=>if Gb before q=0 then Ed (some q.path) r else Gb before q
def Bx(l:List Rq):Int:=if 16<l.length then 7 else Ed none l
def DW(s:ByteArray):Bool:=decide (s.size=0)||decide (s.size=32)
def Dd(r:Rl):Int:=match Bh r.path with
 |none=>4
 |some m=>if !Cy r.ver||!decide (r.ver.a=m)then 2 else if Bx r.reqs≠0 then Bx r.reqs else if DW r.arch&&DW r.ifc&&DW r.cert then 0 else 1
def E8(a b:Int):Int:=if a<b then -1 else if b<a then 1 else 0
def F8(a b:ByteArray):Int:=if EJ a b then -1 else if EJ b a then 1 else 0
def GY(a b:Ver):Int:=if E8 a.a b.a≠0 then E8 a.a b.a else if E8 a.b b.b≠0 then E8 a.b b.b else E8 a.c b.c
def IQ(a b:Rl):Int:=if F8 a.path b.path≠0 then F8 a.path b.path else GY a.ver b.ver
def Gf(r:Rl):Sl:=⟨r.path,r.ver⟩
def Dc(before:Option Rl):List Rl→Int
 | []=>0
 |r::l=>if Dd r≠0 then Dd r else match before with
  |none=>Dc (some r) l
  |some b=>if Gf b=Gf r then 5 else if 0<IQ b r then 1 else Dc (some r) l
def A6(l:List Rl):Int:=if 256<l.length then 7 else Dc none l
def N8(x:List Rl)(y:Sl):Option Rl:=if A6 x≠0 then none else x.find? fun r=>decide (Gf r=y)
def Ky(x:List Rl)(p:ByteArray):List Rl:=if A6 x≠0 then []else x.filter fun r=>decide (r.path=p)
def Cg(x:List Rl)(p:ByteArray):Bc:=canon (((Ky x p).filter fun r=>!r.yanked).map fun r=>(plc r.ver,plc r.ver+1))
def In(before:Option ByteArray):List Sl→Bool
 | []=>true
 |y::r=>(match before with |some b=>EJ b y.path |none=>true)&&In (some y.path) r
def Et(s:List Sl):Bool:=In none s
-- solutions
-- derivations
def PM(x:List Rl)(p:ByteArray)(pl:Int):Option Rl:=x.find? fun r=>decide (r.path=p)&&decide (plc r.ver=pl)
def mt:ByteArray:=⟨#[]⟩
def JP{α:Type}(l:List α)(i:Int):Option α:=if i<0 then none else l[i.toNat]?
def dA(l:List Tm):Option (List Tm):=if l.isEmpty then none else some l
def D1(x:List Rl)(roots:List Rq)(d:List (List Tm))(i:Nf):Option (List Tm) :=
 if i.kind=0 then
  if i.path=mt∧i.place=0∧i.left=0∧i.right=0 then(JP roots i.number).map JS else none
 else if i.kind=1 then
  if i.left=0∧i.right=0 then match PM x i.path i.place with
   |none=>none
   |some r=>match JP r.reqs i.number with
    |none=>none
    |some q=>dA (Ev i.path i.place q)
  else none
 else if i.kind=2 then
  if i.place=0∧i.number=0∧i.left=0∧i.right=0 then dA (Io i.path (Cg x i.path))else none
 else if i.kind=3 then
  if i.place=0∧i.number=0 then match JP d i.left,JP d i.right with
   |some a,some b=>if(BF a b i.path).2=0 then some (BF a b i.path).1 else none
   |_,_=>none
  else none
 else none
def Dt(x:List Rl)(roots:List Rq):List Nf→List (List Tm)→Option (List (List Tm))
 | [],d=>some d
 |i::l,d=>match D1 x roots d i with
  |none=>none
  |some t=>Dt x roots l (d++[t])
-- decisions
def DF(before:List Sl):List Rq→Option ByteArray→Option ByteArray
 | [],acc=>acc
 |q::l,acc=>DF before l (if CT before q.path then acc else match acc with
  |none=>some q.path
  |some p=>if EJ q.path p then some q.path else some p)
def K2(needs:List Rq)(before:List Sl):Option ByteArray:=DF before needs none
structure Vis where
 before:List Sl
 needs:List Rq
 rel:Rl
-- answers
-- the example
def bs(l:List UInt8):ByteArray:=⟨⟨l⟩⟩
-- the order of releases
theorem KP{a b:Int}(h:E8 a b=0):a=b:=by
 unfold E8 at h;split at h
 ·cases h
 ·split at h
  ·cases h
  ·omega
theorem Wz{a b:Int}(h:E8 a b<0):a<b:=by
 unfold E8 at h;split at h
 ·assumption
 ·split at h<;>omega
theorem Vp{a b:ByteArray}(h:F8 a b=0):a=b:=by
 unfold F8 at h;cases h1:EJ a b with
 |true=>rw[h1]at h;simp at h
 |false =>
  cases h2:EJ b a with
  |true=>rw[h1,h2]at h;simp at h
  |false=>exact HP h1 h2
theorem kY{a b:ByteArray}(h:F8 a b<0):EJ a b=true:=by
 unfold F8 at h;cases h1:EJ a b with
 |true=>rfl
 |false=>rw[h1]at h;cases h2:EJ b a<;>rw[h2]at h<;>simp at h
def iF(a b:Ver):Prop:=a.a<b.a∨(a.a=b.a∧(a.b<b.b∨(a.b=b.b∧a.c<b.c)))
def af(a b:Rl):Prop:=EJ a.path b.path=true∨(a.path=b.path∧iF a.ver b.ver)
theorem aW{a b:Ver}(h:GY a b<0):iF a b:=by
 unfold GY at h;split at h
 ·exact .inl (Wz h)
 ·rename_i h1;have h1:=KP (B1.1 h1);split at h
  ·exact .inr ⟨h1,.inl (Wz h)⟩
  ·rename_i h2;exact .inr ⟨h1,.inr ⟨KP (B1.1 h2),Wz h⟩⟩
theorem Vr{a b:Ver}(h:GY a b=0):a=b:=by
 unfold GY at h;split at h
 ·rename_i h1;exact absurd h h1
 ·rename_i h1;have h1:=KP (B1.1 h1);split at h
  ·rename_i h2;exact absurd h h2
  ·rename_i h2;have h2:=KP (B1.1 h2);have h3:=KP h;cases a;cases b;simp_all
theorem Vq{a b:Rl}(h:IQ a b=0):Gf a=Gf b:=by
 unfold IQ at h;split at h
 ·rename_i h1;exact absurd h h1
 ·rename_i h1;have h1:=Vp (B1.1 h1);have h2:=Vr h;unfold Gf;rw[h1,h2]
theorem kZ{a b:Rl}(h:IQ a b<0):af a b:=by
 unfold IQ at h;split at h
 ·exact .inl (kY h)
 ·rename_i h1;exact .inr ⟨Vp (B1.1 h1),aW h⟩
theorem dy{a b c:Ver}(h:iF a b)(k:iF b c):iF a c:=by unfold iF at *;omega
theorem VO{a b c:Rl}(h:af a b)(k:af b c):af a c:=by
 rcases h with h | ⟨h1,h2⟩
 ·rcases k with k | ⟨k1,k2⟩
  ·exact .inl (EK h k)
  ·exact .inl (k1▸h)
 ·rcases k with k | ⟨k1,k2⟩
  ·exact .inl (h1▸k)
  ·exact .inr ⟨h1.trans k1,dy h2 k2⟩
theorem LC{a b:Rl}(h:af a b)(k:Gf a=Gf b):False:=by
 unfold Gf at k;simp only[Sl.mk.injEq]at k;rcases h with h | ⟨_,h⟩
 ·rw[k.1,Dk]at h;cases h
 ·rw[k.2]at h;unfold iF at h;omega
-- a valid index
structure SM(r:Rl):Prop where
 maj:Bh r.path=some r.ver.a
 val:Cy r.ver=true
 reqs:Bx r.reqs=0
theorem Zz{r:Rl}(h:Dd r=0):SM r:=by
 unfold Dd at h;split at h
 ·cases h
 ·rename_i m hm;split at h
  ·cases h
  ·rename_i h1;split at h
   ·rename_i h2;exact absurd h h2
   ·rename_i h2;simp only[CG,C3,Ka,not_or,B1]at h1;refine⟨by rw[hm,h1.2],by simpa using h1.1,B1.1 h2⟩
theorem Lk:∀{l:List Rl} {b:Option Rl},Dc b l=0→(∀r∈l,SM r)∧(l.Pairwise af∧∀c,b=some c→∀r∈l,af c r)
 | [],b,_=>⟨fun _ h=>(by cases h),.nil,fun _ _ _ h=>(by cases h)⟩
 |r::l,b,h=>by
  unfold Dc at h;split at h
  ·rename_i h1;exact absurd h h1
  ·rename_i h1;have hr:=Zz (B1.1 h1);have go:Dc (some r) l=0→(∀c,b=some c→af c r)→(∀z∈r::l,SM z)∧((r::l).Pairwise af∧∀c,b=some c→∀z∈r::l,af c z):=fun h hc=>by
    obtain⟨i1,i2,i3⟩:=Lk h;refine⟨fun z hz=>?_,.cons (i3 r rfl) i2,fun c e z hz=>?_⟩
    ·rcases AC.1 hz with rfl | hz
     ·exact hr
     ·exact i1 z hz
    ·rcases AC.1 hz with rfl | hz
     ·exact hc c e
     ·exact VO (hc c e) (i3 r rfl z hz)
   cases b with
   |none=>exact go h fun _ e=>by cases e
   |some b =>
    dsimp only at h;split at h
    ·cases h
    ·rename_i hk;split at h
     ·cases h
     ·rename_i hc;refine go h fun c e=>?_;cases e;refine kZ ?_
      have:IQ b r≠0:=fun e=>hk (Vq e)
      omega
theorem CO{l:List Rl}(h:A6 l=0):(∀r∈l,SM r)∧l.Pairwise af:=by
 unfold A6 at h;split at h
 ·cases h
 ·exact⟨(Lk h).1,(Lk h).2.1⟩
theorem T0{l:List Rl}(h:l.Pairwise af){a b:Rl}(ha:a∈l)(hb:b∈l)(hk:Gf a=Gf b):a=b:=by
 induction h with
 |nil=>cases ha
 |cons h1 h2 ih =>
  rcases AC.1 ha with e1 | ha
  ·rcases AC.1 hb with e2 | hb
   ·exact e1.trans e2.symm
   ·exact(LC (e1▸h1 b hb) hk).elim
  ·rcases AC.1 hb with e2 | hb
   ·exact(LC (e2▸h1 a ha) hk.symm).elim
   ·exact ih ha hb
theorem Xj{a b:Ver}(ha:Cy a=true)(hb:Cy b=true)(h1:a.a=b.a)(h2:place a=place b):a=b:=by
 have:=Kk ha
 have:=Kk hb
 unfold place at h2;have e1:a.b=b.b:=by omega
 have e2:a.c=b.c:=by omega
 cases a;cases b;simp_all
theorem SM.plc{r:Rl}(h:SM r):plc r.ver=place r.ver:=by unfold Go.Eng.plc;rw[h.val];rfl
theorem bS{l:List Rl}(h:(∀r∈l,SM r)∧l.Pairwise af){a b:Rl}(ha:a∈l)(hb:b∈l)(h1:a.path=b.path)(h2:place a.ver=place b.ver):a=b:=by
 refine T0 h.2 ha hb ?_
 have:=h.1 a ha
 have:=h.1 b hb
 have e:a.ver.a=b.ver.a:=by
  have e1:=(h.1 a ha).maj;rw[h1,(h.1 b hb).maj]at e1;exact(Bv e1).symm
 unfold Gf;rw[h1,Xj (h.1 a ha).val (h.1 b hb).val e h2]
theorem Qt{x:List Rl}{y:Sl}{r:Rl}(h:N8 x y=some r):A6 x=0∧r∈x∧Gf r=y:=by
 unfold N8 at h;split at h
 ·cases h
 ·rename_i h1;refine⟨B1.1 h1,Cu h,?_⟩
  have:=E0 h;simpa using this
structure qb(x:List Rl)(roots:List Rq)(s:List Sl):Prop where
 ix:A6 x=0
 inc:Et s=true
 fnd:∀y∈s,∃r,N8 x y=some r∧r.yanked=false
 root:∀q∈roots,∃y,Ck s q.path=some y∧has q.set (place y.ver)=true
 req:∀y∈s,∀r,N8 x y=some r→∀q∈r.reqs,∃z,Ck s q.path=some z∧has q.set (place z.ver)=true
theorem TR:∀{s:List Sl} {b:Option ByteArray},In b s=true→s.Pairwise (fun a b=>EJ a.path b.path=true)∧∀c,b=some c→∀y∈s,EJ c y.path=true
 | [],_,_=>⟨.nil,fun _ _ _ h=>by cases h⟩
 |y::r,b,h=>by
  unfold In at h;simp only[Ai]at h;obtain⟨h1,h2⟩:=h;obtain⟨i1,i2⟩:=TR h2;refine⟨.cons (i2 _ rfl) i1,fun c e z hz=>?_⟩;subst e;rcases AC.1 hz with rfl | hz
  ·exact h1
  ·exact EK h1 (i2 _ rfl z hz)
theorem NK{s:List Sl}(h:s.Pairwise (fun a b=>EJ a.path b.path=true)){y:Sl}(hy:y∈s):Ck s y.path=some y:=by
 induction h with
 |nil=>cases hy
 |cons h1 h2 ih =>
  rename_i a l;unfold Ck;rw[FK];rcases AC.1 hy with rfl | hy
  ·simp
  ·have:=Zu (h1 y hy)
   simp only[this,decide_false];exact ih hy
theorem X0{s:List Sl}(h:Et s=true){y:Sl}(hy:y∈s):Ck s y.path=some y:=NK (TR h).1 hy
theorem qb.valid{x:List Rl}{roots:List Rq}{s:List Sl}(h:qb x roots s):Gm s:=fun y hy=>by
 obtain⟨r,h1,_⟩:=h.fnd y hy;obtain⟨_,h2,h3⟩:=Qt h1
 have:=((CO h.ix).1 r h2).val
 rw[←h3];exact this
-- soundness
theorem RN{q:Rq}{s:List Sl}(h:∃y,Ck s q.path=some y∧has q.set (place y.ver)=true):Dy (DQ q) (Ck s q.path)=false:=by
 obtain⟨y,h1,h2⟩:=h;rw[h1];unfold Dy DQ;dsimp only;rw[FW,h2];simp
theorem je{l:List Tm}{s:List Sl}(hs:Gm s)(hn:CZ l≠none)(hv:Bm l s=false):Bm (QM l) s=false:=by
 have:=Dj (l:=l) hs
 unfold QM;cases h:CZ l with
 |none=>exact absurd h hn
 |some c=>rw[h,hv]at this;exact this.symm
theorem YK{l:List Tm}{s:List Sl}(hs:Gm s){o:List Tm}(h:dA (QM l)=some o)(hv:Bm l s=false):Bm o s=false:=by
 unfold dA at h;split at h
 ·cases h
 ·rename_i DM;cases h;rw[QN hs (by intro e;rw[e]at DM;exact DM rfl)];exact hv
theorem aI(q:Rq):CZ [DQ q]≠none:=by
 unfold CZ Fb;simp only[List.foldl,Oh]
 have:H3 (LP (DQ q))=false:=by simp[H3,LP,DQ]
 simp[this]
theorem PI{α:Type}{l:List α}{i:Int}{a:α}(h:JP l i=some a):a∈l:=by
 unfold JP at h;split at h
 ·cases h
 ·exact Ax h
theorem WW{x:List Rl}{roots:List Rq}{s:List Sl}(hs:qb x roots s){d:List (List Tm)}(hd:∀t∈d,Bm t s=false){i:Nf}{o:List Tm}(h:D1 x roots d i=some o):Bm o s=false:=by
 have hv:=hs.valid;unfold D1 at h;split at h
 ·split at h
  ·rw[AY]at h;obtain⟨q,hq,rfl⟩:=h;refine je hv (aI q) ?_;rw[AD];intro hw
   have:=BK.1 hw _ (As.2 rfl)
   rw[show(DQ q).path=q.path from rfl,RN (hs.root q (PI hq))]at this;cases this
  ·cases h
 ·split at h
  ·split at h
   ·split at h
    ·cases h
    ·rename_i r hr;split at h
     ·cases h
     ·rename_i q hq;refine YK hv h ?_;rw[AD];intro hw;have h1:=BK.1 hw _ (Ac ..);have h2:=BK.1 hw (DQ q) (by simp);rw[show(DQ q).path=q.path from rfl]at h2;dsimp only at h1;cases hf:Ck s i.path with
      |none=>rw[hf]at h1;simp[Dy]at h1
      |some y =>
       rw[hf]at h1;unfold Dy at h1;simp only[Ai]at h1;have hp:place y.ver=i.place:=by
        have:=h1.2
        simp only[has,Cc,List.any_nil,Bool.or_false,Ai,BR,Ay]at this;omega
       have hy:=JD hf;have xx:=Mo hf;obtain⟨r',e1,e2⟩:=hs.fnd y hy;obtain⟨_,m1,k1⟩:=Qt e1;have ig:r∈x:=Cu hr;have nl:=E0 hr;simp only[Ai,Ay]at nl;have GR:=CO hs.ix
       have:r'=r:=by
        refine bS GR m1 ig ?_ ?_
        ·rw[nl.1,←xx,←k1];rfl
        ·rw[←(GR.1 r ig).plc,nl.2,←hp,←k1];rfl
       subst this
       have:=hs.req y hy r' e1 q (PI hq)
       rw[RN this]at h2;cases h2
   ·cases h
  ·split at h
   ·split at h
    ·refine YK hv h ?_;rw[AD];intro hw;have h1:=BK.1 hw _ (As.2 rfl);dsimp only at h1;cases hf:Ck s i.path with
     |none=>rw[hf]at h1;simp[Dy]at h1
     |some y =>
      rw[hf]at h1;unfold Dy at h1;simp only[Ai]at h1;have hy:=JD hf;have xx:=Mo hf;obtain⟨r,e1,e2⟩:=hs.fnd y hy;obtain⟨_,m1,k1⟩:=Qt e1;have GR:=CO hs.ix;have h1:=h1.2;rw[FW]at h1;have Zc:=JR (hv y hy)
      have:has (Cg x i.path) (place y.ver)=true:=by
       unfold Cg;rw[Hw];unfold has;simp only[Zc,decide_true,EP,A8,Ao,Bu];refine⟨(plc r.ver,plc r.ver+1),⟨r,⟨?_,by simp[e2]⟩,rfl⟩,?_⟩
       ·unfold Ky;simp only[hs.ix,VQ,not_true,Gd,Bu,m1,true_and,Ay];rw[←xx,←k1];rfl
       ·rw[(GR.1 r m1).plc,←k1];rw[DU];exact⟨AZ _,by show place r.ver<place r.ver+1;omega⟩
      rw[this]at h1;simp at h1
    ·cases h
   ·split at h
    ·split at h
     ·split at h
      ·rename_i a b ha hb;split at h
       ·rename_i h0;cases h;rw[AD];intro hw;rcases Up hv (o:=(BF a b i.path).1) (Prod.ext rfl h0) hw with hw | hw
        ·rw[hd a (PI ha)]at hw;cases hw
        ·rw[hd b (PI hb)]at hw;cases hw
       ·cases h
      ·cases h
     ·cases h
    ·cases h
theorem Ml{x:List Rl}{roots:List Rq}{s:List Sl}(hs:qb x roots s):∀{l:List Nf} {d d' : List (List Tm)},(∀t∈d,Bm t s=false)→Dt x roots l d=some d'→∀t∈d',Bm t s=false
 | [],d,d',hd,h=>by cases h;exact hd
 |i::l,d,d',hd,h=>by
  unfold Dt at h;split at h
  ·cases h
  ·rename_i o ho;refine Ml hs (fun t ht=>?_) h;rcases Ba.1 ht with ht | ht
   ·exact hd t ht
   ·rw[As.1 ht];exact WW hs hd ho
theorem IJ{α:Type}[DecidableEq α]:∀{l m:List α},l.Nodup→(∀x∈l,x∈m)→l.length≤m.length
 | [],_,_,_=>AF _
 |a::l,m,hn,hs=>by
  rw[CI]at hn;have ha:a∈m:=hs a (Ac ..)
  have:=IJ (l:=l) (m:=m.erase a) hn.2 fun x hx=>by
   have:x≠a:=fun e=>hn.1 (e▸hx)
   exact(List.mem_erase_of_ne this).2 (hs x (Ah _ hx))
  rw[List.length_erase_of_mem ha]at this
  have:=List.length_pos_of_mem ha
  simp only[Av];omega
abbrev Wj(s:List Sl):Prop:=s.Pairwise (fun a b=>EJ a.path b.path=true)
-- the next path
theorem Kg(before:List Sl):∀{l:List Rq} {acc:Option ByteArray},(∀p,acc=some p→CT before p=false) →
  (∀p,DF before l acc=some p→CT before p=false∧(acc=some p∨∃q∈l,q.path=p))∧(DF before l acc=none→acc=none∧∀q∈l,CT before q.path=true)
 | [],acc,ha=>⟨fun p h=>⟨ha p h,.inl h⟩,fun h=>⟨h,fun _ h=>(by cases h)⟩⟩
 |q::l,acc,ha=>by
  unfold DF
  have key:∀cn,(∀p,cn=some p→CT before p=false)→(∀p,cn=some p→acc=some p∨q.path=p)→(cn=none→acc=none∧CT before q.path=true) →
    (∀p,DF before l cn=some p→CT before p=false∧(acc=some p∨∃q'∈q::l,q'.path=p))∧(DF before l cn=none→acc=none∧∀q'∈q::l,CT before q'.path=true):=by
   intro cn h1 h2 h3;obtain⟨i1,i2⟩:=Kg before (l:=l) h1;refine⟨fun p h=>?_,fun h=>?_⟩
   ·obtain⟨j1,j2⟩:=i1 p h;refine⟨j1,?_⟩;rcases j2 with j2 | ⟨q',j3,j4⟩
    ·rcases h2 p j2 with h2 | h2
     ·exact .inl h2
     ·exact .inr ⟨q,Ac ..,h2⟩
    ·exact .inr ⟨q',Ah _ j3,j4⟩
   ·obtain⟨j1,j2⟩:=i2 h;obtain⟨k1,k2⟩:=h3 j1;refine⟨k1,fun q' hq=>?_⟩;rcases AC.1 hq with rfl | hq
    ·exact k2
    ·exact j2 q' hq
  cases hb:CT before q.path with
  |true=>simp only[Og];exact key acc ha (fun p h=>.inl h) fun h=>⟨h,hb⟩
  |false =>
   simp only[Df,Gd];cases acc with
   |none=>exact key _ (fun p h=>by cases h;exact hb) (fun p h=>by cases h;exact .inr rfl) fun h=>by cases h
   |some p0 =>
    dsimp only;split
    ·exact key _ (fun p h=>by cases h;exact hb) (fun p h=>by cases h;exact .inr rfl) fun h=>by cases h
    ·exact key _ (fun p h=>by cases h;exact ha _ rfl) (fun p h=>by cases h;exact .inl rfl) fun h=>by cases h
theorem Ua{needs:List Rq}{before:List Sl}{p:ByteArray}(h:K2 needs before=some p):CT before p=false∧∃q∈needs,q.path=p:=by
 obtain⟨h1,h2⟩:=(Kg before (l:=needs) (acc:=none) fun _ e=>by cases e).1 p h;rcases h2 with h2 | h2
 ·cases h2
 ·exact⟨h1,h2⟩
theorem ap{needs:List Rq}{before:List Sl}(h:K2 needs before=none):∀q∈needs,CT before q.path=true :=
 ((Kg before (l:=needs) (acc:=none) fun _ e=>by cases e).2 h).2
theorem TB(a b:List Sl)(p:ByteArray):CT (a++b) p=(CT a p||CT b p):=by unfold CT;rw[HL]
theorem Lv{s:List Sl}{p:ByteArray}:CT s p=true↔∃y∈s,y.path=p:=by unfold CT;simp
theorem Hv{s:List Sl}{p:ByteArray}:CT s p=true↔p∈s.map (·.path):=by rw[Lv,Ao]
-- what is needed
-- skips
theorem WC{t:List Tm}{b s:List Sl}(hs:Et s=true)(hb:∀y∈b,y∈s)(h:CP t b=true):Bm t s=true:=by
 unfold CP at h;simp only[Ai,C3,FE]at h;obtain⟨h1,h2⟩:=h;rw[BK]at h1⊢;intro u hu
 have:=h2 u hu
 simp only[Bool.not_eq_false]at this;rw[Kc]at this;cases hf:Ck b u.path with
 |none=>rw[hf]at this;cases this
 |some y =>
  have h3:=h1 u hu;rw[hf]at h3
  have:=X0 hs (hb y (JD hf))
  rw[Mo hf]at this;rw[this];exact h3
-- right answers
-- the first decision that differs
-- prefixes
theorem Jk{x:List Rl}{roots:List Rq}:∀{l:List Nf} {d d' : List (List Tm)},Dt x roots l d=some d'→d'.length=d.length+l.length
 | [],d,d',h=>by cases h;rfl
 |i::l,d,d',h=>by
  unfold Dt at h;split at h
  ·cases h
  ·have:=Jk h
   simp only[Ad,Av,AE]at this⊢;omega
theorem He{x:List Rl}{roots:List Rq}:∀(l m:List Nf) (d:List (List Tm)),Dt x roots (l++m) d=match Dt x roots l d with | none=>none | some d'=>Dt x roots m d'
 | [],_,_=>rfl
 |i::l,m,d=>by
  show(match D1 x roots d i with | none=>none | some t=>Dt x roots (l++m) (d++[t]))=(match(match D1 x roots d i with | none=>none | some t=>Dt x roots l (d++[t]))with | none=>none | some d'=>Dt x roots m d');cases D1 x roots d i with
  |none=>rfl
  |some t=>exact He l m _
theorem LR{x:List Rl}{roots:List Rq}:∀{l:List Nf} {d d' : List (List Tm)},Dt x roots l d=some d'→d <+: d'
 | [],d,d',h=>by cases h;exact List.prefix_refl _
 |i::l,d,d',h=>by
  unfold Dt at h;split at h
  ·cases h
  ·exact(ON _ _).trans (LR h)
theorem NG{x:List Rl}{roots:List Rq}{l:List Nf}{d:List (List Tm)}(h:Dt x roots l []=some d)(k:Nat):Dt x roots (l.take k) []=some (d.take k):=by
 rw[←If k l,He]at h;cases e:Dt x roots (l.take k) []with
 |none=>rw[e]at h;cases h
 |some f =>
  rw[e]at h;dsimp only at h;have h1:=Jk e;have h2:=Jk h;have h3:=LR h
  congr 1
  simp only[AE,AH,Ar]at h1 h2;obtain⟨z,rfl⟩:=h3
  by_cases hk:k≤l.length
  ·rw[Eg (by omega),AL (by omega)]
  ·rw[Ad]at h2
   have:z=[]:=AA (by omega)
   subst this;rw[BS,AL (by omega)]
def Lh(l:List Tm):Prop:=CZ l=some l
theorem d8{l:List Tm}:∀(l2:List Tm),Cm none (l2++l)→l.foldl (fun acc t=>Oh t acc) l2=l2++l:=by
 induction l with
 |nil=>intro l2 _;simp
 |cons t r ih =>
  intro l2 h;have hi:Oh t l2=l2++[t]:=by
   have:∀(m:List Tm) (lo:Option ByteArray),Cm lo (m++t::r)→Oh t m=m++[t]:=by
    intro m
    induction m with
    |nil =>
     intro lo hm;have hc:EQ t.set:=hm.2.1;unfold Oh;rw[show LP t=t from pW rfl rfl (JB hc)];rfl
    |cons u m ihm =>
     intro lo hm;have hm:Cm lo (u::(m++t::r)):=hm;have DH:=Cm.low hm.2.2 t (by simp);unfold Oh;rw[Au DH,ihm _ hm.2.2];rfl
   exact this l2 none h
  rw[FL,hi]
  have:=ih (l2++[t]) (by rw[AN];exact h)
  rw[this,AN];rfl
theorem QJ{l:List Tm}(h:Cm none l):Fb l=l:=by
 have:=d8 (l:=l) [] h
 simpa[Fb]using this
theorem Rs{l c:List Tm}(h:CZ l=some c):Lh c:=by
 have hs:=E1 h;unfold Lh;unfold CZ at h⊢;rw[QJ hs];split at h
 ·cases h
 ·rename_i hn;cases h;rw[Al]
  ·congr 1
   rw[List.filter_filter];simp
  ·rw[Bool.not_eq_true,FE]at hn⊢;intro t ht;exact hn t (Bu.1 ht).1
theorem Po:Lh []:=rfl
theorem MK(l:List Tm):Lh (QM l):=by
 unfold QM;cases h:CZ l with
 |none=>exact Po
 |some c=>exact Rs h
theorem NX(a b:List Tm)(p:ByteArray):Lh (BF a b p).1:=by
 unfold BF;split
 ·split
  ·rename_i h;exact Rs h
  ·exact Po
 ·exact Po
theorem YJ{l o:List Tm}(h:dA l=some o):o=l:=by unfold dA at h;split at h<;>cases h;rfl
theorem Yr{x:List Rl}{roots:List Rq}{d:List (List Tm)}{i:Nf}{o:List Tm}(h:D1 x roots d i=some o):Lh o:=by
 unfold D1 at h;split at h
 ·split at h
  ·rw[AY]at h;obtain⟨q,_,rfl⟩:=h;exact MK _
  ·cases h
 ·split at h
  ·split at h
   ·split at h
    ·cases h
    ·split at h
     ·cases h
     ·rw[YJ h];exact MK _
   ·cases h
  ·split at h
   ·split at h
    ·rw[YJ h];exact MK _
    ·cases h
   ·split at h
    ·split at h
     ·split at h
      ·split at h
       ·cases h;exact NX _ _ _
       ·cases h
      ·cases h
     ·cases h
    ·cases h
theorem NF{x:List Rl}{roots:List Rq}:∀{l:List Nf} {d d' : List (List Tm)},(∀t∈d,Lh t)→Dt x roots l d=some d'→∀t∈d',Lh t
 | [],d,d',hd,h=>by cases h;exact hd
 |i::l,d,d',hd,h=>by
  unfold Dt at h;split at h
  ·cases h
  ·rename_i o ho;refine NF (fun t ht=>?_) h;rcases Ba.1 ht with ht | ht
   ·exact hd t ht
   ·rw[As.1 ht];exact Yr ho
-- tampering
end Go.Eng
