/- Lemmas for the claims of this seat, without a condition: part 1 (P1, P2, P3, P4, P5, P6, P7). -/
import Derived.Test.YtmcbkdbfaneofaaGreatDoorCA00
namespace Go.Eng
def BI(p:Int)(s:Int×Int):Bool:=decide (s.1≤p)&&decide (p<s.2)
def has(s:List (Int×Int))(p:Int):Bool:=decide (0≤p)&&decide (p<1000000)&&s.any (BI p)
abbrev Bl:=List (Int×Int)
def EC(lo:Int):Bl→Prop
 | []=>True
 |y::r=>lo≤y.1∧y.1<y.2∧y.2≤1000000∧EC (y.2+1) r
abbrev Ew(l:Bl):Prop:=EC 0 l
def VB(x:Int×Int):Bl→Bl
 | []=>[x]
 |y::r=>if x.2<y.1 then x::y::r else if y.2<x.1 then y::VB x r else VB (min x.1 y.1,max x.2 y.2) r
def Hb(x:Int×Int):Int×Int:=(max x.1 0,min x.2 1000000)
def canon:Bl→Bl
 | []=>[]
 |x::r=>if(Hb x).1<(Hb x).2 then VB (Hb x) (canon r)else canon r
def KL(at_:Int):Bl→Bl
 | []=>if at_<1000000 then [(at_,1000000)]else []
 |y::r=>if at_<y.1 then(at_,y.1)::KL y.2 r else KL y.2 r
def Ed(s:Bl):Bl:=KL 0 (canon s)
def Qd(l:List Bl):Bl:=canon l.flatten
def PF(l:List Bl):Bl:=Ed (l.map Ed).flatten
def Pa(a b:Bl):Bl:=Qd [a,b]
def OE(a b:Bl):Bl:=PF [a,b]
theorem EC.mono{lo Ht : Int}:∀{l:Bl},EC lo l→Ht≤lo→EC Ht l
 | [],_,_=>trivial
 |_::_,⟨h1,h2,h3,h4⟩,h=>⟨Int.le_trans h h1,h2,h3,h4⟩
theorem EC.low{lo:Int}:∀{l:Bl},EC lo l→∀y∈l,lo≤y.1∧y.1<y.2∧y.2≤1000000
 |y::r,⟨h1,h2,h3,h4⟩,z,hz=>by
  rcases Au.1 hz with rfl | hz
  ·exact⟨h1,h2,h3⟩
  ·have:=h4.low z hz
   exact⟨by omega,this.2.1,this.2.2⟩
theorem DJ{p:Int}{s:Int×Int}:BI p s=true↔s.1≤p∧p<s.2:=by simp[BI]
theorem Mj{lo:Int}{l:Bl}(h:EC lo l){p:Int}(hp:l.any (BI p)=true):lo≤p:=by
 obtain⟨y,hy,h2⟩:=Ba.1 hp
 have:=h.low y hy
 have:=DJ.1 h2
 omega
theorem dE{lo:Int}{l:Bl}(h:EC lo l){p:Int}(hp:l.any (BI p)=true):p<1000000:=by
 obtain⟨y,hy,h2⟩:=Ba.1 hp
 have:=h.low y hy
 have:=DJ.1 h2
 omega
theorem Ng:∀(l:Bl) {lo:Int} {x:Int×Int},EC lo l→lo≤x.1→x.1<x.2→x.2≤1000000→EC lo (VB x l)
 | [],lo,x,_,h1,h2,h3=>⟨h1,h2,h3,trivial⟩
 |y::r,lo,x,⟨g1,g2,g3,g4⟩,h1,h2,h3=>by
  unfold VB;split
  ·exact⟨h1,h2,h3,by omega,g2,g3,g4⟩
  ·split
   ·exact⟨g1,g2,g3,Ng r g4 (by omega) h2 h3⟩
   ·refine Ng r (g4.mono (by omega)) ?_ ?_ ?_<;>dsimp only<;>omega
theorem N1:∀(l:Bl) {lo:Int} {x:Int×Int} (p:Int),EC lo l→x.1<x.2→(VB x l).any (BI p)=(BI p x||l.any (BI p))
 | [],lo,x,p,_,_=>by simp[VB]
 |y::r,lo,x,p,⟨g1,g2,g3,g4⟩,h2=>by
  unfold VB;split
  ·simp
  ·split
   ·rw[Cc,N1 r p g4 h2,Cc,←Bool.or_assoc,←Bool.or_assoc,Bool.or_comm (BI p y)]
   ·rw[N1 r p g4 (by dsimp only;omega),Cc,←Bool.or_assoc]
    congr 1
    simp only[BI];rw[BT];simp only[Ag,CB,Az];omega
theorem Cn:∀s:Bl,Ew (canon s)
 | []=>trivial
 |x::r=>by
  unfold canon;split
  ·rename_i h;refine Ng _ (Cn r) ?_ h ?_<;>simp only[Hb]<;>omega
  ·exact Cn r
theorem Kg:∀(s:Bl) (p:Int),(canon s).any (BI p)=has s p
 | [],p=>by simp[has,canon]
 |x::r,p=>by
  have ih:=Kg r p;unfold canon;have hx:BI p (Hb x)=(decide (0≤p)&&decide (p<1000000)&&BI p x):=by
   simp only[BI,Hb];rw[BT];simp only[Ag,Az,Int.max_le,Int.lt_min];omega
  split
  ·rename_i h;rw[N1 _ p (Cn r) h,ih,hx];simp only[has,Cc];cases decide (0≤p)<;>cases decide (p<1000000)<;>simp
  ·rename_i h;rw[ih];simp only[has,Cc]
   have:BI p (Hb x)=false:=by
    rw[AI];intro h3
    have:=DJ.1 h3
    omega
   rw[this]at hx;cases h1:decide (0≤p)<;>cases h2:decide (p<1000000)<;>simp_all
theorem Hp{l:Bl}(h:Ew l)(p:Int):has l p=l.any (BI p):=by
 unfold has;cases e:l.any (BI p)with
 |false=>simp
 |true=>have h1:0≤p:=Mj h e;have h2:=dE h e;simp[h1,h2]
theorem G1(s:Bl)(p:Int):has (canon s) p=has s p:=by
 rw[Hp (Cn s),Kg]
theorem MS:∀{a b:Bl} {lo:Int},EC lo a→EC lo b→(∀p,a.any (BI p)=b.any (BI p))→a=b
 | [],[],_,_,_,_=>rfl
 | [],z::s,_,_,⟨g1,g2,g3,g4⟩,h=>by
  have:=h z.1
  rw[Cc,DJ.2 ⟨AX _,g2⟩]at this;simp at this
 |y::r,[],_,⟨g1,g2,g3,g4⟩,_,h=>by
  have:=h y.1
  rw[Cc,DJ.2 ⟨AX _,g2⟩]at this;simp at this
 |y::r,z::s,lo,⟨f1,f2,f3,f4⟩,⟨g1,g2,g3,g4⟩,h=>by
  have below:∀{x:Int×Int} {t:Bl} {p:Int},EC (x.2+1) t→(x::t).any (BI p)=true→p≤x.2→x.1≤p∧p<x.2:=fun {x t p} ht hp Hc=>by
   rw[Cc,CB]at hp;rcases hp with hp | hp
   ·exact DJ.1 hp
   ·have:=Mj ht hp;omega
  have low:∀{x:Int×Int} {t:Bl} {p:Int},x.1<x.2→EC (x.2+1) t→(x::t).any (BI p)=true→x.1≤p:=fun {x t p} hx ht hp=>by
   rw[Cc,CB]at hp;rcases hp with hp | hp
   ·exact(DJ.1 hp).1
   ·have:=Mj ht hp;omega
  have cov:∀{x:Int×Int} {t:Bl} {p:Int},x.1≤p→p<x.2→(x::t).any (BI p)=true:=fun {x t p} h1 h2=>by
   rw[Cc,DJ.2 ⟨h1,h2⟩,Bool.true_or]
  have e1:y.1=z.1:=by
   have a1:=low f2 f4 ((h z.1).trans (cov (AX _) g2));have a2:=low g2 g4 ((h y.1).symm.trans (cov (AX _) f2));omega
  have e2:y.2=z.2:=by
   rcases Int.lt_trichotomy y.2 z.2 with hl | he | hl
   ·have:=below f4 ((h y.2).trans (cov (by omega) hl)) (AX _);omega
   ·exact he
   ·have:=below g4 ((h z.2).symm.trans (cov (by omega) hl)) (AX _);omega
  have e:y=z:=Prod.ext e1 e2;subst e
  congr 1
  refine MS f4 g4 fun p=>?_;have hp:=h p;simp only[Cc]at hp;cases hs:BI p y with
  |false=>rw[hs,Lx,Lx]at hp;exact hp
  |true =>
   have:=DJ.1 hs
   have n:∀{t:Bl},EC (y.2+1) t→t.any (BI p)=false:=fun {t} ht=>by
    rw[AI];intro hx;have:=Mj ht hx;omega
   rw[n f4,n g4]
theorem Hj{a b:Bl}(ha:Ew a)(hb:Ew b)(h:∀p,has a p=has b p):a=b :=
 MS ha hb fun p=>by rw[←Hp ha,←Hp hb,h]
theorem RS{a s:Bl}(ha:Ew a)(h:∀p,has a p=has s p):a=canon s :=
 Hj ha (Cn s) fun p=>by rw[h,G1]
theorem I4{a:Bl}(ha:Ew a):canon a=a:=(RS ha fun _=>rfl).symm
theorem LQ{s:Bl}{p:Int}(h:has s p=true):0≤p∧p<1000000:=by
 unfold has at h;simp only[Ag,Az]at h;exact h.1
def Lt(p:Int):Bool:=decide (0≤p)&&decide (p<1000000)
theorem KM:∀(l:Bl) {at_ lo:Int},0≤at_→EC lo l→lo≤at_+1→at_≤lo→EC at_ (KL at_ l)∧∀p,(KL at_ l).any (BI p)=(decide (at_≤p)&&decide (p<1000000)&&!l.any (BI p))
 | [],at_,lo,h0,_,h1,h2=>by
  unfold KL;split
  ·exact⟨⟨AX _,by dsimp only;omega,AX _,trivial⟩,fun p=>by simp[BI]⟩
  ·refine⟨trivial,fun p=>?_⟩
   have:(decide (at_≤p)&&decide (p<1000000))=false:=by
    rw[AI];simp only[U7,Ag,Az];omega
   simp[this]
 |y::r,at_,lo,h0,⟨g1,g2,g3,g4⟩,h1,h2=>by
  have ih:=KM r (at_:=y.2) (by omega) g4 (AX _) (by omega);have key:∀p,(decide (at_≤p)&&decide (p<y.1)||(KL y.2 r).any (BI p))=(decide (at_≤p)&&decide (p<1000000)&&!(y::r).any (BI p)):=fun p=>by
   rw[ih.2,Cc];cases hr:r.any (BI p)with
   |true =>
    have:=Mj g4 hr
    have a:decide (p<y.1)=false:=Ap (by omega);simp[a]
   |false =>
    rw[BT];simp only[BI,Ag,CB,Az,CQ,Bool.or_false,Bool.and_eq_false_iff,JB,Bool.not_false,and_true];omega
  unfold KL;split
  ·rename_i h;refine⟨⟨AX _,h,by dsimp only;omega,ih.1 |> fun c=>?_⟩,fun p=>?_⟩
   ·dsimp only;cases e:KL y.2 r with
    |nil=>trivial
    |cons z s =>
     rw[e]at c;exact⟨by have:=c.1;omega,c.2⟩
   ·rw[Cc,←key];rfl
  ·rename_i h;refine⟨ih.1.mono (by omega),fun p=>?_⟩;rw[←key]
   have:(decide (at_≤p)&&decide (p<y.1))=false:=by
    rw[AI];simp only[U7,Ag,Az];omega
   rw[this,Lx]
theorem GZ(s:Bl):Ew (Ed s):=by
 unfold Ed;exact(KM _ (AX _) (Cn s) (by omega) (AX _)).1
theorem Fx(s:Bl)(p:Int):has (Ed s) p=(Lt p&&!has s p):=by
 rw[Hp (GZ s)];unfold Ed;rw[(KM _ (AX _) (Cn s) (by omega) (AX _)).2,Kg];rfl
theorem YW(a b:Bl)(p:Int):has (a++b) p=(has a p||has b p):=by
 simp only[has,Hf];cases decide (0≤p)<;>cases decide (p<1000000)<;>simp
theorem LP:∀(l:List Bl) (p:Int),has l.flatten p=l.any fun s=>has s p
 | [],p=>by simp[has]
 |s::l,p=>by rw[By,YW,LP l p,Cc]
theorem Sx(l:List Bl)(p:Int):has (Qd l) p=l.any fun s=>has s p:=by
 unfold Qd;rw[G1,LP]
theorem Ws(l:List Bl):Ew (Qd l):=Cn _
theorem Wa(l:List Bl):Ew (PF l):=GZ _
theorem Sw(l:List Bl)(p:Int):has (PF l) p=(Lt p&&l.all fun s=>has s p):=by
 unfold PF;rw[Fx,LP,List.any_map];cases h:Lt p with
 |false=>rfl
 |true =>
  rw[Ev,Ev,List.not_any_eq_all_not]
  congr 1
  funext s
  simp[Fx,h]
theorem Ye(a b:Bl):Ew (Pa a b):=Cn _
theorem QE(a b:Bl):Ew (OE a b):=GZ _
theorem bK(a b:Bl)(p:Int):has (Pa a b) p=(has a p||has b p):=by
 unfold Pa;rw[Sx];simp
theorem UM(a b:Bl)(p:Int):has (OE a b) p=(has a p&&has b p):=by
 unfold OE;rw[Sw];simp only[List.all_cons,List.all_nil,Bool.and_true];cases h:has a p with
 |false=>simp
 |true=>have:=LQ h;simp[Lt,this]
theorem Y3(s:Bl):OE s s=canon s:=Hj (QE _ _) (Cn _) fun p=>by rw[UM,G1,Bool.and_self]
theorem TW{s:Bl}:canon s=[]↔∀p,has s p=false:=by
 constructor
 ·intro h p;rw[←G1,h];simp[has]
 ·intro h;exact Hj (Cn s) (b:=[]) trivial fun p=>by rw[G1,h p];simp[has]
theorem PL{s:Bl}(hs:Ew s):s=[]↔∀p,has s p=false:=by
 rw[←TW,I4 hs]
def dh(l:List Bl)(p:Int):Nat:=l.countP fun s=>has s p
theorem RR:∀{l:Bl} {lo:Int},EC lo l→lo≤1000000→(l.length:Int)≤1000000-lo
 | [],lo,_,h=>by simp;omega
 |y::r,lo,⟨g1,g2,g3,g4⟩,h=>by
  by_cases h3:y.2+1≤1000000
  ·have:=RR g4 h3
   simp only[At];omega
  ·cases r with
   |nil=>simp;omega
   |cons z s=>have:=g4.1;have:=g4.2.1;have:=g4.2.2.1;omega
theorem HQ{l:Bl}(h:Ew l):l.length≤1000000:=by have:=RR h (by omega);omega
structure Ver where
 (a b c:Int)
structure Rq where
 path:ByteArray
 set:List (Int×Int)
structure Rl where
 path:ByteArray
 ver:Ver
 reqs:List Rq
 (arch ifc cert:ByteArray)
 yanked:Bool
structure Sl where
 path:ByteArray
 ver:Ver
structure Tm where
 path:ByteArray
 absent:Bool
 set:List (Int×Int)
structure Nf where
 kind:Int
 path:ByteArray
 (place number left right:Int)
structure Sk where
 path:ByteArray
 (place inf:Int)
structure An where
 found:Bool
 sel:List Sl
 infs:List Nf
 skips:List Sk
instance:DecidableEq Ver:=fun x y=>decidable_of_iff (x.a=y.a∧x.b=y.b∧x.c=y.c) ⟨fun⟨h1,h2,h3⟩=>by cases x;cases y;simp_all,fun h=>by subst h;exact⟨rfl,rfl,rfl⟩⟩
instance:DecidableEq Sl:=fun x y=>decidable_of_iff (x.path=y.path∧x.ver=y.ver) ⟨fun⟨h1,h2⟩=>by cases x;cases y;simp_all,fun h=>by subst h;exact⟨rfl,rfl⟩⟩
theorem nJ{x y:Tm}(h1:x.path=y.path)(h2:x.absent=y.absent)(h3:x.set=y.set):x=y:=by cases x;cases y;simp_all
def okPart(n:Int):Prop:=0≤n∧n≤999
instance (n:Int):Decidable (okPart n):=by unfold okPart;infer_instance
def CL(v:Ver):Bool:=decide (okPart v.a)&&decide (okPart v.b)&&decide (okPart v.c)
def place(v:Ver):Int:=1000*v.b+v.c
def plc(v:Ver):Int:=if CL v then place v else 0
def Ca(s:List Sl)(p:ByteArray):Option Sl:=s.find? fun x=>decide (x.path=p)
def Gv(t:Tm)(s:List Sl):Bool :=
 match s.find? (fun x=>decide (x.path=t.path))with
 |none=>t.absent
 |some x=>CL x.ver&&has t.set (place x.ver)
def CD(s:List Sl)(p:ByteArray):Bool:=s.any fun x=>decide (x.path=p)
def Bf(l:List Tm)(s:List Sl):Bool:=l.all fun t=>Gv t s
def CA(l:List Tm)(s:List Sl):Bool:=Bf l s&&!l.any fun t=>!CD s t.path
def JU:List UInt8→List UInt8→Bool
 | [],[]=>false
 | [],_::_=>true
 |_::_,[]=>false
 |a::x,b::y=>decide (a<b)||(decide (a=b)&&JU x y)
def Fa(a b:ByteArray):Bool:=JU a.data.toList b.data.toList
theorem QG:∀x,JU x x=false
 | []=>rfl
 |a::x=>by
  unfold JU;simp[QG x]
theorem SX:∀{x y z},JU x y=true→JU y z=true→JU x z=true
 | [],[],_,h,_=>by simp[JU]at h
 | [],_::_,[],_,h=>by simp[JU]at h
 | [],_::_,_::_,_,_=>rfl
 |_::_,[],_,h,_=>by simp[JU]at h
 |_::_,_::_,[],_,h=>by simp[JU]at h
 |a::x,b::y,c::z,h1,h2=>by
  unfold JU at *
  simp only[CB,Ag,Az]at *
  rcases h1 with h1 | ⟨rfl,h1⟩
  ·rcases h2 with h2 | ⟨rfl,h2⟩
   ·exact .inl (UInt8.lt_trans h1 h2)
   ·exact .inl h1
  ·rcases h2 with h2 | ⟨rfl,h2⟩
   ·exact .inl h2
   ·exact .inr ⟨rfl,SX h1 h2⟩
theorem XG:∀{x y},JU x y=false→JU y x=false→x=y
 | [],[],_,_=>rfl
 | [],_::_,h,_=>by simp[JU]at h
 |_::_,[],_,h=>by simp[JU]at h
 |a::x,b::y,h1,h2=>by
  unfold JU at *
  simp only[Bool.or_eq_false_iff,Bool.and_eq_false_iff,JB]at *
  have e:a=b:=by
   have l1:=UInt8.not_lt.1 h1.1;have l2:=UInt8.not_lt.1 h2.1;exact UInt8.le_antisymm l2 l1
  subst e
  have:=XG (x:=x) (y:=y) (by simpa using h1.2) (by simpa using h2.2)
  rw[this]
theorem sy{a b:ByteArray}(h:a.data.toList=b.data.toList):a=b:=by
 cases a;cases b;simp only[ByteArray.mk.injEq];exact Ir.1 h
theorem CY(a:ByteArray):Fa a a=false:=QG _
theorem D8{a b c:ByteArray}(h:Fa a b=true)(k:Fa b c=true):Fa a c=true:=SX h k
theorem Hi{a b:ByteArray}(h:Fa a b=false)(k:Fa b a=false):a=b:=sy (XG h k)
theorem Yy{a b:ByteArray}(h:Fa a b=true):a≠b:=fun e=>by subst e;rw[CY]at h;cases h
theorem Pq{a b:ByteArray}(h:Fa a b=true):Fa b a=false:=by
 rw[AI];intro k;have:=D8 h k;rw[CY]at this;cases this
def Lg(t:Tm):Tm:=⟨t.path,t.absent,canon t.set⟩
def GH(u t:Tm):Tm:=⟨u.path,u.absent&&t.absent,OE u.set t.set⟩
def Nx(t:Tm):List Tm→List Tm
 | []=>[Lg t]
 |u::r=>if Fa u.path t.path then u::Nx t r else if u.path=t.path then GH u t::r else Lg t::u::r
def EO(l:List Tm):List Tm:=l.foldl (fun acc t=>Nx t acc) []
def Hw(t:Tm):Bool:=!t.absent&&t.set.isEmpty
def Gk(t:Tm):Bool:=t.absent&&decide (t.set=[(0,1000000)])
def CN(l:List Tm):Option (List Tm):=if(EO l).any Hw then none else some ((EO l).filter fun t=>!Gk t)
def PM(l:List Tm):List Tm:=(CN l).getD []
def DD(q:Rq):Tm:=⟨q.path,true,Ed q.set⟩
def Jk(q:Rq):List Tm:=PM [DD q]
def Ec(path:ByteArray)(pl:Int)(q:Rq):List Tm:=PM [⟨path,false,[(pl,pl+1)]⟩,DD q]
def HJ(path:ByteArray)(oP:Bl):List Tm:=PM [⟨path,false,Ed oP⟩]
def Di(l:List Tm)(p:ByteArray):Option Tm:=l.find? fun t=>decide (t.path=p)
def FC(l:List Tm)(p:ByteArray):List Tm:=l.filter fun t=>!decide (t.path=p)
def Dg(a b:Tm):Tm:=⟨a.path,a.absent||b.absent,Pa a.set b.set⟩
def Fd(l:List Tm)(p:ByteArray):Option (Tm×List Tm):=match CN l with
 |none=>none
 |some c=>match Di c p with
  |none=>none
  |some t=>some (t,FC c p)
def Bv(a b:List Tm)(p:ByteArray):List Tm×Int :=
 match Fd a p,Fd b p with
 |some (t,r),some (u,m)=>match CN (r++m++[Dg t u])with
  |some o=>(o,0)
  |none=>([],8)
 |_,_=>([],1)
def Cb(lo:Option ByteArray):List Tm→Prop
 | []=>True
 |t::r=>(∀p,lo=some p→Fa p t.path=true)∧Ew t.set∧Cb (some t.path) r
theorem Cb.weak{lo:Option ByteArray}:∀{l:List Tm},Cb lo l→Cb none l
 | [],_=>trivial
 |_::_,⟨_,h2,h3⟩=>⟨fun _ h=>(by cases h),h2,h3⟩
theorem Cb.low{p:ByteArray}:∀{l:List Tm},Cb (some p) l→∀t∈l,Fa p t.path=true
 |t::r,⟨h1,h2,h3⟩,u,hu=>by
  rcases Au.1 hu with rfl | hu
  ·exact h1 p rfl
  ·exact D8 (h1 p rfl) (h3.low u hu)
theorem Cb.canon{lo:Option ByteArray}:∀{l:List Tm},Cb lo l→∀t∈l,Ew t.set
 |t::r,⟨h1,h2,h3⟩,u,hu=>by
  rcases Au.1 hu with rfl | hu
  ·exact h2
  ·exact h3.canon u hu
theorem Cb.mono{p q:ByteArray}:∀{l:List Tm},Cb (some p) l→Fa q p=true→Cb (some q) l
 | [],_,_=>trivial
 |t::r,⟨h1,h2,h3⟩,h=>⟨fun _ e=>by cases e;exact D8 h (h1 p rfl),h2,h3⟩
theorem LU:∀{l:List Tm} {lo:Option ByteArray} (t:Tm),Cb lo l→(∀p,lo=some p→Fa p t.path=true)→Cb lo (Nx t l)
 | [],lo,t,_,h=>⟨h,Cn _,trivial⟩
 |u::r,lo,t,⟨h1,h2,h3⟩,h=>by
  unfold Nx;split
  ·rename_i DF;exact⟨h1,h2,LU t h3 fun p e=>by cases e;exact DF⟩
  ·rename_i DF;split
   ·rename_i he;exact⟨h1,QE _ _,h3⟩
   ·rename_i he;refine⟨h,Cn _,fun p e=>?_,h2,h3⟩;cases e
    have:Fa u.path t.path=false:=by simpa using DF
    cases hb:Fa t.path u.path with
    |true=>exact hb
    |false=>exact absurd (Hi this hb) he
theorem Ot:∀(l acc:List Tm),Cb none acc→Cb none (l.foldl (fun acc t=>Nx t acc) acc)
 | [],_,h=>h
 |t::l,acc,h=>Ot l _ (LU t h fun _ e=>by cases e)
theorem Ei(l:List Tm):Cb none (EO l):=Ot l [] trivial
theorem CJ(t:Tm)(r:List Tm)(p:ByteArray):Di (t::r) p=if t.path=p then some t else Di r p:=by
 unfold Di;rw[Fl];by_cases h:t.path=p<;>simp[h]
theorem Hk{p q:ByteArray}{l:List Tm}(h:Cb (some p) l)(hq:Fa p q=false):Di l q=none:=by
 unfold Di;rw[ES];intro t ht
 have:=h.low t ht
 simp only[Az];intro e;subst e;rw[hq]at this;cases this
def NL(o:Option Tm)(t:Tm):Tm:=match o with | none=>Lg t | some u=>GH u t
theorem PP(o:Option Tm)(t:Tm)(h:∀u,o=some u→u.path=t.path):(NL o t).path=t.path:=by
 cases o with
 |none=>rfl
 |some u=>exact h u rfl
theorem GR{l:List Tm}{p:ByteArray}{u:Tm}(h:Di l p=some u):u.path=p:=by
 have:=Fm h;simpa using this
theorem E0{l:List Tm}{p:ByteArray}{u:Tm}(h:Di l p=some u):u∈l:=CF h
theorem Sj:∀{l:List Tm} {lo:Option ByteArray} (t:Tm) (p:ByteArray),Cb lo l→Di (Nx t l) p=if t.path=p then some (NL (Di l p) t)else Di l p
 | [],lo,t,p,_=>by
  unfold Nx;rw[CJ];show(if t.path=p then some (Lg t)else none)=_
  by_cases h:t.path=p<;>simp[h,Di,NL]
 |u::r,lo,t,p,⟨h1,h2,h3⟩=>by
  unfold Nx;split
  ·rename_i DF;rw[CJ,CJ,Sj t p h3]
   by_cases hu:u.path=p
   ·have:¬t.path=p:=fun e=>Yy DF (hu.trans e.symm)
    simp[hu,this]
   ·simp[hu]
  ·rename_i DF;split
   ·rename_i he;rw[CJ,CJ];show(if u.path=p then some (GH u t)else _)=_
    by_cases hu:u.path=p
    ·simp[hu,he▸hu,NL]
    ·have:¬t.path=p:=fun e=>hu (he.trans e)
     simp[hu,this]
   ·rename_i he;rw[CJ];show(if t.path=p then some (Lg t)else _)=_
    by_cases ht:t.path=p
    ·have hn:Di (u::r) p=none:=by
      rw[CJ];have hu:¬u.path=p:=fun e=>he (e.trans ht.symm);simp only[hu,F8];exact Hk h3 (by subst ht;simpa using DF)
     simp[ht,hn,NL]
    ·simp[ht]
def JK(p:ByteArray)(o:Option Tm)(t:Tm):Option Tm:=if t.path=p then some (NL o t)else o
theorem Qx(p:ByteArray):∀(l acc:List Tm),Cb none acc→Di (l.foldl (fun acc t=>Nx t acc) acc) p=l.foldl (JK p) (Di acc p)
 | [],_,_=>rfl
 |t::l,acc,h=>by
  rw[Fo,Qx p l _ (LU t h fun _ e=>by cases e),Sj t p h];rfl
theorem IP(l:List Tm)(p:ByteArray):Di (EO l) p=l.foldl (JK p) none:=Qx p l [] trivial
theorem Mg:∀{a b:List Tm} {lo:Option ByteArray},Cb lo a→Cb lo b→(∀p,Di a p=Di b p)→a=b
 | [],[],_,_,_,_=>rfl
 | [],z::s,_,_,_,h=>by have:=h z.path;rw[CJ,Aw rfl]at this;cases this
 |z::s,[],_,_,_,h=>by have:=h z.path;rw[CJ,Aw rfl]at this;cases this
 |y::r,z::s,lo,⟨f1,f2,f3⟩,⟨g1,g2,g3⟩,h=>by
  have e:y=z:=by
   have a1:=h y.path;have a2:=h z.path;rw[CJ,Aw rfl,CJ]at a1;rw[CJ,CJ z,Aw rfl]at a2
   by_cases e:z.path=y.path
   ·rw[Aw e]at a1;exact BL a1
   ·rw[Ak e]at a1;rw[Ak (fun c=>e c.symm)]at a2;have b1:=Cb.low g3 y (E0 a1.symm);have b2:=Cb.low f3 z (E0 a2)
    have:=D8 b1 b2
    rw[CY]at this;cases this
  subst e
  congr 1
  refine Mg f3 g3 fun p=>?_;have hp:=h p;rw[CJ,CJ]at hp
  by_cases e:y.path=p
  ·subst e;rw[Hk f3 (CY _),Hk g3 (CY _)]
  ·simpa[e]using hp
theorem Cb.filter(q:Tm→Bool):∀{l:List Tm} {lo:Option ByteArray},Cb lo l→Cb lo (l.filter q)
 | [],_,_=>trivial
 |t::r,lo,⟨h1,h2,h3⟩=>by
  have ih:=Cb.filter q h3;rw[Ek];split
  ·exact⟨h1,h2,ih⟩
  ·cases lo with
   |none=>exact ih.weak
   |some p=>exact ih.mono (h1 p rfl)
theorem Fw{l:List Tm}{lo:Option ByteArray}{t:Tm}(h:Cb lo l):t∈l↔Di l t.path=some t:=by
 constructor
 ·induction l generalizing lo with
  |nil=>intro h;cases h
  |cons u r ih =>
   intro ht;rw[CJ];rcases Au.1 ht with rfl | ht
   ·rw[Aw rfl]
   ·have:=Cb.low h.2.2 t ht
    rw[Ak (Yy this)];exact ih h.2.2 ht
 ·exact E0
def Dh(t:Tm)(o:Option Sl):Bool:=match o with | none=>t.absent | some x=>CL x.ver&&has t.set (place x.ver)
theorem ft(t:Tm)(s:List Sl):Gv t s=Dh t (Ca s t.path):=by
 unfold Gv Dh Ca;rfl
theorem LJ{s:List Sl}{p:ByteArray}{x:Sl}(h:Ca s p=some x):x.path=p:=by
 have:=Fm h;simpa using this
theorem I5{s:List Sl}{p:ByteArray}{x:Sl}(h:Ca s p=some x):x∈s:=CF h
theorem JD{s:List Sl}{p:ByteArray}:CD s p=(Ca s p).isSome:=by
 unfold CD Ca;rw[BT,List.find?_isSome,Ba]
theorem Y0(t:Tm)(o:Option Sl):Dh (Lg t) o=Dh t o:=by
 unfold Dh Lg;cases o<;>simp[G1]
theorem Xv(u t:Tm)(o:Option Sl):Dh (GH u t) o=(Dh u o&&Dh t o):=by
 unfold Dh GH;cases o with
 |none=>rfl
 |some x=>simp only[UM];cases CL x.ver<;>simp
theorem M2(u t:Tm)(o:Option Sl):Dh (Dg u t) o=(Dh u o||Dh t o):=by
 unfold Dh Dg;cases o with
 |none=>rfl
 |some x=>simp only[bK];cases CL x.ver<;>simp
def TS(p:ByteArray)(o:Option Sl)(l:List Tm):Bool:=l.all fun t=>!decide (t.path=p)||Dh t o
theorem JC(p:ByteArray)(o:Option Sl):∀(l:List Tm) (a:Option Tm),(∀u,a=some u→u.path=p) →
  (l.foldl (JK p) a=none↔a=none∧l.all (fun t=>!decide (t.path=p))=true)∧(∀u,l.foldl (JK p) a=some u→u.path=p∧Dh u o=((match a with | none=>true | some b=>Dh b o)&&TS p o l))
 | [],a,ha=>by
  refine⟨by simp,fun u h=>?_⟩;have h:a=some u:=h;subst h;exact⟨ha u rfl,by simp[TS]⟩
 |t::l,a,ha=>by
  rw[Fo]
  by_cases e:t.path=p
  ·have hs:JK p a t=some (NL a t):=by unfold JK;rw[Aw e]
   rw[hs];have ih:=JC p o l (some (NL a t)) (fun u h=>by cases h;rw[PP a t fun u h=>(ha u h).trans e.symm];exact e);refine⟨⟨fun h=>?_,fun h=>?_⟩,fun u h=>?_⟩
   ·have:=ih.1.1 h;cases this.1
   ·simp[e]at h
   ·obtain⟨h1,h2⟩:=ih.2 u h;refine⟨h1,?_⟩;rw[h2]
    have:TS p o (t::l)=(Dh t o&&TS p o l):=by simp[TS,e]
    rw[this];cases a with
    |none=>simp[NL,Y0]
    |some b=>simp[NL,Xv,Bool.and_assoc]
  ·have hs:JK p a t=a:=by unfold JK;rw[Ak e]
   rw[hs];have ih:=JC p o l a ha
   have:TS p o (t::l)=TS p o l:=by simp[TS,e]
   rw[this];refine⟨?_,ih.2⟩;rw[ih.1];simp[e]
theorem BA{l:List Tm}{s:List Sl}:Bf l s=true↔∀t∈l,Dh t (Ca s t.path)=true:=by
 unfold Bf;rw[Bp];simp only[ft]
theorem Lo(l:List Tm)(s:List Sl):Bf (EO l) s=Bf l s:=by
 rw[BT,BA,BA];constructor
 ·intro h t ht
  have:=JC t.path (Ca s t.path) l none (fun _ e=>by cases e)
  rw[←IP]at this;cases e:Di (EO l) t.path with
  |none =>
   have:=(this.1.1 e).2
   rw[Bp]at this
   have:=this t ht
   simp at this
  |some u =>
   obtain⟨h1,h2⟩:=this.2 u e;have hu:=h u (E0 e);rw[h1,h2]at hu;simp only[Ev,TS,Bp]at hu
   have:=hu t ht
   simpa using this
 ·intro h u hu;have e:=(Fw (Ei l)).1 hu
  have:=JC u.path (Ca s u.path) l none (fun _ e=>by cases e)
  rw[←IP]at this;obtain⟨h1,h2⟩:=this.2 u e;rw[h2];simp only[Ev,TS,Bp];intro t ht
  by_cases e:t.path=u.path
  ·have:=h t ht;rw[e]at this;simp[this]
  ·simp[e]
theorem Zf{t:Tm}(h:Hw t=true)(o:Option Sl):Dh t o=false:=by
 unfold Hw at h;simp only[Ag,CQ,GE]at h;unfold Dh;cases o with
 |none=>exact h.1
 |some x=>dsimp only;rw[h.2];simp[has]
def FU(s:List Sl):Prop:=∀x∈s,CL x.ver=true
theorem JL{v:Ver}(h:CL v=true):0≤v.a∧v.a≤999∧0≤v.b∧v.b≤999∧0≤v.c∧v.c≤999:=by
 unfold CL at h;simp only[Ag]at h;obtain⟨⟨a,b⟩,c⟩:=h;obtain⟨a1,a2⟩:=BJ a;obtain⟨b1,b2⟩:=BJ b;obtain⟨c1,c2⟩:=BJ c;exact⟨a1,a2,b1,b2,c1,c2⟩
theorem Jj{v:Ver}(h:CL v=true):0≤place v∧place v<1000000:=by
 have:=JL h;unfold place;omega
theorem TT{t:Tm}(h:Gk t=true){s:List Sl}(hs:FU s):Dh t (Ca s t.path)=true:=by
 unfold Gk at h;simp only[Ag,Az]at h;unfold Dh;cases e:Ca s t.path with
 |none=>exact h.1
 |some x =>
  have:=hs x (I5 e)
  have hp:=Jj this;dsimp only;rw[this,h.2];simp[has,BI,hp]
theorem CX{l:List Tm}{s:List Sl}(hs:FU s):Bf l s=(match CN l with | none=>false | some c=>Bf c s):=by
 unfold CN;split
 ·rename_i h;split at h
  ·rename_i hn;rw[←Lo,AI];intro hv;rw[BA]at hv;obtain⟨t,ht,hn⟩:=Ba.1 hn
   have:=hv t ht
   rw[Zf hn]at this;cases this
  ·cases h
 ·rename_i c h;split at h
  ·cases h
  ·rename_i hn;cases h;rw[←Lo,BT,BA,BA];constructor
   ·intro h t ht;exact h t (BK.1 ht).1
   ·intro h t ht;cases ha:Gk t with
    |true=>exact TT ha hs
    |false=>exact h t (BK.2 ⟨ht,by simp[ha]⟩)
theorem GO(a b:List Tm)(s:List Sl):Bf (a++b) s=(Bf a s&&Bf b s):=by unfold Bf;rw[List.all_append]
theorem EF{l c:List Tm}(h:CN l=some c):Cb none c:=by
 unfold CN at h;split at h
 ·cases h
 ·cases h;exact Cb.filter _ (Ei l)
theorem FB{l r:List Tm}{p:ByteArray}{t:Tm}{s:List Sl}(hs:FU s)(h:Fd l p=some (t,r)):Bf l s=(Dh t (Ca s p)&&Bf r s)∧t.path=p:=by
 unfold Fd at h;cases hc:CN l with
 |none=>rw[hc]at h;cases h
 |some c =>
  rw[hc]at h;dsimp only at h;cases hf:Di c p with
  |none=>rw[hf]at h;cases h
  |some u =>
   rw[hf]at h;cases h;have hp:=GR hf;refine⟨?_,hp⟩;rw[CX hs,hc];dsimp only;rw[BT,Ag,BA,BA];constructor
   ·intro h
    have:=h t (E0 hf)
    rw[hp]at this;exact⟨this,fun v hv=>h v (BK.1 hv).1⟩
   ·intro⟨h1,h2⟩ v hv
    by_cases e:v.path=p
    ·have:=(Fw (EF hc)).1 hv
     rw[e,hf]at this;cases this;rw[e];exact h1
    ·exact h2 v (BK.2 ⟨hv,by simp[e]⟩)
theorem Tt{a b o:List Tm}{p:ByteArray}{s:List Sl}(hs:FU s)(h:Bv a b p=(o,0))(hv:Bf o s=true):Bf a s=true∨Bf b s=true:=by
 unfold Bv at h;cases h1:Fd a p with
 |none=>rw[h1]at h;simp at h
 |some x =>
  cases h2:Fd b p with
  |none=>rw[h1,h2]at h;simp at h
  |some y =>
   obtain⟨t,r⟩:=x;obtain⟨u,m⟩:=y;rw[h1,h2]at h;dsimp only at h;cases hc:CN (r++m++[Dg t u])with
   |none=>rw[hc]at h;simp at h
   |some c =>
    rw[hc]at h
    have:c=o:=by simpa using h
    subst this;have e:=CX (l:=r++m++[Dg t u]) hs;rw[hc]at e;dsimp only at e;rw[hv,GO,GO]at e;simp only[Ag]at e;obtain⟨⟨e1,e2⟩,e3⟩:=e;obtain⟨va,pa⟩:=FB hs h1;obtain⟨vb,pb⟩:=FB hs h2;have e3:=BA.1 e3 _ (Al.2 rfl)
    have:(Dg t u).path=p:=pa
    rw[this,M2,CB]at e3;rcases e3 with e3 | e3
    ·exact .inl (by rw[va,e3,e1];rfl)
    ·exact .inr (by rw[vb,e3,e2];rfl)
theorem PN{l:List Tm}{s:List Sl}(hs:FU s)(Dz:PM l≠[]):Bf (PM l) s=Bf l s:=by
 have:=CX (l:=l) hs
 unfold PM at *
 cases h:CN l with
 |none=>rw[h]at Dz;exact absurd rfl Dz
 |some c=>rw[h]at this;exact this.symm
-- paths
def GT(c:UInt8):Bool:=decide (97≤c)&&decide (c≤122)
def VJ(c:UInt8):Bool:=decide (65≤c)&&decide (c≤90)
def EM(c:UInt8):Bool:=decide (48≤c)&&decide (c≤57)
def Mh(c:UInt8):Bool:=GT c||VJ c||EM c||decide (c=95)
def fN:List UInt8:=[32,97,110,100,32,97,110,121,32,97,115,32,98,111,111,108,32,100,101,112,114,101,99,97,116,101,100,32,101,108,115,101,32,101,120,112,111,114,116,32,102,97,108,115,101,32,102,110,32,102,111,108,100,32,102,114,111,109,32,105,102,32,105,109,112,111,114,116,32,105,110,32,105,110,116,32,108,101,110,103,116,104,32,108,101,116,32,108,105,115,116,32,109,97,116,99,104,32,109,111,100,117,108,101,32,110,111,110,101,32,110,111,116,32,111,114,32,116,101,120,116,32,116,104,101,110,32,116,114,117,101,32,116,121,112,101,32,117,115,101,32]
def cP:List UInt8→List UInt8→Bool
 | [],_=>true
 |_::_,[]=>false
 |a::x,b::y=>decide (a=b)&&cP x y
def rX(x:List UInt8):List UInt8→Bool
 | []=>cP x []
 |b::y=>cP x (b::y)||rX x y
def Y5(s:List UInt8):Bool:=rX (32::(s++[32])) fN
def H6(s:List UInt8):Bool:=!s.isEmpty&&decide (s.length≤32)&&GT (s.headD 0)&&s.all Mh&&!Y5 s
def Mb(s:List UInt8):Bool:=H6 s&&s.all fun c=>GT c||EM c
def Gr(s:List UInt8):Int:=s.foldl (fun n c=>10*n+((c.toNat:Int)-48)) 0
def Lw(s:List UInt8):Option Int:=match s with
 |c::r=>if c=118 then(if r.isEmpty||decide (3<r.length)||(decide (1<r.length)&&decide (r.headD 0=48))||!r.all EM then none else some (Gr r))else none
 | []=>none
def Fc(c:UInt8):List UInt8→List (List UInt8)
 | []=>[[]]
 |b::r=>if b=c then []::Fc c r else match Fc c r with
  | []=>[[b]]
  |x::l=>(b::x)::l
def Y9(p:List UInt8):Option Int:=match Lw ((Fc 47 p).getLastD [])with
 |none=>none
 |some n=>if 64<p.length||(Fc 47 p).length<2 then none else if(Fc 47 p).all Mb then some n else none
def Cr(p:ByteArray):Option Int:=Y9 p.data.toList
-- indexes
def GA(before:Option ByteArray)(q:Rq):Int :=
 if(Cr q.path).isNone then 4 else if q.set.isEmpty||!decide (q.set=canon q.set)||(match before with | some b=>!Fa b q.path | none=>false)then 1 else 0
def FG(before:Option ByteArray):List Rq→Int
 | []=>0
 |q::r=>if GA before q=0 then FG (some q.path) r else GA before q
def BR(l:List Rq):Int:=if 16<l.length then 7 else FG none l
def EL(s:ByteArray):Bool:=decide (s.size=0)||decide (s.size=32)
def DQ(r:Rl):Int:=match Cr r.path with
 |none=>4
 |some m=>if !CL r.ver||!decide (r.ver.a=m)then 2 else if BR r.reqs≠0 then BR r.reqs else if EL r.arch&&EL r.ifc&&EL r.cert then 0 else 1
def FH(a b:Int):Int:=if a<b then -1 else if b<a then 1 else 0
def Gm(a b:ByteArray):Int:=if Fa a b then -1 else if Fa b a then 1 else 0
def LD(a b:Ver):Int:=if FH a.a b.a≠0 then FH a.a b.a else if FH a.b b.b≠0 then FH a.b b.b else FH a.c b.c
def RV(a b:Rl):Int:=if Gm a.path b.path≠0 then Gm a.path b.path else LD a.ver b.ver
def GJ(r:Rl):Sl:=⟨r.path,r.ver⟩
def Er(before:Option Rl):List Rl→Int
 | []=>0
 |r::l=>if DQ r≠0 then DQ r else match before with
  |none=>Er (some r) l
  |some b=>if GJ b=GJ r then 5 else if 0<RV b r then 1 else Er (some r) l
def Bb(l:List Rl):Int:=if 256<l.length then 7 else Er none l
def Np(x:List Rl)(y:Sl):Option Rl:=if Bb x≠0 then none else x.find? fun r=>decide (GJ r=y)
def JW(x:List Rl)(p:ByteArray):List Rl:=if Bb x≠0 then []else x.filter fun r=>decide (r.path=p)
def B7(x:List Rl)(p:ByteArray):Bl:=canon (((JW x p).filter fun r=>!r.yanked).map fun r=>(plc r.ver,plc r.ver+1))
def SG(before:Option ByteArray):List Sl→Bool
 | []=>true
 |y::r=>(match before with |some b=>Fa b y.path |none=>true)&&SG (some y.path) r
def KU(s:List Sl):Bool:=SG none s
-- solutions
-- derivations
def OS(x:List Rl)(p:ByteArray)(pl:Int):Option Rl:=x.find? fun r=>decide (r.path=p)&&decide (plc r.ver=pl)
def mt:ByteArray:=⟨#[]⟩
def Jg{α:Type}(l:List α)(i:Int):Option α:=if i<0 then none else l[i.toNat]?
def cj(l:List Tm):Option (List Tm):=if l.isEmpty then none else some l
def DO(x:List Rl)(roots:List Rq)(d:List (List Tm))(i:Nf):Option (List Tm) :=
 if i.kind=0 then
  if i.path=mt∧i.place=0∧i.left=0∧i.right=0 then(Jg roots i.number).map Jk else none
 else if i.kind=1 then
  if i.left=0∧i.right=0 then match OS x i.path i.place with
   |none=>none
   |some r=>match Jg r.reqs i.number with
    |none=>none
    |some q=>cj (Ec i.path i.place q)
  else none
 else if i.kind=2 then
  if i.place=0∧i.number=0∧i.left=0∧i.right=0 then cj (HJ i.path (B7 x i.path))else none
 else if i.kind=3 then
  if i.place=0∧i.number=0 then match Jg d i.left,Jg d i.right with
   |some a,some b=>if(Bv a b i.path).2=0 then some (Bv a b i.path).1 else none
   |_,_=>none
  else none
 else none
def Dd(x:List Rl)(roots:List Rq):List Nf→List (List Tm)→Option (List (List Tm))
 | [],d=>some d
 |i::l,d=>match DO x roots d i with
  |none=>none
  |some t=>Dd x roots l (d++[t])
-- decisions
def Ds(before:List Sl):List Rq→Option ByteArray→Option ByteArray
 | [],acc=>acc
 |q::l,acc=>Ds before l (if CD before q.path then acc else match acc with
  |none=>some q.path
  |some p=>if Fa q.path p then some q.path else some p)
def Ks(needs:List Rq)(before:List Sl):Option ByteArray:=Ds before needs none
structure x6 where
 before:List Sl
 needs:List Rq
 rel:Rl
-- answers
-- the example
-- the order of releases
theorem Kh{a b:Int}(h:FH a b=0):a=b:=by
 unfold FH at h;split at h
 ·cases h
 ·split at h
  ·cases h
  ·omega
theorem VN{a b:Int}(h:FH a b<0):a<b:=by
 unfold FH at h;split at h
 ·assumption
 ·split at h<;>omega
theorem UC{a b:ByteArray}(h:Gm a b=0):a=b:=by
 unfold Gm at h;cases h1:Fa a b with
 |true=>rw[h1]at h;simp at h
 |false =>
  cases h2:Fa b a with
  |true=>rw[h1,h2]at h;simp at h
  |false=>exact Hi h1 h2
theorem jh{a b:ByteArray}(h:Gm a b<0):Fa a b=true:=by
 unfold Gm at h;cases h1:Fa a b with
 |true=>rfl
 |false=>rw[h1]at h;cases h2:Fa b a<;>rw[h2]at h<;>simp at h
def dv(a b:Ver):Prop:=a.a<b.a∨(a.a=b.a∧(a.b<b.b∨(a.b=b.b∧a.c<b.c)))
def ah(a b:Rl):Prop:=Fa a.path b.path=true∨(a.path=b.path∧dv a.ver b.ver)
theorem ZM{a b:Ver}(h:LD a b<0):dv a b:=by
 unfold LD at h;split at h
 ·exact .inl (VN h)
 ·rename_i h1;have h1:=Kh (Cg.1 h1);split at h
  ·exact .inr ⟨h1,.inl (VN h)⟩
  ·rename_i h2;exact .inr ⟨h1,.inr ⟨Kh (Cg.1 h2),VN h⟩⟩
theorem UD{a b:Ver}(h:LD a b=0):a=b:=by
 unfold LD at h;split at h
 ·rename_i h1;exact absurd h h1
 ·rename_i h1;have h1:=Kh (Cg.1 h1);split at h
  ·rename_i h2;exact absurd h h2
  ·rename_i h2;have h2:=Kh (Cg.1 h2);have h3:=Kh h;cases a;cases b;simp_all
theorem bv{a b:Rl}(h:RV a b=0):GJ a=GJ b:=by
 unfold RV at h;split at h
 ·rename_i h1;exact absurd h h1
 ·rename_i h1;have h1:=UC (Cg.1 h1);have h2:=UD h;unfold GJ;rw[h1,h2]
theorem ji{a b:Rl}(h:RV a b<0):ah a b:=by
 unfold RV at h;split at h
 ·exact .inl (jh h)
 ·rename_i h1;exact .inr ⟨UC (Cg.1 h1),ZM h⟩
theorem U5{a b c:Ver}(h:dv a b)(k:dv b c):dv a c:=by unfold dv at *;omega
theorem U4{a b c:Rl}(h:ah a b)(k:ah b c):ah a c:=by
 rcases h with h | ⟨h1,h2⟩
 ·rcases k with k | ⟨k1,k2⟩
  ·exact .inl (D8 h k)
  ·exact .inl (k1▸h)
 ·rcases k with k | ⟨k1,k2⟩
  ·exact .inl (h1▸k)
  ·exact .inr ⟨h1.trans k1,U5 h2 k2⟩
theorem K2{a b:Rl}(h:ah a b)(k:GJ a=GJ b):False:=by
 unfold GJ at k;simp only[Sl.mk.injEq]at k;rcases h with h | ⟨_,h⟩
 ·rw[k.1,CY]at h;cases h
 ·rw[k.2]at h;unfold dv at h;omega
-- a valid index
structure RF(r:Rl):Prop where
 maj:Cr r.path=some r.ver.a
 val:CL r.ver=true
 reqs:BR r.reqs=0
theorem YD{r:Rl}(h:DQ r=0):RF r:=by
 unfold DQ at h;split at h
 ·cases h
 ·rename_i m hm;split at h
  ·cases h
  ·rename_i h1;split at h
   ·rename_i h2;exact absurd h h2
   ·rename_i h2;simp only[CB,CQ,JB,not_or,Cg]at h1;refine⟨by rw[hm,h1.2],by simpa using h1.1,Cg.1 h2⟩
theorem KI:∀{l:List Rl} {b:Option Rl},Er b l=0→(∀r∈l,RF r)∧(l.Pairwise ah∧∀c,b=some c→∀r∈l,ah c r)
 | [],b,_=>⟨fun _ h=>(by cases h),.nil,fun _ _ _ h=>(by cases h)⟩
 |r::l,b,h=>by
  unfold Er at h;split at h
  ·rename_i h1;exact absurd h h1
  ·rename_i h1;have hr:=YD (Cg.1 h1);have go:Er (some r) l=0→(∀c,b=some c→ah c r)→(∀z∈r::l,RF z)∧((r::l).Pairwise ah∧∀c,b=some c→∀z∈r::l,ah c z):=fun h hc=>by
    obtain⟨i1,i2,i3⟩:=KI h;refine⟨fun z hz=>?_,.cons (i3 r rfl) i2,fun c e z hz=>?_⟩
    ·rcases Au.1 hz with rfl | hz
     ·exact hr
     ·exact i1 z hz
    ·rcases Au.1 hz with rfl | hz
     ·exact hc c e
     ·exact U4 (hc c e) (i3 r rfl z hz)
   cases b with
   |none=>exact go h fun _ e=>by cases e
   |some b =>
    dsimp only at h;split at h
    ·cases h
    ·rename_i hk;split at h
     ·cases h
     ·rename_i hc;refine go h fun c e=>?_;cases e;refine ji ?_
      have:RV b r≠0:=fun e=>hk (bv e)
      omega
theorem CI{l:List Rl}(h:Bb l=0):(∀r∈l,RF r)∧l.Pairwise ah:=by
 unfold Bb at h;split at h
 ·cases h
 ·exact⟨(KI h).1,(KI h).2.1⟩
theorem ST{l:List Rl}(h:l.Pairwise ah){a b:Rl}(ha:a∈l)(hb:b∈l)(hk:GJ a=GJ b):a=b:=by
 induction h with
 |nil=>cases ha
 |cons h1 h2 ih =>
  rcases Au.1 ha with e1 | ha
  ·rcases Au.1 hb with e2 | hb
   ·exact e1.trans e2.symm
   ·exact(K2 (e1▸h1 b hb) hk).elim
  ·rcases Au.1 hb with e2 | hb
   ·exact(K2 (e2▸h1 a ha) hk.symm).elim
   ·exact ih ha hb
theorem Wv{a b:Ver}(ha:CL a=true)(hb:CL b=true)(h1:a.a=b.a)(h2:place a=place b):a=b:=by
 have:=JL ha
 have:=JL hb
 unfold place at h2;have e1:a.b=b.b:=by omega
 have e2:a.c=b.c:=by omega
 cases a;cases b;simp_all
theorem RF.plc{r:Rl}(h:RF r):plc r.ver=place r.ver:=by unfold Go.Eng.plc;rw[h.val];rfl
theorem aH{l:List Rl}(h:(∀r∈l,RF r)∧l.Pairwise ah){a b:Rl}(ha:a∈l)(hb:b∈l)(h1:a.path=b.path)(h2:place a.ver=place b.ver):a=b:=by
 refine ST h.2 ha hb ?_
 have:=h.1 a ha
 have:=h.1 b hb
 have e:a.ver.a=b.ver.a:=by
  have e1:=(h.1 a ha).maj;rw[h1,(h.1 b hb).maj]at e1;exact(BL e1).symm
 unfold GJ;rw[h1,Wv (h.1 a ha).val (h.1 b hb).val e h2]
theorem PA{x:List Rl}{y:Sl}{r:Rl}(h:Np x y=some r):Bb x=0∧r∈x∧GJ r=y:=by
 unfold Np at h;split at h
 ·cases h
 ·rename_i h1;refine⟨Cg.1 h1,CF h,?_⟩
  have:=Fm h;simpa using this
structure nT(x:List Rl)(roots:List Rq)(s:List Sl):Prop where
 ix:Bb x=0
 inc:KU s=true
 fnd:∀y∈s,∃r,Np x y=some r∧r.yanked=false
 root:∀q∈roots,∃y,Ca s q.path=some y∧has q.set (place y.ver)=true
 req:∀y∈s,∀r,Np x y=some r→∀q∈r.reqs,∃z,Ca s q.path=some z∧has q.set (place z.ver)=true
theorem SK:∀{s:List Sl} {b:Option ByteArray},SG b s=true→s.Pairwise (fun a b=>Fa a.path b.path=true)∧∀c,b=some c→∀y∈s,Fa c y.path=true
 | [],_,_=>⟨.nil,fun _ _ _ h=>by cases h⟩
 |y::r,b,h=>by
  unfold SG at h;simp only[Ag]at h;obtain⟨h1,h2⟩:=h;obtain⟨i1,i2⟩:=SK h2;refine⟨.cons (i2 _ rfl) i1,fun c e z hz=>?_⟩;subst e;rcases Au.1 hz with rfl | hz
  ·exact h1
  ·exact D8 h1 (i2 _ rfl z hz)
theorem MY{s:List Sl}(h:s.Pairwise (fun a b=>Fa a.path b.path=true)){y:Sl}(hy:y∈s):Ca s y.path=some y:=by
 induction h with
 |nil=>cases hy
 |cons h1 h2 ih =>
  rename_i a l;unfold Ca;rw[Fl];rcases Au.1 hy with rfl | hy
  ·simp
  ·have:=Yy (h1 y hy)
   simp only[this,decide_false];exact ih hy
theorem Xd{s:List Sl}(h:KU s=true){y:Sl}(hy:y∈s):Ca s y.path=some y:=MY (SK h).1 hy
theorem nT.valid{x:List Rl}{roots:List Rq}{s:List Sl}(h:nT x roots s):FU s:=fun y hy=>by
 obtain⟨r,h1,_⟩:=h.fnd y hy;obtain⟨_,h2,h3⟩:=PA h1
 have:=((CI h.ix).1 r h2).val
 rw[←h3];exact this
-- soundness
theorem QO{q:Rq}{s:List Sl}(h:∃y,Ca s q.path=some y∧has q.set (place y.ver)=true):Dh (DD q) (Ca s q.path)=false:=by
 obtain⟨y,h1,h2⟩:=h;rw[h1];unfold Dh DD;dsimp only;rw[Fx,h2];simp
theorem gw{l:List Tm}{s:List Sl}(hs:FU s)(hn:CN l≠none)(hv:Bf l s=false):Bf (PM l) s=false:=by
 have:=CX (l:=l) hs
 unfold PM;cases h:CN l with
 |none=>exact absurd h hn
 |some c=>rw[h,hv]at this;exact this.symm
theorem XT{l:List Tm}{s:List Sl}(hs:FU s){o:List Tm}(h:cj (PM l)=some o)(hv:Bf l s=false):Bf o s=false:=by
 unfold cj at h;split at h
 ·cases h
 ·rename_i Dz;cases h;rw[PN hs (by intro e;rw[e]at Dz;exact Dz rfl)];exact hv
theorem Zw(q:Rq):CN [DD q]≠none:=by
 unfold CN EO;simp only[List.foldl,Nx]
 have:Hw (Lg (DD q))=false:=by simp[Hw,Lg,DD]
 simp[this]
theorem OO{α:Type}{l:List α}{i:Int}{a:α}(h:Jg l i=some a):a∈l:=by
 unfold Jg at h;split at h
 ·cases h
 ·exact Av h
theorem V8{x:List Rl}{roots:List Rq}{s:List Sl}(hs:nT x roots s){d:List (List Tm)}(hd:∀t∈d,Bf t s=false){i:Nf}{o:List Tm}(h:DO x roots d i=some o):Bf o s=false:=by
 have hv:=hs.valid;unfold DO at h;split at h
 ·split at h
  ·rw[AY]at h;obtain⟨q,hq,rfl⟩:=h;refine gw hv (Zw q) ?_;rw[AI];intro hw
   have:=BA.1 hw _ (Al.2 rfl)
   rw[show(DD q).path=q.path from rfl,QO (hs.root q (OO hq))]at this;cases this
  ·cases h
 ·split at h
  ·split at h
   ·split at h
    ·cases h
    ·rename_i r hr;split at h
     ·cases h
     ·rename_i q hq;refine XT hv h ?_;rw[AI];intro hw;have h1:=BA.1 hw _ (Aa ..);have h2:=BA.1 hw (DD q) (by simp);rw[show(DD q).path=q.path from rfl]at h2;dsimp only at h1;cases hf:Ca s i.path with
      |none=>rw[hf]at h1;simp[Dh]at h1
      |some y =>
       rw[hf]at h1;unfold Dh at h1;simp only[Ag]at h1;have hp:place y.ver=i.place:=by
        have:=h1.2
        simp only[has,Cc,List.any_nil,Bool.or_false,Ag,BI,Az]at this;omega
       have hy:=I5 hf;have uE:=LJ hf;obtain⟨r',e1,e2⟩:=hs.fnd y hy;obtain⟨_,m1,k1⟩:=PA e1;have fA:r∈x:=CF hr;have oo:=Fm hr;simp only[Ag,Az]at oo;have Gq:=CI hs.ix
       have:r'=r:=by
        refine aH Gq m1 fA ?_ ?_
        ·rw[oo.1,←uE,←k1];rfl
        ·rw[←(Gq.1 r fA).plc,oo.2,←hp,←k1];rfl
       subst this
       have:=hs.req y hy r' e1 q (OO hq)
       rw[QO this]at h2;cases h2
   ·cases h
  ·split at h
   ·split at h
    ·refine XT hv h ?_;rw[AI];intro hw;have h1:=BA.1 hw _ (Al.2 rfl);dsimp only at h1;cases hf:Ca s i.path with
     |none=>rw[hf]at h1;simp[Dh]at h1
     |some y =>
      rw[hf]at h1;unfold Dh at h1;simp only[Ag]at h1;have hy:=I5 hf;have uE:=LJ hf;obtain⟨r,e1,e2⟩:=hs.fnd y hy;obtain⟨_,m1,k1⟩:=PA e1;have Gq:=CI hs.ix;have h1:=h1.2;rw[Fx]at h1;have iC:=Jj (hv y hy)
      have:has (B7 x i.path) (place y.ver)=true:=by
       unfold B7;rw[G1];unfold has;simp only[iC,decide_true,Ev,Ba,Am,BK];refine⟨(plc r.ver,plc r.ver+1),⟨r,⟨?_,by simp[e2]⟩,rfl⟩,?_⟩
       ·unfold JW;simp only[hs.ix,U7,not_true,F8,BK,m1,true_and,Az];rw[←uE,←k1];rfl
       ·rw[(Gq.1 r m1).plc,←k1];rw[DJ];exact⟨AX _,by show place r.ver<place r.ver+1;omega⟩
      rw[this]at h1;simp at h1
    ·cases h
   ·split at h
    ·split at h
     ·split at h
      ·rename_i a b ha hb;split at h
       ·rename_i h0;cases h;rw[AI];intro hw;rcases Tt hv (o:=(Bv a b i.path).1) (Prod.ext rfl h0) hw with hw | hw
        ·rw[hd a (OO ha)]at hw;cases hw
        ·rw[hd b (OO hb)]at hw;cases hw
       ·cases h
      ·cases h
     ·cases h
    ·cases h
theorem LF{x:List Rl}{roots:List Rq}{s:List Sl}(hs:nT x roots s):∀{l:List Nf} {d d' : List (List Tm)},(∀t∈d,Bf t s=false)→Dd x roots l d=some d'→∀t∈d',Bf t s=false
 | [],d,d',hd,h=>by cases h;exact hd
 |i::l,d,d',hd,h=>by
  unfold Dd at h;split at h
  ·cases h
  ·rename_i o ho;refine LF hs (fun t ht=>?_) h;rcases A6.1 ht with ht | ht
   ·exact hd t ht
   ·rw[Al.1 ht];exact V8 hs hd ho
theorem H9{α:Type}[DecidableEq α]:∀{l m:List α},l.Nodup→(∀x∈l,x∈m)→l.length≤m.length
 | [],_,_,_=>AN _
 |a::l,m,hn,hs=>by
  rw[CT]at hn;have ha:a∈m:=hs a (Aa ..)
  have:=H9 (l:=l) (m:=m.erase a) hn.2 fun x hx=>by
   have:x≠a:=fun e=>hn.1 (e▸hx)
   exact(List.mem_erase_of_ne this).2 (hs x (Af _ hx))
  rw[List.length_erase_of_mem ha]at this
  have:=List.length_pos_of_mem ha
  simp only[At];omega
abbrev Vx(s:List Sl):Prop:=s.Pairwise (fun a b=>Fa a.path b.path=true)
-- the next path
theorem JH(before:List Sl):∀{l:List Rq} {acc:Option ByteArray},(∀p,acc=some p→CD before p=false) →
  (∀p,Ds before l acc=some p→CD before p=false∧(acc=some p∨∃q∈l,q.path=p))∧(Ds before l acc=none→acc=none∧∀q∈l,CD before q.path=true)
 | [],acc,ha=>⟨fun p h=>⟨ha p h,.inl h⟩,fun h=>⟨h,fun _ h=>(by cases h)⟩⟩
 |q::l,acc,ha=>by
  unfold Ds
  have key:∀aX,(∀p,aX=some p→CD before p=false)→(∀p,aX=some p→acc=some p∨q.path=p)→(aX=none→acc=none∧CD before q.path=true) →
    (∀p,Ds before l aX=some p→CD before p=false∧(acc=some p∨∃q'∈q::l,q'.path=p))∧(Ds before l aX=none→acc=none∧∀q'∈q::l,CD before q'.path=true):=by
   intro aX h1 h2 h3;obtain⟨i1,i2⟩:=JH before (l:=l) h1;refine⟨fun p h=>?_,fun h=>?_⟩
   ·obtain⟨j1,j2⟩:=i1 p h;refine⟨j1,?_⟩;rcases j2 with j2 | ⟨q',j3,j4⟩
    ·rcases h2 p j2 with h2 | h2
     ·exact .inl h2
     ·exact .inr ⟨q,Aa ..,h2⟩
    ·exact .inr ⟨q',Af _ j3,j4⟩
   ·obtain⟨j1,j2⟩:=i2 h;obtain⟨k1,k2⟩:=h3 j1;refine⟨k1,fun q' hq=>?_⟩;rcases Au.1 hq with rfl | hq
    ·exact k2
    ·exact j2 q' hq
  cases hb:CD before q.path with
  |true=>simp only[QD];exact key acc ha (fun p h=>.inl h) fun h=>⟨h,hb⟩
  |false =>
   simp only[Dj,F8];cases acc with
   |none=>exact key _ (fun p h=>by cases h;exact hb) (fun p h=>by cases h;exact .inr rfl) fun h=>by cases h
   |some p0 =>
    dsimp only;split
    ·exact key _ (fun p h=>by cases h;exact hb) (fun p h=>by cases h;exact .inr rfl) fun h=>by cases h
    ·exact key _ (fun p h=>by cases h;exact ha _ rfl) (fun p h=>by cases h;exact .inl rfl) fun h=>by cases h
theorem Td{needs:List Rq}{before:List Sl}{p:ByteArray}(h:Ks needs before=some p):CD before p=false∧∃q∈needs,q.path=p:=by
 obtain⟨h1,h2⟩:=(JH before (l:=needs) (acc:=none) fun _ e=>by cases e).1 p h;rcases h2 with h2 | h2
 ·cases h2
 ·exact⟨h1,h2⟩
theorem Zg{needs:List Rq}{before:List Sl}(h:Ks needs before=none):∀q∈needs,CD before q.path=true :=
 ((JH before (l:=needs) (acc:=none) fun _ e=>by cases e).2 h).2
theorem Sv(a b:List Sl)(p:ByteArray):CD (a++b) p=(CD a p||CD b p):=by unfold CD;rw[Hf]
theorem KQ{s:List Sl}{p:ByteArray}:CD s p=true↔∃y∈s,y.path=p:=by unfold CD;simp
theorem G0{s:List Sl}{p:ByteArray}:CD s p=true↔p∈s.map (·.path):=by rw[KQ,Am]
-- what is needed
-- skips
theorem VQ{t:List Tm}{b s:List Sl}(hs:KU s=true)(hb:∀y∈b,y∈s)(h:CA t b=true):Bf t s=true:=by
 unfold CA at h;simp only[Ag,CQ,FZ]at h;obtain⟨h1,h2⟩:=h;rw[BA]at h1⊢;intro u hu
 have:=h2 u hu
 simp only[Bool.not_eq_false]at this;rw[JD]at this;cases hf:Ca b u.path with
 |none=>rw[hf]at this;cases this
 |some y =>
  have h3:=h1 u hu;rw[hf]at h3
  have:=Xd hs (hb y (I5 hf))
  rw[LJ hf]at this;rw[this];exact h3
-- right answers
-- the first decision that differs
-- prefixes
theorem IM{x:List Rl}{roots:List Rq}:∀{l:List Nf} {d d' : List (List Tm)},Dd x roots l d=some d'→d'.length=d.length+l.length
 | [],d,d',h=>by cases h;rfl
 |i::l,d,d',h=>by
  unfold Dd at h;split at h
  ·cases h
  ·have:=IM h
   simp only[Ad,At,AC]at this⊢;omega
theorem GM{x:List Rl}{roots:List Rq}:∀(l m:List Nf) (d:List (List Tm)),Dd x roots (l++m) d=match Dd x roots l d with | none=>none | some d'=>Dd x roots m d'
 | [],_,_=>rfl
 |i::l,m,d=>by
  show(match DO x roots d i with | none=>none | some t=>Dd x roots (l++m) (d++[t]))=(match(match DO x roots d i with | none=>none | some t=>Dd x roots l (d++[t]))with | none=>none | some d'=>Dd x roots m d');cases DO x roots d i with
  |none=>rfl
  |some t=>exact GM l m _
theorem Lh{x:List Rl}{roots:List Rq}:∀{l:List Nf} {d d' : List (List Tm)},Dd x roots l d=some d'→d <+: d'
 | [],d,d',h=>by cases h;exact List.prefix_refl _
 |i::l,d,d',h=>by
  unfold Dd at h;split at h
  ·cases h
  ·exact(NY _ _).trans (Lh h)
theorem MU{x:List Rl}{roots:List Rq}{l:List Nf}{d:List (List Tm)}(h:Dd x roots l []=some d)(k:Nat):Dd x roots (l.take k) []=some (d.take k):=by
 rw[←Lb k l,GM]at h;cases e:Dd x roots (l.take k) []with
 |none=>rw[e]at h;cases h
 |some f =>
  rw[e]at h;dsimp only at h;have h1:=IM e;have h2:=IM h;have h3:=Lh h
  congr 1
  simp only[AC,AJ,Ar]at h1 h2;obtain⟨z,rfl⟩:=h3
  by_cases hk:k≤l.length
  ·rw[DY (by omega),AT (by omega)]
  ·rw[Ad]at h2
   have:z=[]:=AB (by omega)
   subst this;rw[BZ,AT (by omega)]
def KE(l:List Tm):Prop:=CN l=some l
theorem cQ{l:List Tm}:∀(l2:List Tm),Cb none (l2++l)→l.foldl (fun acc t=>Nx t acc) l2=l2++l:=by
 induction l with
 |nil=>intro l2 _;simp
 |cons t r ih =>
  intro l2 h;have hi:Nx t l2=l2++[t]:=by
   have:∀(m:List Tm) (lo:Option ByteArray),Cb lo (m++t::r)→Nx t m=m++[t]:=by
    intro m
    induction m with
    |nil =>
     intro lo hm;have hc:Ew t.set:=hm.2.1;unfold Nx;rw[show Lg t=t from nJ rfl rfl (I4 hc)];rfl
    |cons u m ihm =>
     intro lo hm;have hm:Cb lo (u::(m++t::r)):=hm;have DF:=Cb.low hm.2.2 t (by simp);unfold Nx;rw[Aw DF,ihm _ hm.2.2];rfl
   exact this l2 none h
  rw[Fo,hi]
  have:=ih (l2++[t]) (by rw[AO];exact h)
  rw[this,AO];rfl
theorem PJ{l:List Tm}(h:Cb none l):EO l=l:=by
 have:=cQ (l:=l) [] h
 simpa[EO]using this
theorem Qs{l c:List Tm}(h:CN l=some c):KE c:=by
 have hs:=EF h;unfold KE;unfold CN at h⊢;rw[PJ hs];split at h
 ·cases h
 ·rename_i hn;cases h;rw[Ak]
  ·congr 1
   rw[List.filter_filter];simp
  ·rw[Bool.not_eq_true,FZ]at hn⊢;intro t ht;exact hn t (BK.1 ht).1
theorem Ou:KE []:=rfl
theorem L6(l:List Tm):KE (PM l):=by
 unfold PM;cases h:CN l with
 |none=>exact Ou
 |some c=>exact Qs h
theorem M9(a b:List Tm)(p:ByteArray):KE (Bv a b p).1:=by
 unfold Bv;split
 ·split
  ·rename_i h;exact Qs h
  ·exact Ou
 ·exact Ou
theorem XS{l o:List Tm}(h:cj l=some o):o=l:=by unfold cj at h;split at h<;>cases h;rfl
theorem Xz{x:List Rl}{roots:List Rq}{d:List (List Tm)}{i:Nf}{o:List Tm}(h:DO x roots d i=some o):KE o:=by
 unfold DO at h;split at h
 ·split at h
  ·rw[AY]at h;obtain⟨q,_,rfl⟩:=h;exact L6 _
  ·cases h
 ·split at h
  ·split at h
   ·split at h
    ·cases h
    ·split at h
     ·cases h
     ·rw[XS h];exact L6 _
   ·cases h
  ·split at h
   ·split at h
    ·rw[XS h];exact L6 _
    ·cases h
   ·split at h
    ·split at h
     ·split at h
      ·split at h
       ·cases h;exact M9 _ _ _
       ·cases h
      ·cases h
     ·cases h
    ·cases h
theorem MT{x:List Rl}{roots:List Rq}:∀{l:List Nf} {d d' : List (List Tm)},(∀t∈d,KE t)→Dd x roots l d=some d'→∀t∈d',KE t
 | [],d,d',hd,h=>by cases h;exact hd
 |i::l,d,d',hd,h=>by
  unfold Dd at h;split at h
  ·cases h
  ·rename_i o ho;refine MT (fun t ht=>?_) h;rcases A6.1 ht with ht | ht
   ·exact hd t ht
   ·rw[Al.1 ht];exact Xz ho
-- tampering
end Go.Eng
