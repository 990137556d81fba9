/- Lemmas for the claims of this seat, without a condition: part 1 (P1, P2, P3, P4, P5, P6, P7). -/
import Derived.Test.YtddfphmpfnmknaaGreatDoorCA00
namespace Go.Eng
def BH(p:Int)(s:Int×Int):Bool:=decide (s.1≤p)&&decide (p<s.2)
def has(s:List (Int×Int))(p:Int):Bool:=decide (0≤p)&&decide (p<1000000)&&s.any (BH p)
abbrev Bg:=List (Int×Int)
def EH(lo:Int):Bg→Prop
 | []=>True
 |y::r=>lo≤y.1∧y.1<y.2∧y.2≤1000000∧EH (y.2+1) r
abbrev ED(l:Bg):Prop:=EH 0 l
def VA(x:Int×Int):Bg→Bg
 | []=>[x]
 |y::r=>if x.2<y.1 then x::y::r else if y.2<x.1 then y::VA x r else VA (min x.1 y.1,max x.2 y.2) r
def Hf(x:Int×Int):Int×Int:=(max x.1 0,min x.2 1000000)
def canon:Bg→Bg
 | []=>[]
 |x::r=>if(Hf x).1<(Hf x).2 then VA (Hf x) (canon r)else canon r
def KY(at_:Int):Bg→Bg
 | []=>if at_<1000000 then [(at_,1000000)]else []
 |y::r=>if at_<y.1 then(at_,y.1)::KY y.2 r else KY y.2 r
def Ej(s:Bg):Bg:=KY 0 (canon s)
def Qf(l:List Bg):Bg:=canon l.flatten
def PF(l:List Bg):Bg:=Ej (l.map Ej).flatten
def Pg(a b:Bg):Bg:=Qf [a,b]
def OK(a b:Bg):Bg:=PF [a,b]
theorem EH.mono{lo Hy : Int}:∀{l:Bg},EH lo l→Hy≤lo→EH Hy l
 | [],_,_=>trivial
 |_::_,⟨h1,h2,h3,h4⟩,h=>⟨Int.le_trans h h1,h2,h3,h4⟩
theorem EH.low{lo:Int}:∀{l:Bg},EH lo l→∀y∈l,lo≤y.1∧y.1<y.2∧y.2≤1000000
 |y::r,⟨h1,h2,h3,h4⟩,z,hz=>by
  rcases Av.1 hz with rfl | hz
  ·exact⟨h1,h2,h3⟩
  ·have:=h4.low z hz
   exact⟨by omega,this.2.1,this.2.2⟩
theorem DD{p:Int}{s:Int×Int}:BH p s=true↔s.1≤p∧p<s.2:=by simp[BH]
theorem Mr{lo:Int}{l:Bg}(h:EH lo l){p:Int}(hp:l.any (BH p)=true):lo≤p:=by
 obtain⟨y,hy,h2⟩:=Ba.1 hp
 have:=h.low y hy
 have:=DD.1 h2
 omega
theorem dU{lo:Int}{l:Bg}(h:EH lo l){p:Int}(hp:l.any (BH p)=true):p<1000000:=by
 obtain⟨y,hy,h2⟩:=Ba.1 hp
 have:=h.low y hy
 have:=DD.1 h2
 omega
theorem Nm:∀(l:Bg) {lo:Int} {x:Int×Int},EH lo l→lo≤x.1→x.1<x.2→x.2≤1000000→EH lo (VA x l)
 | [],lo,x,_,h1,h2,h3=>⟨h1,h2,h3,trivial⟩
 |y::r,lo,x,⟨g1,g2,g3,g4⟩,h1,h2,h3=>by
  unfold VA;split
  ·exact⟨h1,h2,h3,by omega,g2,g3,g4⟩
  ·split
   ·exact⟨g1,g2,g3,Nm r g4 (by omega) h2 h3⟩
   ·refine Nm r (g4.mono (by omega)) ?_ ?_ ?_<;>dsimp only<;>omega
theorem N7:∀(l:Bg) {lo:Int} {x:Int×Int} (p:Int),EH lo l→x.1<x.2→(VA x l).any (BH p)=(BH p x||l.any (BH p))
 | [],lo,x,p,_,_=>by simp[VA]
 |y::r,lo,x,p,⟨g1,g2,g3,g4⟩,h2=>by
  unfold VA;split
  ·simp
  ·split
   ·rw[B8,N7 r p g4 h2,B8,←Bool.or_assoc,←Bool.or_assoc,Bool.or_comm (BH p y)]
   ·rw[N7 r p g4 (by dsimp only;omega),B8,←Bool.or_assoc]
    congr 1
    simp only[BH];rw[BP];simp only[Af,Cj,As];omega
theorem Cb:∀s:Bg,ED (canon s)
 | []=>trivial
 |x::r=>by
  unfold canon;split
  ·rename_i h;refine Nm _ (Cb r) ?_ h ?_<;>simp only[Hf]<;>omega
  ·exact Cb r
theorem Kq:∀(s:Bg) (p:Int),(canon s).any (BH p)=has s p
 | [],p=>by simp[has,canon]
 |x::r,p=>by
  have ih:=Kq r p;unfold canon;have hx:BH p (Hf x)=(decide (0≤p)&&decide (p<1000000)&&BH p x):=by
   simp only[BH,Hf];rw[BP];simp only[Af,As,Int.max_le,Int.lt_min];omega
  split
  ·rename_i h;rw[N7 _ p (Cb r) h,ih,hx];simp only[has,B8];cases decide (0≤p)<;>cases decide (p<1000000)<;>simp
  ·rename_i h;rw[ih];simp only[has,B8]
   have:BH p (Hf x)=false:=by
    rw[AM];intro h3
    have:=DD.1 h3
    omega
   rw[this]at hx;cases h1:decide (0≤p)<;>cases h2:decide (p<1000000)<;>simp_all
theorem Hu{l:Bg}(h:ED l)(p:Int):has l p=l.any (BH p):=by
 unfold has;cases e:l.any (BH p)with
 |false=>simp
 |true=>have h1:0≤p:=Mr h e;have h2:=dU h e;simp[h1,h2]
theorem G7(s:Bg)(p:Int):has (canon s) p=has s p:=by
 rw[Hu (Cb s),Kq]
theorem MZ:∀{a b:Bg} {lo:Int},EH lo a→EH lo b→(∀p,a.any (BH p)=b.any (BH p))→a=b
 | [],[],_,_,_,_=>rfl
 | [],z::s,_,_,⟨g1,g2,g3,g4⟩,h=>by
  have:=h z.1
  rw[B8,DD.2 ⟨BO _,g2⟩]at this;simp at this
 |y::r,[],_,⟨g1,g2,g3,g4⟩,_,h=>by
  have:=h y.1
  rw[B8,DD.2 ⟨BO _,g2⟩]at this;simp at this
 |y::r,z::s,lo,⟨f1,f2,f3,f4⟩,⟨g1,g2,g3,g4⟩,h=>by
  have below:∀{x:Int×Int} {t:Bg} {p:Int},EH (x.2+1) t→(x::t).any (BH p)=true→p≤x.2→x.1≤p∧p<x.2:=fun {x t p} ht hp Hg=>by
   rw[B8,Cj]at hp;rcases hp with hp | hp
   ·exact DD.1 hp
   ·have:=Mr ht hp;omega
  have low:∀{x:Int×Int} {t:Bg} {p:Int},x.1<x.2→EH (x.2+1) t→(x::t).any (BH p)=true→x.1≤p:=fun {x t p} hx ht hp=>by
   rw[B8,Cj]at hp;rcases hp with hp | hp
   ·exact(DD.1 hp).1
   ·have:=Mr ht hp;omega
  have cov:∀{x:Int×Int} {t:Bg} {p:Int},x.1≤p→p<x.2→(x::t).any (BH p)=true:=fun {x t p} h1 h2=>by
   rw[B8,DD.2 ⟨h1,h2⟩,Bool.true_or]
  have e1:y.1=z.1:=by
   have a1:=low f2 f4 ((h z.1).trans (cov (BO _) g2));have a2:=low g2 g4 ((h y.1).symm.trans (cov (BO _) f2));omega
  have e2:y.2=z.2:=by
   rcases Int.lt_trichotomy y.2 z.2 with hl | he | hl
   ·have:=below f4 ((h y.2).trans (cov (by omega) hl)) (BO _);omega
   ·exact he
   ·have:=below g4 ((h z.2).symm.trans (cov (by omega) hl)) (BO _);omega
  have e:y=z:=Prod.ext e1 e2;subst e
  congr 1
  refine MZ f4 g4 fun p=>?_;have hp:=h p;simp only[B8]at hp;cases hs:BH p y with
  |false=>rw[hs,LI,LI]at hp;exact hp
  |true =>
   have:=DD.1 hs
   have n:∀{t:Bg},EH (y.2+1) t→t.any (BH p)=false:=fun {t} ht=>by
    rw[AM];intro hx;have:=Mr ht hx;omega
   rw[n f4,n g4]
theorem Hp{a b:Bg}(ha:ED a)(hb:ED b)(h:∀p,has a p=has b p):a=b :=
 MZ ha hb fun p=>by rw[←Hu ha,←Hu hb,h]
theorem RZ{a s:Bg}(ha:ED a)(h:∀p,has a p=has s p):a=canon s :=
 Hp ha (Cb s) fun p=>by rw[h,G7]
theorem I8{a:Bg}(ha:ED a):canon a=a:=(RZ ha fun _=>rfl).symm
theorem L0{s:Bg}{p:Int}(h:has s p=true):0≤p∧p<1000000:=by
 unfold has at h;simp only[Af,As]at h;exact h.1
def LD(p:Int):Bool:=decide (0≤p)&&decide (p<1000000)
theorem KZ:∀(l:Bg) {at_ lo:Int},0≤at_→EH lo l→lo≤at_+1→at_≤lo→EH at_ (KY at_ l)∧∀p,(KY at_ l).any (BH p)=(decide (at_≤p)&&decide (p<1000000)&&!l.any (BH p))
 | [],at_,lo,h0,_,h1,h2=>by
  unfold KY;split
  ·exact⟨⟨BO _,by dsimp only;omega,BO _,trivial⟩,fun p=>by simp[BH]⟩
  ·refine⟨trivial,fun p=>?_⟩
   have:(decide (at_≤p)&&decide (p<1000000))=false:=by
    rw[AM];simp only[U6,Af,As];omega
   simp[this]
 |y::r,at_,lo,h0,⟨g1,g2,g3,g4⟩,h1,h2=>by
  have ih:=KZ r (at_:=y.2) (by omega) g4 (BO _) (by omega);have key:∀p,(decide (at_≤p)&&decide (p<y.1)||(KY y.2 r).any (BH p))=(decide (at_≤p)&&decide (p<1000000)&&!(y::r).any (BH p)):=fun p=>by
   rw[ih.2,B8];cases hr:r.any (BH p)with
   |true =>
    have:=Mr g4 hr
    have a:decide (p<y.1)=false:=Ay (by omega);simp[a]
   |false =>
    rw[BP];simp only[BH,Af,Cj,As,CG,QW,Bool.and_eq_false_iff,JH,Bool.not_false,and_true];omega
  unfold KY;split
  ·rename_i h;refine⟨⟨BO _,h,by dsimp only;omega,ih.1 |> fun c=>?_⟩,fun p=>?_⟩
   ·dsimp only;cases e:KY y.2 r with
    |nil=>trivial
    |cons z s =>
     rw[e]at c;exact⟨by have:=c.1;omega,c.2⟩
   ·rw[B8,←key];rfl
  ·rename_i h;refine⟨ih.1.mono (by omega),fun p=>?_⟩;rw[←key]
   have:(decide (at_≤p)&&decide (p<y.1))=false:=by
    rw[AM];simp only[U6,Af,As];omega
   rw[this,LI]
theorem G5(s:Bg):ED (Ej s):=by
 unfold Ej;exact(KZ _ (BO _) (Cb s) (by omega) (BO _)).1
theorem FC(s:Bg)(p:Int):has (Ej s) p=(LD p&&!has s p):=by
 rw[Hu (G5 s)];unfold Ej;rw[(KZ _ (BO _) (Cb s) (by omega) (BO _)).2,Kq];rfl
theorem Y3(a b:Bg)(p:Int):has (a++b) p=(has a p||has b p):=by
 simp only[has,F9];cases decide (0≤p)<;>cases decide (p<1000000)<;>simp
theorem LZ:∀(l:List Bg) (p:Int),has l.flatten p=l.any fun s=>has s p
 | [],p=>by simp[has]
 |s::l,p=>by rw[Bm,Y3,LZ l p,B8]
theorem SD(l:List Bg)(p:Int):has (Qf l) p=l.any fun s=>has s p:=by
 unfold Qf;rw[G7,LZ]
theorem WC(l:List Bg):ED (Qf l):=Cb _
theorem Wl(l:List Bg):ED (PF l):=G5 _
theorem SC(l:List Bg)(p:Int):has (PF l) p=(LD p&&l.all fun s=>has s p):=by
 unfold PF;rw[FC,LZ,List.any_map];cases h:LD p with
 |false=>rfl
 |true =>
  rw[Ed,Ed,List.not_any_eq_all_not]
  congr 1
  funext s
  simp[FC,h]
theorem Yq(a b:Bg):ED (Pg a b):=Cb _
theorem QF(a b:Bg):ED (OK a b):=G5 _
theorem bW(a b:Bg)(p:Int):has (Pg a b) p=(has a p||has b p):=by
 unfold Pg;rw[SD];simp
theorem UP(a b:Bg)(p:Int):has (OK a b) p=(has a p&&has b p):=by
 unfold OK;rw[SC];simp only[List.all_cons,List.all_nil,Bool.and_true];cases h:has a p with
 |false=>simp
 |true=>have:=L0 h;simp[LD,this]
theorem Y9(s:Bg):OK s s=canon s:=Hp (QF _ _) (Cb _) fun p=>by rw[UP,G7,Bool.and_self]
theorem T4{s:Bg}:canon s=[]↔∀p,has s p=false:=by
 constructor
 ·intro h p;rw[←G7,h];simp[has]
 ·intro h;exact Hp (Cb s) (b:=[]) trivial fun p=>by rw[G7,h p];simp[has]
theorem PK{s:Bg}(hs:ED s):s=[]↔∀p,has s p=false:=by
 rw[←T4,I8 hs]
def dB(l:List Bg)(p:Int):Nat:=l.countP fun s=>has s p
theorem RY:∀{l:Bg} {lo:Int},EH lo l→lo≤1000000→(l.length:Int)≤1000000-lo
 | [],lo,_,h=>by simp;omega
 |y::r,lo,⟨g1,g2,g3,g4⟩,h=>by
  by_cases h3:y.2+1≤1000000
  ·have:=RY g4 h3
   simp only[Au];omega
  ·cases r with
   |nil=>simp;omega
   |cons z s=>have:=g4.1;have:=g4.2.1;have:=g4.2.2.1;omega
theorem HY{l:Bg}(h:ED l):l.length≤1000000:=by have:=RY h (by omega);omega
structure Ver where
 (a b c:Int)
structure Rq where
 path:ByteArray
 set:List (Int×Int)
structure Rl where
 path:ByteArray
 ver:Ver
 reqs:List Rq
 (arch ifc cert:ByteArray)
 yanked:Bool
structure Sl where
 path:ByteArray
 ver:Ver
structure Tm where
 path:ByteArray
 absent:Bool
 set:List (Int×Int)
structure Nf where
 kind:Int
 path:ByteArray
 (place number left right:Int)
structure Sk where
 path:ByteArray
 (place inf:Int)
structure An where
 found:Bool
 sel:List Sl
 infs:List Nf
 skips:List Sk
instance:DecidableEq Ver:=fun x y=>decidable_of_iff (x.a=y.a∧x.b=y.b∧x.c=y.c) ⟨fun⟨h1,h2,h3⟩=>by cases x;cases y;simp_all,fun h=>by subst h;exact⟨rfl,rfl,rfl⟩⟩
instance:DecidableEq Sl:=fun x y=>decidable_of_iff (x.path=y.path∧x.ver=y.ver) ⟨fun⟨h1,h2⟩=>by cases x;cases y;simp_all,fun h=>by subst h;exact⟨rfl,rfl⟩⟩
theorem ox{x y:Tm}(h1:x.path=y.path)(h2:x.absent=y.absent)(h3:x.set=y.set):x=y:=by cases x;cases y;simp_all
def okPart(n:Int):Prop:=0≤n∧n≤999
instance (n:Int):Decidable (okPart n):=by unfold okPart;infer_instance
def Cr(v:Ver):Bool:=decide (okPart v.a)&&decide (okPart v.b)&&decide (okPart v.c)
def place(v:Ver):Int:=1000*v.b+v.c
def plc(v:Ver):Int:=if Cr v then place v else 0
def B2(s:List Sl)(p:ByteArray):Option Sl:=s.find? fun x=>decide (x.path=p)
def GA(t:Tm)(s:List Sl):Bool :=
 match s.find? (fun x=>decide (x.path=t.path))with
 |none=>t.absent
 |some x=>Cr x.ver&&has t.set (place x.ver)
def Cu(s:List Sl)(p:ByteArray):Bool:=s.any fun x=>decide (x.path=p)
def Bb(l:List Tm)(s:List Sl):Bool:=l.all fun t=>GA t s
def Cq(l:List Tm)(s:List Sl):Bool:=Bb l s&&!l.any fun t=>!Cu s t.path
def H2:List UInt8→List UInt8→Bool
 | [],[]=>false
 | [],_::_=>true
 |_::_,[]=>false
 |a::x,b::y=>decide (a<b)||(decide (a=b)&&H2 x y)
def Ew(a b:ByteArray):Bool:=H2 a.data.toList b.data.toList
theorem QI:∀x,H2 x x=false
 | []=>rfl
 |a::x=>by
  unfold H2;simp[QI x]
theorem NL:∀{x y z},H2 x y=true→H2 y z=true→H2 x z=true
 | [],[],_,h,_=>by simp[H2]at h
 | [],_::_,[],_,h=>by simp[H2]at h
 | [],_::_,_::_,_,_=>rfl
 |_::_,[],_,h,_=>by simp[H2]at h
 |_::_,_::_,[],_,h=>by simp[H2]at h
 |a::x,b::y,c::z,h1,h2=>by
  unfold H2 at *
  simp only[Cj,Af,As]at *
  rcases h1 with h1 | ⟨rfl,h1⟩
  ·rcases h2 with h2 | ⟨rfl,h2⟩
   ·exact .inl (UInt8.lt_trans h1 h2)
   ·exact .inl h1
  ·rcases h2 with h2 | ⟨rfl,h2⟩
   ·exact .inl h2
   ·exact .inr ⟨rfl,NL h1 h2⟩
theorem Ta:∀{x y},H2 x y=false→H2 y x=false→x=y
 | [],[],_,_=>rfl
 | [],_::_,h,_=>by simp[H2]at h
 |_::_,[],_,h=>by simp[H2]at h
 |a::x,b::y,h1,h2=>by
  unfold H2 at *
  simp only[Bool.or_eq_false_iff,Bool.and_eq_false_iff,JH]at *
  have e:a=b:=by
   have l1:=UInt8.not_lt.1 h1.1;have l2:=UInt8.not_lt.1 h2.1;exact UInt8.le_antisymm l2 l1
  subst e
  have:=Ta (x:=x) (y:=y) (by simpa using h1.2) (by simpa using h2.2)
  rw[this]
theorem ti{a b:ByteArray}(h:a.data.toList=b.data.toList):a=b:=by
 cases a;cases b;simp only[ByteArray.mk.injEq];exact Ix.1 h
theorem CZ(a:ByteArray):Ew a a=false:=QI _
theorem DR{a b c:ByteArray}(h:Ew a b=true)(k:Ew b c=true):Ew a c=true:=NL h k
theorem Ho{a b:ByteArray}(h:Ew a b=false)(k:Ew b a=false):a=b:=ti (Ta h k)
theorem HX{a b:ByteArray}(h:Ew a b=true):a≠b:=fun e=>by subst e;rw[CZ]at h;cases h
theorem Mt{a b:ByteArray}(h:Ew a b=true):Ew b a=false:=by
 rw[AM];intro k;have:=DR h k;rw[CZ]at this;cases this
def Lq(t:Tm):Tm:=⟨t.path,t.absent,canon t.set⟩
def GK(u t:Tm):Tm:=⟨u.path,u.absent&&t.absent,OK u.set t.set⟩
def NH(t:Tm):List Tm→List Tm
 | []=>[Lq t]
 |u::r=>if Ew u.path t.path then u::NH t r else if u.path=t.path then GK u t::r else Lq t::u::r
def EX(l:List Tm):List Tm:=l.foldl (fun acc t=>NH t acc) []
def HC(t:Tm):Bool:=!t.absent&&t.set.isEmpty
def Gs(t:Tm):Bool:=t.absent&&decide (t.set=[(0,1000000)])
def CE(l:List Tm):Option (List Tm):=if(EX l).any HC then none else some ((EX l).filter fun t=>!Gs t)
def PM(l:List Tm):List Tm:=(CE l).getD []
def Dw(q:Rq):Tm:=⟨q.path,true,Ej q.set⟩
def Jp(q:Rq):List Tm:=PM [Dw q]
def Ei(path:ByteArray)(pl:Int)(q:Rq):List Tm:=PM [⟨path,false,[(pl,pl+1)]⟩,Dw q]
def HE(path:ByteArray)(pt:Bg):List Tm:=PM [⟨path,false,Ej pt⟩]
def Db(l:List Tm)(p:ByteArray):Option Tm:=l.find? fun t=>decide (t.path=p)
def FH(l:List Tm)(p:ByteArray):List Tm:=l.filter fun t=>!decide (t.path=p)
def C3(a b:Tm):Tm:=⟨a.path,a.absent||b.absent,Pg a.set b.set⟩
def Fm(l:List Tm)(p:ByteArray):Option (Tm×List Tm):=match CE l with
 |none=>none
 |some c=>match Db c p with
  |none=>none
  |some t=>some (t,FH c p)
def Bo(a b:List Tm)(p:ByteArray):List Tm×Int :=
 match Fm a p,Fm b p with
 |some (t,r),some (u,m)=>match CE (r++m++[C3 t u])with
  |some o=>(o,0)
  |none=>([],8)
 |_,_=>([],1)
def B7(lo:Option ByteArray):List Tm→Prop
 | []=>True
 |t::r=>(∀p,lo=some p→Ew p t.path=true)∧ED t.set∧B7 (some t.path) r
theorem B7.weak{lo:Option ByteArray}:∀{l:List Tm},B7 lo l→B7 none l
 | [],_=>trivial
 |_::_,⟨_,h2,h3⟩=>⟨fun _ h=>(by cases h),h2,h3⟩
theorem B7.low{p:ByteArray}:∀{l:List Tm},B7 (some p) l→∀t∈l,Ew p t.path=true
 |t::r,⟨h1,h2,h3⟩,u,hu=>by
  rcases Av.1 hu with rfl | hu
  ·exact h1 p rfl
  ·exact DR (h1 p rfl) (h3.low u hu)
theorem B7.canon{lo:Option ByteArray}:∀{l:List Tm},B7 lo l→∀t∈l,ED t.set
 |t::r,⟨h1,h2,h3⟩,u,hu=>by
  rcases Av.1 hu with rfl | hu
  ·exact h2
  ·exact h3.canon u hu
theorem B7.mono{p q:ByteArray}:∀{l:List Tm},B7 (some p) l→Ew q p=true→B7 (some q) l
 | [],_,_=>trivial
 |t::r,⟨h1,h2,h3⟩,h=>⟨fun _ e=>by cases e;exact DR h (h1 p rfl),h2,h3⟩
theorem L7:∀{l:List Tm} {lo:Option ByteArray} (t:Tm),B7 lo l→(∀p,lo=some p→Ew p t.path=true)→B7 lo (NH t l)
 | [],lo,t,_,h=>⟨h,Cb _,trivial⟩
 |u::r,lo,t,⟨h1,h2,h3⟩,h=>by
  unfold NH;split
  ·rename_i Dz;exact⟨h1,h2,L7 t h3 fun p e=>by cases e;exact Dz⟩
  ·rename_i Dz;split
   ·rename_i he;exact⟨h1,QF _ _,h3⟩
   ·rename_i he;refine⟨h,Cb _,fun p e=>?_,h2,h3⟩;cases e
    have:Ew u.path t.path=false:=by simpa using Dz
    cases hb:Ew t.path u.path with
    |true=>exact hb
    |false=>exact absurd (Ho this hb) he
theorem Oy:∀(l acc:List Tm),B7 none acc→B7 none (l.foldl (fun acc t=>NH t acc) acc)
 | [],_,h=>h
 |t::l,acc,h=>Oy l _ (L7 t h fun _ e=>by cases e)
theorem Em(l:List Tm):B7 none (EX l):=Oy l [] trivial
theorem Cy(t:Tm)(r:List Tm)(p:ByteArray):Db (t::r) p=if t.path=p then some t else Db r p:=by
 unfold Db;rw[EK];by_cases h:t.path=p<;>simp[h]
theorem Hq{p q:ByteArray}{l:List Tm}(h:B7 (some p) l)(hq:Ew p q=false):Db l q=none:=by
 unfold Db;rw[DQ];intro t ht
 have:=h.low t ht
 simp only[As];intro e;subst e;rw[hq]at this;cases this
def NQ(o:Option Tm)(t:Tm):Tm:=match o with | none=>Lq t | some u=>GK u t
theorem PP(o:Option Tm)(t:Tm)(h:∀u,o=some u→u.path=t.path):(NQ o t).path=t.path:=by
 cases o with
 |none=>rfl
 |some u=>exact h u rfl
theorem GV{l:List Tm}{p:ByteArray}{u:Tm}(h:Db l p=some u):u.path=p:=by
 have:=EL h;simpa using this
theorem E6{l:List Tm}{p:ByteArray}{u:Tm}(h:Db l p=some u):u∈l:=Ce h
theorem Sr:∀{l:List Tm} {lo:Option ByteArray} (t:Tm) (p:ByteArray),B7 lo l→Db (NH t l) p=if t.path=p then some (NQ (Db l p) t)else Db l p
 | [],lo,t,p,_=>by
  unfold NH;rw[Cy];show(if t.path=p then some (Lq t)else none)=_
  by_cases h:t.path=p<;>simp[h,Db,NQ]
 |u::r,lo,t,p,⟨h1,h2,h3⟩=>by
  unfold NH;split
  ·rename_i Dz;rw[Cy,Cy,Sr t p h3]
   by_cases hu:u.path=p
   ·have:¬t.path=p:=fun e=>HX Dz (hu.trans e.symm)
    simp[hu,this]
   ·simp[hu]
  ·rename_i Dz;split
   ·rename_i he;rw[Cy,Cy];show(if u.path=p then some (GK u t)else _)=_
    by_cases hu:u.path=p
    ·simp[hu,he▸hu,NQ]
    ·have:¬t.path=p:=fun e=>hu (he.trans e)
     simp[hu,this]
   ·rename_i he;rw[Cy];show(if t.path=p then some (Lq t)else _)=_
    by_cases ht:t.path=p
    ·have hn:Db (u::r) p=none:=by
      rw[Cy];have hu:¬u.path=p:=fun e=>he (e.trans ht.symm);simp only[hu,FX];exact Hq h3 (by subst ht;simpa using Dz)
     simp[ht,hn,NQ]
    ·simp[ht]
def JV(p:ByteArray)(o:Option Tm)(t:Tm):Option Tm:=if t.path=p then some (NQ o t)else o
theorem Qz(p:ByteArray):∀(l acc:List Tm),B7 none acc→Db (l.foldl (fun acc t=>NH t acc) acc) p=l.foldl (JV p) (Db acc p)
 | [],_,_=>rfl
 |t::l,acc,h=>by
  rw[Ef,Qz p l _ (L7 t h fun _ e=>by cases e),Sr t p h];rfl
theorem IW(l:List Tm)(p:ByteArray):Db (EX l) p=l.foldl (JV p) none:=Qz p l [] trivial
theorem Mn:∀{a b:List Tm} {lo:Option ByteArray},B7 lo a→B7 lo b→(∀p,Db a p=Db b p)→a=b
 | [],[],_,_,_,_=>rfl
 | [],z::s,_,_,_,h=>by have:=h z.path;rw[Cy,Ao rfl]at this;cases this
 |z::s,[],_,_,_,h=>by have:=h z.path;rw[Cy,Ao rfl]at this;cases this
 |y::r,z::s,lo,⟨f1,f2,f3⟩,⟨g1,g2,g3⟩,h=>by
  have e:y=z:=by
   have a1:=h y.path;have a2:=h z.path;rw[Cy,Ao rfl,Cy]at a1;rw[Cy,Cy z,Ao rfl]at a2
   by_cases e:z.path=y.path
   ·rw[Ao e]at a1;exact Cs a1
   ·rw[Ah e]at a1;rw[Ah (fun c=>e c.symm)]at a2;have b1:=B7.low g3 y (E6 a1.symm);have b2:=B7.low f3 z (E6 a2)
    have:=DR b1 b2
    rw[CZ]at this;cases this
  subst e
  congr 1
  refine Mn f3 g3 fun p=>?_;have hp:=h p;rw[Cy,Cy]at hp
  by_cases e:y.path=p
  ·subst e;rw[Hq f3 (CZ _),Hq g3 (CZ _)]
  ·simpa[e]using hp
theorem B7.filter(q:Tm→Bool):∀{l:List Tm} {lo:Option ByteArray},B7 lo l→B7 lo (l.filter q)
 | [],_,_=>trivial
 |t::r,lo,⟨h1,h2,h3⟩=>by
  have ih:=B7.filter q h3;rw[BN];split
  ·exact⟨h1,h2,ih⟩
  ·cases lo with
   |none=>exact ih.weak
   |some p=>exact ih.mono (h1 p rfl)
theorem FB{l:List Tm}{lo:Option ByteArray}{t:Tm}(h:B7 lo l):t∈l↔Db l t.path=some t:=by
 constructor
 ·induction l generalizing lo with
  |nil=>intro h;cases h
  |cons u r ih =>
   intro ht;rw[Cy];rcases Av.1 ht with rfl | ht
   ·rw[Ao rfl]
   ·have:=B7.low h.2.2 t ht
    rw[Ah (HX this)];exact ih h.2.2 ht
 ·exact E6
def Da(t:Tm)(o:Option Sl):Bool:=match o with | none=>t.absent | some x=>Cr x.ver&&has t.set (place x.ver)
theorem fL(t:Tm)(s:List Sl):GA t s=Da t (B2 s t.path):=by
 unfold GA Da B2;rfl
theorem LU{s:List Sl}{p:ByteArray}{x:Sl}(h:B2 s p=some x):x.path=p:=by
 have:=EL h;simpa using this
theorem Jb{s:List Sl}{p:ByteArray}{x:Sl}(h:B2 s p=some x):x∈s:=Ce h
theorem JK{s:List Sl}{p:ByteArray}:Cu s p=(B2 s p).isSome:=by
 unfold Cu B2;rw[BP,List.find?_isSome,Ba]
theorem Y6(t:Tm)(o:Option Sl):Da (Lq t) o=Da t o:=by
 unfold Da Lq;cases o<;>simp[G7]
theorem XG(u t:Tm)(o:Option Sl):Da (GK u t) o=(Da u o&&Da t o):=by
 unfold Da GK;cases o with
 |none=>rfl
 |some x=>simp only[UP];cases Cr x.ver<;>simp
theorem M8(u t:Tm)(o:Option Sl):Da (C3 u t) o=(Da u o||Da t o):=by
 unfold Da C3;cases o with
 |none=>rfl
 |some x=>simp only[bW];cases Cr x.ver<;>simp
def T0(p:ByteArray)(o:Option Sl)(l:List Tm):Bool:=l.all fun t=>!decide (t.path=p)||Da t o
theorem JJ(p:ByteArray)(o:Option Sl):∀(l:List Tm) (a:Option Tm),(∀u,a=some u→u.path=p) →
  (l.foldl (JV p) a=none↔a=none∧l.all (fun t=>!decide (t.path=p))=true)∧(∀u,l.foldl (JV p) a=some u→u.path=p∧Da u o=((match a with | none=>true | some b=>Da b o)&&T0 p o l))
 | [],a,ha=>by
  refine⟨by simp,fun u h=>?_⟩;have h:a=some u:=h;subst h;exact⟨ha u rfl,by simp[T0]⟩
 |t::l,a,ha=>by
  rw[Ef]
  by_cases e:t.path=p
  ·have hs:JV p a t=some (NQ a t):=by unfold JV;rw[Ao e]
   rw[hs];have ih:=JJ p o l (some (NQ a t)) (fun u h=>by cases h;rw[PP a t fun u h=>(ha u h).trans e.symm];exact e);refine⟨⟨fun h=>?_,fun h=>?_⟩,fun u h=>?_⟩
   ·have:=ih.1.1 h;cases this.1
   ·simp[e]at h
   ·obtain⟨h1,h2⟩:=ih.2 u h;refine⟨h1,?_⟩;rw[h2]
    have:T0 p o (t::l)=(Da t o&&T0 p o l):=by simp[T0,e]
    rw[this];cases a with
    |none=>simp[NQ,Y6]
    |some b=>simp[NQ,XG,Bool.and_assoc]
  ·have hs:JV p a t=a:=by unfold JV;rw[Ah e]
   rw[hs];have ih:=JJ p o l a ha
   have:T0 p o (t::l)=T0 p o l:=by simp[T0,e]
   rw[this];refine⟨?_,ih.2⟩;rw[ih.1];simp[e]
theorem Bx{l:List Tm}{s:List Sl}:Bb l s=true↔∀t∈l,Da t (B2 s t.path)=true:=by
 unfold Bb;rw[Bk];simp only[fL]
theorem Ly(l:List Tm)(s:List Sl):Bb (EX l) s=Bb l s:=by
 rw[BP,Bx,Bx];constructor
 ·intro h t ht
  have:=JJ t.path (B2 s t.path) l none (fun _ e=>by cases e)
  rw[←IW]at this;cases e:Db (EX l) t.path with
  |none =>
   have:=(this.1.1 e).2
   rw[Bk]at this
   have:=this t ht
   simp at this
  |some u =>
   obtain⟨h1,h2⟩:=this.2 u e;have hu:=h u (E6 e);rw[h1,h2]at hu;simp only[Ed,T0,Bk]at hu
   have:=hu t ht
   simpa using this
 ·intro h u hu;have e:=(FB (Em l)).1 hu
  have:=JJ u.path (B2 s u.path) l none (fun _ e=>by cases e)
  rw[←IW]at this;obtain⟨h1,h2⟩:=this.2 u e;rw[h2];simp only[Ed,T0,Bk];intro t ht
  by_cases e:t.path=u.path
  ·have:=h t ht;rw[e]at this;simp[this]
  ·simp[e]
theorem Zi{t:Tm}(h:HC t=true)(o:Option Sl):Da t o=false:=by
 unfold HC at h;simp only[Af,CG,GI]at h;unfold Da;cases o with
 |none=>exact h.1
 |some x=>dsimp only;rw[h.2];simp[has]
def F5(s:List Sl):Prop:=∀x∈s,Cr x.ver=true
theorem JW{v:Ver}(h:Cr v=true):0≤v.a∧v.a≤999∧0≤v.b∧v.b≤999∧0≤v.c∧v.c≤999:=by
 unfold Cr at h;simp only[Af]at h;obtain⟨⟨a,b⟩,c⟩:=h;obtain⟨a1,a2⟩:=Bv a;obtain⟨b1,b2⟩:=Bv b;obtain⟨c1,c2⟩:=Bv c;exact⟨a1,a2,b1,b2,c1,c2⟩
theorem Jn{v:Ver}(h:Cr v=true):0≤place v∧place v<1000000:=by
 have:=JW h;unfold place;omega
theorem T1{t:Tm}(h:Gs t=true){s:List Sl}(hs:F5 s):Da t (B2 s t.path)=true:=by
 unfold Gs at h;simp only[Af,As]at h;unfold Da;cases e:B2 s t.path with
 |none=>exact h.1
 |some x =>
  have:=hs x (Jb e)
  have hp:=Jn this;dsimp only;rw[this,h.2];simp[has,BH,hp]
theorem CQ{l:List Tm}{s:List Sl}(hs:F5 s):Bb l s=(match CE l with | none=>false | some c=>Bb c s):=by
 unfold CE;split
 ·rename_i h;split at h
  ·rename_i hn;rw[←Ly,AM];intro hv;rw[Bx]at hv;obtain⟨t,ht,hn⟩:=Ba.1 hn
   have:=hv t ht
   rw[Zi hn]at this;cases this
  ·cases h
 ·rename_i c h;split at h
  ·cases h
  ·rename_i hn;cases h;rw[←Ly,BP,Bx,Bx];constructor
   ·intro h t ht;exact h t (BC.1 ht).1
   ·intro h t ht;cases ha:Gs t with
    |true=>exact T1 ha hs
    |false=>exact h t (BC.2 ⟨ht,by simp[ha]⟩)
theorem GR(a b:List Tm)(s:List Sl):Bb (a++b) s=(Bb a s&&Bb b s):=by unfold Bb;rw[List.all_append]
theorem EO{l c:List Tm}(h:CE l=some c):B7 none c:=by
 unfold CE at h;split at h
 ·cases h
 ·cases h;exact B7.filter _ (Em l)
theorem FG{l r:List Tm}{p:ByteArray}{t:Tm}{s:List Sl}(hs:F5 s)(h:Fm l p=some (t,r)):Bb l s=(Da t (B2 s p)&&Bb r s)∧t.path=p:=by
 unfold Fm at h;cases hc:CE l with
 |none=>rw[hc]at h;cases h
 |some c =>
  rw[hc]at h;dsimp only at h;cases hf:Db c p with
  |none=>rw[hf]at h;cases h
  |some u =>
   rw[hf]at h;cases h;have hp:=GV hf;refine⟨?_,hp⟩;rw[CQ hs,hc];dsimp only;rw[BP,Af,Bx,Bx];constructor
   ·intro h
    have:=h t (E6 hf)
    rw[hp]at this;exact⟨this,fun v hv=>h v (BC.1 hv).1⟩
   ·intro⟨h1,h2⟩ v hv
    by_cases e:v.path=p
    ·have:=(FB (EO hc)).1 hv
     rw[e,hf]at this;cases this;rw[e];exact h1
    ·exact h2 v (BC.2 ⟨hv,by simp[e]⟩)
theorem Tz{a b o:List Tm}{p:ByteArray}{s:List Sl}(hs:F5 s)(h:Bo a b p=(o,0))(hv:Bb o s=true):Bb a s=true∨Bb b s=true:=by
 unfold Bo at h;cases h1:Fm a p with
 |none=>rw[h1]at h;simp at h
 |some x =>
  cases h2:Fm b p with
  |none=>rw[h1,h2]at h;simp at h
  |some y =>
   obtain⟨t,r⟩:=x;obtain⟨u,m⟩:=y;rw[h1,h2]at h;dsimp only at h;cases hc:CE (r++m++[C3 t u])with
   |none=>rw[hc]at h;simp at h
   |some c =>
    rw[hc]at h
    have:c=o:=by simpa using h
    subst this;have e:=CQ (l:=r++m++[C3 t u]) hs;rw[hc]at e;dsimp only at e;rw[hv,GR,GR]at e;simp only[Af]at e;obtain⟨⟨e1,e2⟩,e3⟩:=e;obtain⟨va,pa⟩:=FG hs h1;obtain⟨vb,pb⟩:=FG hs h2;have e3:=Bx.1 e3 _ (Am.2 rfl)
    have:(C3 t u).path=p:=pa
    rw[this,M8,Cj]at e3;rcases e3 with e3 | e3
    ·exact .inl (by rw[va,e3,e1];rfl)
    ·exact .inr (by rw[vb,e3,e2];rfl)
theorem PN{l:List Tm}{s:List Sl}(hs:F5 s)(Dr:PM l≠[]):Bb (PM l) s=Bb l s:=by
 have:=CQ (l:=l) hs
 unfold PM at *
 cases h:CE l with
 |none=>rw[h]at Dr;exact absurd rfl Dr
 |some c=>rw[h]at this;exact this.symm
-- paths
def GY(c:UInt8):Bool:=decide (97≤c)&&decide (c≤122)
def VL(c:UInt8):Bool:=decide (65≤c)&&decide (c≤90)
def EW(c:UInt8):Bool:=decide (48≤c)&&decide (c≤57)
def Mp(c:UInt8):Bool:=GY c||VL c||EW c||decide (c=95)
def gl:List UInt8:=[32,97,110,100,32,97,110,121,32,97,115,32,98,111,111,108,32,100,101,112,114,101,99,97,116,101,100,32,101,108,115,101,32,101,120,112,111,114,116,32,102,97,108,115,101,32,102,110,32,102,111,108,100,32,102,114,111,109,32,105,102,32,105,109,112,111,114,116,32,105,110,32,105,110,116,32,108,101,110,103,116,104,32,108,101,116,32,108,105,115,116,32,109,97,116,99,104,32,109,111,100,117,108,101,32,110,111,110,101,32,110,111,116,32,111,114,32,116,101,120,116,32,116,104,101,110,32,116,114,117,101,32,116,121,112,101,32,117,115,101,32]
def db:List UInt8→List UInt8→Bool
 | [],_=>true
 |_::_,[]=>false
 |a::x,b::y=>decide (a=b)&&db x y
def sR(x:List UInt8):List UInt8→Bool
 | []=>db x []
 |b::y=>db x (b::y)||sR x y
def Zb(s:List UInt8):Bool:=sR (32::(s++[32])) gl
def H9(s:List UInt8):Bool:=!s.isEmpty&&decide (s.length≤32)&&GY (s.headD 0)&&s.all Mp&&!Zb s
def Mk(s:List UInt8):Bool:=H9 s&&s.all fun c=>GY c||EW c
def Gw(s:List UInt8):Int:=s.foldl (fun n c=>10*n+((c.toNat:Int)-48)) 0
def LH(s:List UInt8):Option Int:=match s with
 |c::r=>if c=118 then(if r.isEmpty||decide (3<r.length)||(decide (1<r.length)&&decide (r.headD 0=48))||!r.all EW then none else some (Gw r))else none
 | []=>none
def Fl(c:UInt8):List UInt8→List (List UInt8)
 | []=>[[]]
 |b::r=>if b=c then []::Fl c r else match Fl c r with
  | []=>[[b]]
  |x::l=>(b::x)::l
def Zf(p:List UInt8):Option Int:=match LH ((Fl 47 p).getLastD [])with
 |none=>none
 |some n=>if 64<p.length||(Fl 47 p).length<2 then none else if(Fl 47 p).all Mk then some n else none
def CC(p:ByteArray):Option Int:=Zf p.data.toList
-- indexes
def GF(before:Option ByteArray)(q:Rq):Int :=
 if(CC q.path).isNone then 4 else if q.set.isEmpty||!decide (q.set=canon q.set)||(match before with | some b=>!Ew b q.path | none=>false)then 1 else 0
def FP(before:Option ByteArray):List Rq→Int
 | []=>0
 |q::r=>if GF before q=0 then FP (some q.path) r else GF before q
def BL(l:List Rq):Int:=if 16<l.length then 7 else FP none l
def EV(s:ByteArray):Bool:=decide (s.size=0)||decide (s.size=32)
def DF(r:Rl):Int:=match CC r.path with
 |none=>4
 |some m=>if !Cr r.ver||!decide (r.ver.a=m)then 2 else if BL r.reqs≠0 then BL r.reqs else if EV r.arch&&EV r.ifc&&EV r.cert then 0 else 1
def FQ(a b:Int):Int:=if a<b then -1 else if b<a then 1 else 0
def J0(a b:ByteArray):Int:=if Ew a b then -1 else if Ew b a then 1 else 0
def Og(a b:Ver):Int:=if FQ a.a b.a≠0 then FQ a.a b.a else if FQ a.b b.b≠0 then FQ a.b b.b else FQ a.c b.c
def Dy(a b:Rl):Int:=if J0 a.path b.path≠0 then J0 a.path b.path else Og a.ver b.ver
def Fk(r:Rl):Sl:=⟨r.path,r.ver⟩
def DH(before:Option Rl):List Rl→Int
 | []=>0
 |r::l=>if DF r≠0 then DF r else match before with
  |none=>DH (some r) l
  |some b=>if Fk b=Fk r then 5 else if 0<Dy b r then 1 else DH (some r) l
def AT(l:List Rl):Int:=if 256<l.length then 7 else DH none l
def Es(x:List Rl)(y:Sl):Option Rl:=if AT x≠0 then none else x.find? fun r=>decide (Fk r=y)
def Kb(x:List Rl)(p:ByteArray):List Rl:=if AT x≠0 then []else x.filter fun r=>decide (r.path=p)
def B1(x:List Rl)(p:ByteArray):Bg:=canon (((Kb x p).filter fun r=>!r.yanked).map fun r=>(plc r.ver,plc r.ver+1))
def SM(before:Option ByteArray):List Sl→Bool
 | []=>true
 |y::r=>(match before with |some b=>Ew b y.path |none=>true)&&SM (some y.path) r
def FS(s:List Sl):Bool:=SM none s
-- solutions
-- derivations
def OX(x:List Rl)(p:ByteArray)(pl:Int):Option Rl:=x.find? fun r=>decide (r.path=p)&&decide (plc r.ver=pl)
def mt:ByteArray:=⟨#[]⟩
def Jl{α:Type}(l:List α)(i:Int):Option α:=if i<0 then none else l[i.toNat]?
def cB(l:List Tm):Option (List Tm):=if l.isEmpty then none else some l
def DP(x:List Rl)(roots:List Rq)(d:List (List Tm))(i:Nf):Option (List Tm) :=
 if i.kind=0 then
  if i.path=mt∧i.place=0∧i.left=0∧i.right=0 then(Jl roots i.number).map Jp else none
 else if i.kind=1 then
  if i.left=0∧i.right=0 then match OX x i.path i.place with
   |none=>none
   |some r=>match Jl r.reqs i.number with
    |none=>none
    |some q=>cB (Ei i.path i.place q)
  else none
 else if i.kind=2 then
  if i.place=0∧i.number=0∧i.left=0∧i.right=0 then cB (HE i.path (B1 x i.path))else none
 else if i.kind=3 then
  if i.place=0∧i.number=0 then match Jl d i.left,Jl d i.right with
   |some a,some b=>if(Bo a b i.path).2=0 then some (Bo a b i.path).1 else none
   |_,_=>none
  else none
 else none
def CX(x:List Rl)(roots:List Rq):List Nf→List (List Tm)→Option (List (List Tm))
 | [],d=>some d
 |i::l,d=>match DP x roots d i with
  |none=>none
  |some t=>CX x roots l (d++[t])
-- decisions
def Dj(before:List Sl):List Rq→Option ByteArray→Option ByteArray
 | [],acc=>acc
 |q::l,acc=>Dj before l (if Cu before q.path then acc else match acc with
  |none=>some q.path
  |some p=>if Ew q.path p then some q.path else some p)
def KC(needs:List Rq)(before:List Sl):Option ByteArray:=Dj before needs none
structure yM where
 before:List Sl
 needs:List Rq
 rel:Rl
-- answers
-- the example
-- the order of releases
theorem Kr{a b:Int}(h:FQ a b=0):a=b:=by
 unfold FQ at h;split at h
 ·cases h
 ·split at h
  ·cases h
  ·omega
theorem VO{a b:Int}(h:FQ a b<0):a<b:=by
 unfold FQ at h;split at h
 ·assumption
 ·split at h<;>omega
theorem UH{a b:ByteArray}(h:J0 a b=0):a=b:=by
 unfold J0 at h;cases h1:Ew a b with
 |true=>rw[h1]at h;simp at h
 |false =>
  cases h2:Ew b a with
  |true=>rw[h1,h2]at h;simp at h
  |false=>exact Ho h1 h2
theorem jw{a b:ByteArray}(h:J0 a b<0):Ew a b=true:=by
 unfold J0 at h;cases h1:Ew a b with
 |true=>rfl
 |false=>rw[h1]at h;cases h2:Ew b a<;>rw[h2]at h<;>simp at h
def ki(a b:Ver):Prop:=a.a<b.a∨(a.a=b.a∧(a.b<b.b∨(a.b=b.b∧a.c<b.c)))
def cy(a b:Rl):Prop:=Ew a.path b.path=true∨(a.path=b.path∧ki a.ver b.ver)
theorem ZS{a b:Ver}(h:Og a b<0):ki a b:=by
 unfold Og at h;split at h
 ·exact .inl (VO h)
 ·rename_i h1;have h1:=Kr (BZ.1 h1);split at h
  ·exact .inr ⟨h1,.inl (VO h)⟩
  ·rename_i h2;exact .inr ⟨h1,.inr ⟨Kr (BZ.1 h2),VO h⟩⟩
theorem bH{a b:Ver}(h:Og a b=0):a=b:=by
 unfold Og at h;split at h
 ·rename_i h1;exact absurd h h1
 ·rename_i h1;have h1:=Kr (BZ.1 h1);split at h
  ·rename_i h2;exact absurd h h2
  ·rename_i h2;have h2:=Kr (BZ.1 h2);have h3:=Kr h;cases a;cases b;simp_all
theorem bF{a b:Rl}(h:Dy a b=0):Fk a=Fk b:=by
 unfold Dy at h;split at h
 ·rename_i h1;exact absurd h h1
 ·rename_i h1;have h1:=UH (BZ.1 h1);have h2:=bH h;unfold Fk;rw[h1,h2]
theorem jx{a b:Rl}(h:Dy a b<0):cy a b:=by
 unfold Dy at h;split at h
 ·exact .inl (jw h)
 ·rename_i h1;exact .inr ⟨UH (BZ.1 h1),ZS h⟩
theorem cz{a b c:Ver}(h:ki a b)(k:ki b c):ki a c:=by unfold ki at *;omega
theorem U3{a b c:Rl}(h:cy a b)(k:cy b c):cy a c:=by
 rcases h with h | ⟨h1,h2⟩
 ·rcases k with k | ⟨k1,k2⟩
  ·exact .inl (DR h k)
  ·exact .inl (k1▸h)
 ·rcases k with k | ⟨k1,k2⟩
  ·exact .inl (h1▸k)
  ·exact .inr ⟨h1.trans k1,cz h2 k2⟩
theorem H4{a b:Rl}(h:cy a b)(k:Fk a=Fk b):False:=by
 unfold Fk at k;simp only[Sl.mk.injEq]at k;rcases h with h | ⟨_,h⟩
 ·rw[k.1,CZ]at h;cases h
 ·rw[k.2]at h;unfold ki at h;omega
-- a valid index
structure RL(r:Rl):Prop where
 maj:CC r.path=some r.ver.a
 val:Cr r.ver=true
 reqs:BL r.reqs=0
theorem YO{r:Rl}(h:DF r=0):RL r:=by
 unfold DF at h;split at h
 ·cases h
 ·rename_i m hm;split at h
  ·cases h
  ·rename_i h1;split at h
   ·rename_i h2;exact absurd h h2
   ·rename_i h2;simp only[Cj,CG,JH,not_or,BZ]at h1;refine⟨by rw[hm,h1.2],by simpa using h1.1,BZ.1 h2⟩
theorem KV:∀{l:List Rl} {b:Option Rl},DH b l=0→(∀r∈l,RL r)∧(l.Pairwise cy∧∀c,b=some c→∀r∈l,cy c r)
 | [],b,_=>⟨fun _ h=>(by cases h),.nil,fun _ _ _ h=>(by cases h)⟩
 |r::l,b,h=>by
  unfold DH at h;split at h
  ·rename_i h1;exact absurd h h1
  ·rename_i h1;have hr:=YO (BZ.1 h1);have go:DH (some r) l=0→(∀c,b=some c→cy c r)→(∀z∈r::l,RL z)∧((r::l).Pairwise cy∧∀c,b=some c→∀z∈r::l,cy c z):=fun h hc=>by
    obtain⟨i1,i2,i3⟩:=KV h;refine⟨fun z hz=>?_,.cons (i3 r rfl) i2,fun c e z hz=>?_⟩
    ·rcases Av.1 hz with rfl | hz
     ·exact hr
     ·exact i1 z hz
    ·rcases Av.1 hz with rfl | hz
     ·exact hc c e
     ·exact U3 (hc c e) (i3 r rfl z hz)
   cases b with
   |none=>exact go h fun _ e=>by cases e
   |some b =>
    dsimp only at h;split at h
    ·cases h
    ·rename_i hk;split at h
     ·cases h
     ·rename_i hc;refine go h fun c e=>?_;cases e;refine jx ?_
      have:Dy b r≠0:=fun e=>hk (bF e)
      omega
theorem Cp{l:List Rl}(h:AT l=0):(∀r∈l,RL r)∧l.Pairwise cy:=by
 unfold AT at h;split at h
 ·cases h
 ·exact⟨(KV h).1,(KV h).2.1⟩
theorem SW{l:List Rl}(h:l.Pairwise cy){a b:Rl}(ha:a∈l)(hb:b∈l)(hk:Fk a=Fk b):a=b:=by
 induction h with
 |nil=>cases ha
 |cons h1 h2 ih =>
  rcases Av.1 ha with e1 | ha
  ·rcases Av.1 hb with e2 | hb
   ·exact e1.trans e2.symm
   ·exact(H4 (e1▸h1 b hb) hk).elim
  ·rcases Av.1 hb with e2 | hb
   ·exact(H4 (e2▸h1 a ha) hk.symm).elim
   ·exact ih ha hb
theorem WF{a b:Ver}(ha:Cr a=true)(hb:Cr b=true)(h1:a.a=b.a)(h2:place a=place b):a=b:=by
 have:=JW ha
 have:=JW hb
 unfold place at h2;have e1:a.b=b.b:=by omega
 have e2:a.c=b.c:=by omega
 cases a;cases b;simp_all
theorem RL.plc{r:Rl}(h:RL r):plc r.ver=place r.ver:=by unfold Go.Eng.plc;rw[h.val];rfl
theorem aP{l:List Rl}(h:(∀r∈l,RL r)∧l.Pairwise cy){a b:Rl}(ha:a∈l)(hb:b∈l)(h1:a.path=b.path)(h2:place a.ver=place b.ver):a=b:=by
 refine SW h.2 ha hb ?_
 have:=h.1 a ha
 have:=h.1 b hb
 have e:a.ver.a=b.ver.a:=by
  have e1:=(h.1 a ha).maj;rw[h1,(h.1 b hb).maj]at e1;exact(Cs e1).symm
 unfold Fk;rw[h1,WF (h.1 a ha).val (h.1 b hb).val e h2]
theorem Kw{x:List Rl}{y:Sl}{r:Rl}(h:Es x y=some r):AT x=0∧r∈x∧Fk r=y:=by
 unfold Es at h;split at h
 ·cases h
 ·rename_i h1;refine⟨BZ.1 h1,Ce h,?_⟩
  have:=EL h;simpa using this
structure mn(x:List Rl)(roots:List Rq)(s:List Sl):Prop where
 ix:AT x=0
 inc:FS s=true
 fnd:∀y∈s,∃r,Es x y=some r∧r.yanked=false
 root:∀q∈roots,∃y,B2 s q.path=some y∧has q.set (place y.ver)=true
 req:∀y∈s,∀r,Es x y=some r→∀q∈r.reqs,∃z,B2 s q.path=some z∧has q.set (place z.ver)=true
theorem NG:∀{s:List Sl} {b:Option ByteArray},SM b s=true→s.Pairwise (fun a b=>Ew a.path b.path=true)∧∀c,b=some c→∀y∈s,Ew c y.path=true
 | [],_,_=>⟨.nil,fun _ _ _ h=>by cases h⟩
 |y::r,b,h=>by
  unfold SM at h;simp only[Af]at h;obtain⟨h1,h2⟩:=h;obtain⟨i1,i2⟩:=NG h2;refine⟨.cons (i2 _ rfl) i1,fun c e z hz=>?_⟩;subst e;rcases Av.1 hz with rfl | hz
  ·exact h1
  ·exact DR h1 (i2 _ rfl z hz)
theorem M5{s:List Sl}(h:s.Pairwise (fun a b=>Ew a.path b.path=true)){y:Sl}(hy:y∈s):B2 s y.path=some y:=by
 induction h with
 |nil=>cases hy
 |cons h1 h2 ih =>
  rename_i a l;unfold B2;rw[EK];rcases Av.1 hy with rfl | hy
  ·simp
  ·have:=HX (h1 y hy)
   simp only[this,decide_false];exact ih hy
theorem Xl{s:List Sl}(h:FS s=true){y:Sl}(hy:y∈s):B2 s y.path=some y:=M5 (NG h).1 hy
theorem mn.valid{x:List Rl}{roots:List Rq}{s:List Sl}(h:mn x roots s):F5 s:=fun y hy=>by
 obtain⟨r,h1,_⟩:=h.fnd y hy;obtain⟨_,h2,h3⟩:=Kw h1
 have:=((Cp h.ix).1 r h2).val
 rw[←h3];exact this
-- soundness
theorem QP{q:Rq}{s:List Sl}(h:∃y,B2 s q.path=some y∧has q.set (place y.ver)=true):Da (Dw q) (B2 s q.path)=false:=by
 obtain⟨y,h1,h2⟩:=h;rw[h1];unfold Da Dw;dsimp only;rw[FC,h2];simp
theorem gP{l:List Tm}{s:List Sl}(hs:F5 s)(hn:CE l≠none)(hv:Bb l s=false):Bb (PM l) s=false:=by
 have:=CQ (l:=l) hs
 unfold PM;cases h:CE l with
 |none=>exact absurd h hn
 |some c=>rw[h,hv]at this;exact this.symm
theorem X1{l:List Tm}{s:List Sl}(hs:F5 s){o:List Tm}(h:cB (PM l)=some o)(hv:Bb l s=false):Bb o s=false:=by
 unfold cB at h;split at h
 ·cases h
 ·rename_i Dr;cases h;rw[PN hs (by intro e;rw[e]at Dr;exact Dr rfl)];exact hv
theorem ZB(q:Rq):CE [Dw q]≠none:=by
 unfold CE EX;simp only[List.foldl,NH]
 have:HC (Lq (Dw q))=false:=by simp[HC,Lq,Dw]
 simp[this]
theorem OT{α:Type}{l:List α}{i:Int}{a:α}(h:Jl l i=some a):a∈l:=by
 unfold Jl at h;split at h
 ·cases h
 ·exact Ar h
theorem Wi{x:List Rl}{roots:List Rq}{s:List Sl}(hs:mn x roots s){d:List (List Tm)}(hd:∀t∈d,Bb t s=false){i:Nf}{o:List Tm}(h:DP x roots d i=some o):Bb o s=false:=by
 have hv:=hs.valid;unfold DP at h;split at h
 ·split at h
  ·rw[AS]at h;obtain⟨q,hq,rfl⟩:=h;refine gP hv (ZB q) ?_;rw[AM];intro hw
   have:=Bx.1 hw _ (Am.2 rfl)
   rw[show(Dw q).path=q.path from rfl,QP (hs.root q (OT hq))]at this;cases this
  ·cases h
 ·split at h
  ·split at h
   ·split at h
    ·cases h
    ·rename_i r hr;split at h
     ·cases h
     ·rename_i q hq;refine X1 hv h ?_;rw[AM];intro hw;have h1:=Bx.1 hw _ (Ab ..);have h2:=Bx.1 hw (Dw q) (by simp);rw[show(Dw q).path=q.path from rfl]at h2;dsimp only at h1;cases hf:B2 s i.path with
      |none=>rw[hf]at h1;simp[Da]at h1
      |some y =>
       rw[hf]at h1;unfold Da at h1;simp only[Af]at h1;have hp:place y.ver=i.place:=by
        have:=h1.2
        simp only[has,B8,List.any_nil,QW,Af,BH,As]at this;omega
       have hy:=Jb hf;have vJ:=LU hf;obtain⟨r',e1,e2⟩:=hs.fnd y hy;obtain⟨_,m1,k1⟩:=Kw e1;have fO:r∈x:=Ce hr;have pc:=EL hr;simp only[Af,As]at pc;have Gv:=Cp hs.ix
       have:r'=r:=by
        refine aP Gv m1 fO ?_ ?_
        ·rw[pc.1,←vJ,←k1];rfl
        ·rw[←(Gv.1 r fO).plc,pc.2,←hp,←k1];rfl
       subst this
       have:=hs.req y hy r' e1 q (OT hq)
       rw[QP this]at h2;cases h2
   ·cases h
  ·split at h
   ·split at h
    ·refine X1 hv h ?_;rw[AM];intro hw;have h1:=Bx.1 hw _ (Am.2 rfl);dsimp only at h1;cases hf:B2 s i.path with
     |none=>rw[hf]at h1;simp[Da]at h1
     |some y =>
      rw[hf]at h1;unfold Da at h1;simp only[Af]at h1;have hy:=Jb hf;have vJ:=LU hf;obtain⟨r,e1,e2⟩:=hs.fnd y hy;obtain⟨_,m1,k1⟩:=Kw e1;have Gv:=Cp hs.ix;have h1:=h1.2;rw[FC]at h1;have iW:=Jn (hv y hy)
      have:has (B1 x i.path) (place y.ver)=true:=by
       unfold B1;rw[G7];unfold has;simp only[iW,decide_true,Ed,Ba,Aj,BC];refine⟨(plc r.ver,plc r.ver+1),⟨r,⟨?_,by simp[e2]⟩,rfl⟩,?_⟩
       ·unfold Kb;simp only[hs.ix,U6,not_true,FX,BC,m1,true_and,As];rw[←vJ,←k1];rfl
       ·rw[(Gv.1 r m1).plc,←k1];rw[DD];exact⟨BO _,by show place r.ver<place r.ver+1;omega⟩
      rw[this]at h1;simp at h1
    ·cases h
   ·split at h
    ·split at h
     ·split at h
      ·rename_i a b ha hb;split at h
       ·rename_i h0;cases h;rw[AM];intro hw;rcases Tz hv (o:=(Bo a b i.path).1) (Prod.ext rfl h0) hw with hw | hw
        ·rw[hd a (OT ha)]at hw;cases hw
        ·rw[hd b (OT hb)]at hw;cases hw
       ·cases h
      ·cases h
     ·cases h
    ·cases h
theorem Ja{x:List Rl}{roots:List Rq}{s:List Sl}(hs:mn x roots s):∀{l:List Nf} {d d' : List (List Tm)},(∀t∈d,Bb t s=false)→CX x roots l d=some d'→∀t∈d',Bb t s=false
 | [],d,d',hd,h=>by cases h;exact hd
 |i::l,d,d',hd,h=>by
  unfold CX at h;split at h
  ·cases h
  ·rename_i o ho;refine Ja hs (fun t ht=>?_) h;rcases AU.1 ht with ht | ht
   ·exact hd t ht
   ·rw[Am.1 ht];exact Wi hs hd ho
theorem Ie{α:Type}[DecidableEq α]:∀{l m:List α},l.Nodup→(∀x∈l,x∈m)→l.length≤m.length
 | [],_,_,_=>AL _
 |a::l,m,hn,hs=>by
  rw[CI]at hn;have ha:a∈m:=hs a (Ab ..)
  have:=Ie (l:=l) (m:=m.erase a) hn.2 fun x hx=>by
   have:x≠a:=fun e=>hn.1 (e▸hx)
   exact(List.mem_erase_of_ne this).2 (hs x (Ag _ hx))
  rw[List.length_erase_of_mem ha]at this
  have:=List.length_pos_of_mem ha
  simp only[Au];omega
abbrev Vw(s:List Sl):Prop:=s.Pairwise (fun a b=>Ew a.path b.path=true)
-- the next path
theorem JS(before:List Sl):∀{l:List Rq} {acc:Option ByteArray},(∀p,acc=some p→Cu before p=false) →
  (∀p,Dj before l acc=some p→Cu before p=false∧(acc=some p∨∃q∈l,q.path=p))∧(Dj before l acc=none→acc=none∧∀q∈l,Cu before q.path=true)
 | [],acc,ha=>⟨fun p h=>⟨ha p h,.inl h⟩,fun h=>⟨h,fun _ h=>(by cases h)⟩⟩
 |q::l,acc,ha=>by
  unfold Dj
  have key:∀bl,(∀p,bl=some p→Cu before p=false)→(∀p,bl=some p→acc=some p∨q.path=p)→(bl=none→acc=none∧Cu before q.path=true) →
    (∀p,Dj before l bl=some p→Cu before p=false∧(acc=some p∨∃q'∈q::l,q'.path=p))∧(Dj before l bl=none→acc=none∧∀q'∈q::l,Cu before q'.path=true):=by
   intro bl h1 h2 h3;obtain⟨i1,i2⟩:=JS before (l:=l) h1;refine⟨fun p h=>?_,fun h=>?_⟩
   ·obtain⟨j1,j2⟩:=i1 p h;refine⟨j1,?_⟩;rcases j2 with j2 | ⟨q',j3,j4⟩
    ·rcases h2 p j2 with h2 | h2
     ·exact .inl h2
     ·exact .inr ⟨q,Ab ..,h2⟩
    ·exact .inr ⟨q',Ag _ j3,j4⟩
   ·obtain⟨j1,j2⟩:=i2 h;obtain⟨k1,k2⟩:=h3 j1;refine⟨k1,fun q' hq=>?_⟩;rcases Av.1 hq with rfl | hq
    ·exact k2
    ·exact j2 q' hq
  cases hb:Cu before q.path with
  |true=>simp only[QE];exact key acc ha (fun p h=>.inl h) fun h=>⟨h,hb⟩
  |false =>
   simp only[CJ,FX];cases acc with
   |none=>exact key _ (fun p h=>by cases h;exact hb) (fun p h=>by cases h;exact .inr rfl) fun h=>by cases h
   |some p0 =>
    dsimp only;split
    ·exact key _ (fun p h=>by cases h;exact hb) (fun p h=>by cases h;exact .inr rfl) fun h=>by cases h
    ·exact key _ (fun p h=>by cases h;exact ha _ rfl) (fun p h=>by cases h;exact .inl rfl) fun h=>by cases h
theorem Th{needs:List Rq}{before:List Sl}{p:ByteArray}(h:KC needs before=some p):Cu before p=false∧∃q∈needs,q.path=p:=by
 obtain⟨h1,h2⟩:=(JS before (l:=needs) (acc:=none) fun _ e=>by cases e).1 p h;rcases h2 with h2 | h2
 ·cases h2
 ·exact⟨h1,h2⟩
theorem Zk{needs:List Rq}{before:List Sl}(h:KC needs before=none):∀q∈needs,Cu before q.path=true :=
 ((JS before (l:=needs) (acc:=none) fun _ e=>by cases e).2 h).2
theorem SB(a b:List Sl)(p:ByteArray):Cu (a++b) p=(Cu a p||Cu b p):=by unfold Cu;rw[F9]
theorem K7{s:List Sl}{p:ByteArray}:Cu s p=true↔∃y∈s,y.path=p:=by unfold Cu;simp
theorem G6{s:List Sl}{p:ByteArray}:Cu s p=true↔p∈s.map (·.path):=by rw[K7,Aj]
-- what is needed
-- skips
theorem VR{t:List Tm}{b s:List Sl}(hs:FS s=true)(hb:∀y∈b,y∈s)(h:Cq t b=true):Bb t s=true:=by
 unfold Cq at h;simp only[Af,CG,Gb]at h;obtain⟨h1,h2⟩:=h;rw[Bx]at h1⊢;intro u hu
 have:=h2 u hu
 simp only[Bool.not_eq_false]at this;rw[JK]at this;cases hf:B2 b u.path with
 |none=>rw[hf]at this;cases this
 |some y =>
  have h3:=h1 u hu;rw[hf]at h3
  have:=Xl hs (hb y (Jb hf))
  rw[LU hf]at this;rw[this];exact h3
-- right answers
-- the first decision that differs
-- prefixes
theorem IU{x:List Rl}{roots:List Rq}:∀{l:List Nf} {d d' : List (List Tm)},CX x roots l d=some d'→d'.length=d.length+l.length
 | [],d,d',h=>by cases h;rfl
 |i::l,d,d',h=>by
  unfold CX at h;split at h
  ·cases h
  ·have:=IU h
   simp only[Ad,Au,AE]at this⊢;omega
theorem GP{x:List Rl}{roots:List Rq}:∀(l m:List Nf) (d:List (List Tm)),CX x roots (l++m) d=match CX x roots l d with | none=>none | some d'=>CX x roots m d'
 | [],_,_=>rfl
 |i::l,m,d=>by
  show(match DP x roots d i with | none=>none | some t=>CX x roots (l++m) (d++[t]))=(match(match DP x roots d i with | none=>none | some t=>CX x roots l (d++[t]))with | none=>none | some d'=>CX x roots m d');cases DP x roots d i with
  |none=>rfl
  |some t=>exact GP l m _
theorem Lr{x:List Rl}{roots:List Rq}:∀{l:List Nf} {d d' : List (List Tm)},CX x roots l d=some d'→d <+: d'
 | [],d,d',h=>by cases h;exact List.prefix_refl _
 |i::l,d,d',h=>by
  unfold CX at h;split at h
  ·cases h
  ·exact(Jw _ _).trans (Lr h)
theorem M1{x:List Rl}{roots:List Rq}{l:List Nf}{d:List (List Tm)}(h:CX x roots l []=some d)(k:Nat):CX x roots (l.take k) []=some (d.take k):=by
 rw[←Ln k l,GP]at h;cases e:CX x roots (l.take k) []with
 |none=>rw[e]at h;cases h
 |some f =>
  rw[e]at h;dsimp only at h;have h1:=IU e;have h2:=IU h;have h3:=Lr h
  congr 1
  simp only[AE,AD,Dk]at h1 h2;obtain⟨z,rfl⟩:=h3
  by_cases hk:k≤l.length
  ·rw[G2 (by omega),AG (by omega)]
  ·rw[Ad]at h2
   have:z=[]:=AN (by omega)
   subst this;rw[BV,AG (by omega)]
def KQ(l:List Tm):Prop:=CE l=some l
theorem de{l:List Tm}:∀(l2:List Tm),B7 none (l2++l)→l.foldl (fun acc t=>NH t acc) l2=l2++l:=by
 induction l with
 |nil=>intro l2 _;simp
 |cons t r ih =>
  intro l2 h;have hi:NH t l2=l2++[t]:=by
   have:∀(m:List Tm) (lo:Option ByteArray),B7 lo (m++t::r)→NH t m=m++[t]:=by
    intro m
    induction m with
    |nil =>
     intro lo hm;have hc:ED t.set:=hm.2.1;unfold NH;rw[show Lq t=t from ox rfl rfl (I8 hc)];rfl
    |cons u m ihm =>
     intro lo hm;have hm:B7 lo (u::(m++t::r)):=hm;have Dz:=B7.low hm.2.2 t (by simp);unfold NH;rw[Ao Dz,ihm _ hm.2.2];rfl
   exact this l2 none h
  rw[Ef,hi]
  have:=ih (l2++[t]) (by rw[BI];exact h)
  rw[this,BI];rfl
theorem PI{l:List Tm}(h:B7 none l):EX l=l:=by
 have:=de (l:=l) [] h
 simpa[EX]using this
theorem Qu{l c:List Tm}(h:CE l=some c):KQ c:=by
 have hs:=EO h;unfold KQ;unfold CE at h⊢;rw[PI hs];split at h
 ·cases h
 ·rename_i hn;cases h;rw[Ah]
  ·congr 1
   rw[N4];simp
  ·rw[Bool.not_eq_true,Gb]at hn⊢;intro t ht;exact hn t (BC.1 ht).1
theorem Oz:KQ []:=rfl
theorem Mf(l:List Tm):KQ (PM l):=by
 unfold PM;cases h:CE l with
 |none=>exact Oz
 |some c=>exact Qu h
theorem Nj(a b:List Tm)(p:ByteArray):KQ (Bo a b p).1:=by
 unfold Bo;split
 ·split
  ·rename_i h;exact Qu h
  ·exact Oz
 ·exact Oz
theorem X0{l o:List Tm}(h:cB l=some o):o=l:=by unfold cB at h;split at h<;>cases h;rfl
theorem XK{x:List Rl}{roots:List Rq}{d:List (List Tm)}{i:Nf}{o:List Tm}(h:DP x roots d i=some o):KQ o:=by
 unfold DP at h;split at h
 ·split at h
  ·rw[AS]at h;obtain⟨q,_,rfl⟩:=h;exact Mf _
  ·cases h
 ·split at h
  ·split at h
   ·split at h
    ·cases h
    ·split at h
     ·cases h
     ·rw[X0 h];exact Mf _
   ·cases h
  ·split at h
   ·split at h
    ·rw[X0 h];exact Mf _
    ·cases h
   ·split at h
    ·split at h
     ·split at h
      ·split at h
       ·cases h;exact Nj _ _ _
       ·cases h
      ·cases h
     ·cases h
    ·cases h
theorem M0{x:List Rl}{roots:List Rq}:∀{l:List Nf} {d d' : List (List Tm)},(∀t∈d,KQ t)→CX x roots l d=some d'→∀t∈d',KQ t
 | [],d,d',hd,h=>by cases h;exact hd
 |i::l,d,d',hd,h=>by
  unfold CX at h;split at h
  ·cases h
  ·rename_i o ho;refine M0 (fun t ht=>?_) h;rcases AU.1 ht with ht | ht
   ·exact hd t ht
   ·rw[Am.1 ht];exact XK ho
-- tampering
end Go.Eng
