/- Lemmas for the claims of this seat, without a condition: part 1 (P1, P2, P3, P4, P5, P6, P7). -/
import Derived.Test.YtddfphmpfnmknaaGreatDoorBA00
namespace Go.Eng
def BG(p:Int)(s:Int×Int):Bool:=decide (s.1≤p)&&decide (p<s.2)
def has(s:List (Int×Int))(p:Int):Bool:=decide (0≤p)&&decide (p<1000000)&&s.any (BG p)
abbrev Bi:=List (Int×Int)
def EB(lo:Int):Bi→Prop
 | []=>True
 |y::r=>lo≤y.1∧y.1<y.2∧y.2≤1000000∧EB (y.2+1) r
abbrev Ev(l:Bi):Prop:=EB 0 l
def Va(x:Int×Int):Bi→Bi
 | []=>[x]
 |y::r=>if x.2<y.1 then x::y::r else if y.2<x.1 then y::Va x r else Va (min x.1 y.1,max x.2 y.2) r
def Ha(x:Int×Int):Int×Int:=(max x.1 0,min x.2 1000000)
def canon:Bi→Bi
 | []=>[]
 |x::r=>if(Ha x).1<(Ha x).2 then Va (Ha x) (canon r)else canon r
def KK(at_:Int):Bi→Bi
 | []=>if at_<1000000 then [(at_,1000000)]else []
 |y::r=>if at_<y.1 then(at_,y.1)::KK y.2 r else KK y.2 r
def Ec(s:Bi):Bi:=KK 0 (canon s)
def PI(l:List Bi):Bi:=canon l.flatten
def Pi(l:List Bi):Bi:=Ec (l.map Ec).flatten
def OK(a b:Bi):Bi:=PI [a,b]
def Ok(a b:Bi):Bi:=Pi [a,b]
theorem EB.mono{lo Hs : Int}:∀{l:Bi},EB lo l→Hs≤lo→EB Hs l
 | [],_,_=>trivial
 |_::_,⟨h1,h2,h3,h4⟩,h=>⟨Int.le_trans h h1,h2,h3,h4⟩
theorem EB.low{lo:Int}:∀{l:Bi},EB lo l→∀y∈l,lo≤y.1∧y.1<y.2∧y.2≤1000000
 |y::r,⟨h1,h2,h3,h4⟩,z,hz=>by
  rcases Au.1 hz with rfl | hz
  ·exact⟨h1,h2,h3⟩
  ·have:=h4.low z hz
   exact⟨by omega,this.2.1,this.2.2⟩
theorem DC{p:Int}{s:Int×Int}:BG p s=true↔s.1≤p∧p<s.2:=by simp[BG]
theorem L6{lo:Int}{l:Bi}(h:EB lo l){p:Int}(hp:l.any (BG p)=true):lo≤p:=by
 obtain⟨y,hy,h2⟩:=Bf.1 hp
 have:=h.low y hy
 have:=DC.1 h2
 omega
theorem c9{lo:Int}{l:Bi}(h:EB lo l){p:Int}(hp:l.any (BG p)=true):p<1000000:=by
 obtain⟨y,hy,h2⟩:=Bf.1 hp
 have:=h.low y hy
 have:=DC.1 h2
 omega
theorem MY:∀(l:Bi) {lo:Int} {x:Int×Int},EB lo l→lo≤x.1→x.1<x.2→x.2≤1000000→EB lo (Va x l)
 | [],lo,x,_,h1,h2,h3=>⟨h1,h2,h3,trivial⟩
 |y::r,lo,x,⟨g1,g2,g3,g4⟩,h1,h2,h3=>by
  unfold Va;split
  ·exact⟨h1,h2,h3,by omega,g2,g3,g4⟩
  ·split
   ·exact⟨g1,g2,g3,MY r g4 (by omega) h2 h3⟩
   ·refine MY r (g4.mono (by omega)) ?_ ?_ ?_<;>dsimp only<;>omega
theorem NL:∀(l:Bi) {lo:Int} {x:Int×Int} (p:Int),EB lo l→x.1<x.2→(Va x l).any (BG p)=(BG p x||l.any (BG p))
 | [],lo,x,p,_,_=>by simp[Va]
 |y::r,lo,x,p,⟨g1,g2,g3,g4⟩,h2=>by
  unfold Va;split
  ·simp
  ·split
   ·rw[B6,NL r p g4 h2,B6,←Bool.or_assoc,←Bool.or_assoc,Bool.or_comm (BG p y)]
   ·rw[NL r p g4 (by dsimp only;omega),B6,←Bool.or_assoc]
    congr 1
    simp only[BG];rw[BO];simp only[Af,Cp,Av];omega
theorem Cb:∀s:Bi,Ev (canon s)
 | []=>trivial
 |x::r=>by
  unfold canon;split
  ·rename_i h;refine MY _ (Cb r) ?_ h ?_<;>simp only[Ha]<;>omega
  ·exact Cb r
theorem Kd:∀(s:Bi) (p:Int),(canon s).any (BG p)=has s p
 | [],p=>by simp[has,canon]
 |x::r,p=>by
  have ih:=Kd r p;unfold canon;have hx:BG p (Ha x)=(decide (0≤p)&&decide (p<1000000)&&BG p x):=by
   simp only[BG,Ha];rw[BO];simp only[Af,Av,Int.max_le,Int.lt_min];omega
  split
  ·rename_i h;rw[NL _ p (Cb r) h,ih,hx];simp only[has,B6];cases decide (0≤p)<;>cases decide (p<1000000)<;>simp
  ·rename_i h;rw[ih];simp only[has,B6]
   have:BG p (Ha x)=false:=by
    rw[AK];intro h3
    have:=DC.1 h3
    omega
   rw[this]at hx;cases h1:decide (0≤p)<;>cases h2:decide (p<1000000)<;>simp_all
theorem Ho{l:Bi}(h:Ev l)(p:Int):has l p=l.any (BG p):=by
 unfold has;cases e:l.any (BG p)with
 |false=>simp
 |true=>have h1:0≤p:=L6 h e;have h2:=c9 h e;simp[h1,h2]
theorem G0(s:Bi)(p:Int):has (canon s) p=has s p:=by
 rw[Ho (Cb s),Kd]
theorem MF:∀{a b:Bi} {lo:Int},EB lo a→EB lo b→(∀p,a.any (BG p)=b.any (BG p))→a=b
 | [],[],_,_,_,_=>rfl
 | [],z::s,_,_,⟨g1,g2,g3,g4⟩,h=>by
  have:=h z.1
  rw[B6,DC.2 ⟨BD _,g2⟩]at this;simp at this
 |y::r,[],_,⟨g1,g2,g3,g4⟩,_,h=>by
  have:=h y.1
  rw[B6,DC.2 ⟨BD _,g2⟩]at this;simp at this
 |y::r,z::s,lo,⟨f1,f2,f3,f4⟩,⟨g1,g2,g3,g4⟩,h=>by
  have below:∀{x:Int×Int} {t:Bi} {p:Int},EB (x.2+1) t→(x::t).any (BG p)=true→p≤x.2→x.1≤p∧p<x.2:=fun {x t p} ht hp Hb=>by
   rw[B6,Cp]at hp;rcases hp with hp | hp
   ·exact DC.1 hp
   ·have:=L6 ht hp;omega
  have low:∀{x:Int×Int} {t:Bi} {p:Int},x.1<x.2→EB (x.2+1) t→(x::t).any (BG p)=true→x.1≤p:=fun {x t p} hx ht hp=>by
   rw[B6,Cp]at hp;rcases hp with hp | hp
   ·exact(DC.1 hp).1
   ·have:=L6 ht hp;omega
  have cov:∀{x:Int×Int} {t:Bi} {p:Int},x.1≤p→p<x.2→(x::t).any (BG p)=true:=fun {x t p} h1 h2=>by
   rw[B6,DC.2 ⟨h1,h2⟩,Bool.true_or]
  have e1:y.1=z.1:=by
   have a1:=low f2 f4 ((h z.1).trans (cov (BD _) g2));have a2:=low g2 g4 ((h y.1).symm.trans (cov (BD _) f2));omega
  have e2:y.2=z.2:=by
   rcases Int.lt_trichotomy y.2 z.2 with hl | he | hl
   ·have:=below f4 ((h y.2).trans (cov (by omega) hl)) (BD _);omega
   ·exact he
   ·have:=below g4 ((h z.2).symm.trans (cov (by omega) hl)) (BD _);omega
  have e:y=z:=Prod.ext e1 e2;subst e
  congr 1
  refine MF f4 g4 fun p=>?_;have hp:=h p;simp only[B6]at hp;cases hs:BG p y with
  |false=>rw[hs,Lo,Lo]at hp;exact hp
  |true =>
   have:=DC.1 hs
   have n:∀{t:Bi},EB (y.2+1) t→t.any (BG p)=false:=fun {t} ht=>by
    rw[AK];intro hx;have:=L6 ht hx;omega
   rw[n f4,n g4]
theorem Hi{a b:Bi}(ha:Ev a)(hb:Ev b)(h:∀p,has a p=has b p):a=b :=
 MF ha hb fun p=>by rw[←Ho ha,←Ho hb,h]
theorem Rz{a s:Bi}(ha:Ev a)(h:∀p,has a p=has s p):a=canon s :=
 Hi ha (Cb s) fun p=>by rw[h,G0]
theorem I1{a:Bi}(ha:Ev a):canon a=a:=(Rz ha fun _=>rfl).symm
theorem LD{s:Bi}{p:Int}(h:has s p=true):0≤p∧p<1000000:=by
 unfold has at h;simp only[Af,Av]at h;exact h.1
def Lj(p:Int):Bool:=decide (0≤p)&&decide (p<1000000)
theorem KL:∀(l:Bi) {at_ lo:Int},0≤at_→EB lo l→lo≤at_+1→at_≤lo→EB at_ (KK at_ l)∧∀p,(KK at_ l).any (BG p)=(decide (at_≤p)&&decide (p<1000000)&&!l.any (BG p))
 | [],at_,lo,h0,_,h1,h2=>by
  unfold KK;split
  ·exact⟨⟨BD _,by dsimp only;omega,BD _,trivial⟩,fun p=>by simp[BG]⟩
  ·refine⟨trivial,fun p=>?_⟩
   have:(decide (at_≤p)&&decide (p<1000000))=false:=by
    rw[AK];simp only[UE,Af,Av];omega
   simp[this]
 |y::r,at_,lo,h0,⟨g1,g2,g3,g4⟩,h1,h2=>by
  have ih:=KL r (at_:=y.2) (by omega) g4 (BD _) (by omega);have key:∀p,(decide (at_≤p)&&decide (p<y.1)||(KK y.2 r).any (BG p))=(decide (at_≤p)&&decide (p<1000000)&&!(y::r).any (BG p)):=fun p=>by
   rw[ih.2,B6];cases hr:r.any (BG p)with
   |true =>
    have:=L6 g4 hr
    have a:decide (p<y.1)=false:=AG (by omega);simp[a]
   |false =>
    rw[BO];simp only[BG,Af,Cp,Av,CG,Bool.or_false,Bool.and_eq_false_iff,Jv,Bool.not_false,and_true];omega
  unfold KK;split
  ·rename_i h;refine⟨⟨BD _,h,by dsimp only;omega,ih.1 |> fun c=>?_⟩,fun p=>?_⟩
   ·dsimp only;cases e:KK y.2 r with
    |nil=>trivial
    |cons z s =>
     rw[e]at c;exact⟨by have:=c.1;omega,c.2⟩
   ·rw[B6,←key];rfl
  ·rename_i h;refine⟨ih.1.mono (by omega),fun p=>?_⟩;rw[←key]
   have:(decide (at_≤p)&&decide (p<y.1))=false:=by
    rw[AK];simp only[UE,Af,Av];omega
   rw[this,Lo]
theorem GY(s:Bi):Ev (Ec s):=by
 unfold Ec;exact(KL _ (BD _) (Cb s) (by omega) (BD _)).1
theorem Fv(s:Bi)(p:Int):has (Ec s) p=(Lj p&&!has s p):=by
 rw[Ho (GY s)];unfold Ec;rw[(KL _ (BD _) (Cb s) (by omega) (BD _)).2,Kd];rfl
theorem Ys(a b:Bi)(p:Int):has (a++b) p=(has a p||has b p):=by
 simp only[has,Hd];cases decide (0≤p)<;>cases decide (p<1000000)<;>simp
theorem LC:∀(l:List Bi) (p:Int),has l.flatten p=l.any fun s=>has s p
 | [],p=>by simp[has]
 |s::l,p=>by rw[Bv,Ys,LC l p,B6]
theorem Sa(l:List Bi)(p:Int):has (PI l) p=l.any fun s=>has s p:=by
 unfold PI;rw[G0,LC]
theorem VY(l:List Bi):Ev (PI l):=Cb _
theorem VI(l:List Bi):Ev (Pi l):=GY _
theorem RZ(l:List Bi)(p:Int):has (Pi l) p=(Lj p&&l.all fun s=>has s p):=by
 unfold Pi;rw[Fv,LC,List.any_map];cases h:Lj p with
 |false=>rfl
 |true =>
  rw[Eu,Eu,List.not_any_eq_all_not]
  congr 1
  funext s
  simp[Fv,h]
theorem XP(a b:Bi):Ev (OK a b):=Cb _
theorem Qh(a b:Bi):Ev (Ok a b):=GY _
theorem aX(a b:Bi)(p:Int):has (OK a b) p=(has a p||has b p):=by
 unfold OK;rw[Sa];simp
theorem Up(a b:Bi)(p:Int):has (Ok a b) p=(has a p&&has b p):=by
 unfold Ok;rw[RZ];simp only[List.all_cons,List.all_nil,Bool.and_true];cases h:has a p with
 |false=>simp
 |true=>have:=LD h;simp[Lj,this]
theorem Yz(s:Bi):Ok s s=canon s:=Hi (Qh _ _) (Cb _) fun p=>by rw[Up,G0,Bool.and_self]
theorem TC{s:Bi}:canon s=[]↔∀p,has s p=false:=by
 constructor
 ·intro h p;rw[←G0,h];simp[has]
 ·intro h;exact Hi (Cb s) (b:=[]) trivial fun p=>by rw[G0,h p];simp[has]
theorem Pn{s:Bi}(hs:Ev s):s=[]↔∀p,has s p=false:=by
 rw[←TC,I1 hs]
def cG(l:List Bi)(p:Int):Nat:=l.countP fun s=>has s p
theorem Ry:∀{l:Bi} {lo:Int},EB lo l→lo≤1000000→(l.length:Int)≤1000000-lo
 | [],lo,_,h=>by simp;omega
 |y::r,lo,⟨g1,g2,g3,g4⟩,h=>by
  by_cases h3:y.2+1≤1000000
  ·have:=Ry g4 h3
   simp only[Ax];omega
  ·cases r with
   |nil=>simp;omega
   |cons z s=>have:=g4.1;have:=g4.2.1;have:=g4.2.2.1;omega
theorem HR{l:Bi}(h:Ev l):l.length≤1000000:=by have:=Ry h (by omega);omega
structure Ver where
 (a b c:Int)
structure Rq where
 path:ByteArray
 set:List (Int×Int)
structure Rl where
 path:ByteArray
 ver:Ver
 reqs:List Rq
 (arch ifc cert:ByteArray)
 yanked:Bool
structure Sl where
 path:ByteArray
 ver:Ver
structure Tm where
 path:ByteArray
 absent:Bool
 set:List (Int×Int)
structure Nf where
 kind:Int
 path:ByteArray
 (place number left right:Int)
structure Sk where
 path:ByteArray
 (place inf:Int)
structure An where
 found:Bool
 sel:List Sl
 infs:List Nf
 skips:List Sk
instance:DecidableEq Ver:=fun x y=>decidable_of_iff (x.a=y.a∧x.b=y.b∧x.c=y.c) ⟨fun⟨h1,h2,h3⟩=>by cases x;cases y;simp_all,fun h=>by subst h;exact⟨rfl,rfl,rfl⟩⟩
instance:DecidableEq Sl:=fun x y=>decidable_of_iff (x.path=y.path∧x.ver=y.ver) ⟨fun⟨h1,h2⟩=>by cases x;cases y;simp_all,fun h=>by subst h;exact⟨rfl,rfl⟩⟩
theorem nw{x y:Tm}(h1:x.path=y.path)(h2:x.absent=y.absent)(h3:x.set=y.set):x=y:=by cases x;cases y;simp_all
def okPart(n:Int):Prop:=0≤n∧n≤999
instance (n:Int):Decidable (okPart n):=by unfold okPart;infer_instance
def B8(v:Ver):Bool:=decide (okPart v.a)&&decide (okPart v.b)&&decide (okPart v.c)
def place(v:Ver):Int:=1000*v.b+v.c
def plc(v:Ver):Int:=if B8 v then place v else 0
def BX(s:List Sl)(p:ByteArray):Option Sl:=s.find? fun x=>decide (x.path=p)
def Gr(t:Tm)(s:List Sl):Bool :=
 match s.find? (fun x=>decide (x.path=t.path))with
 |none=>t.absent
 |some x=>B8 x.ver&&has t.set (place x.ver)
def Cv(s:List Sl)(p:ByteArray):Bool:=s.any fun x=>decide (x.path=p)
def Bb(l:List Tm)(s:List Sl):Bool:=l.all fun t=>Gr t s
def Ct(l:List Tm)(s:List Sl):Bool:=Bb l s&&!l.any fun t=>!Cv s t.path
def HU:List UInt8→List UInt8→Bool
 | [],[]=>false
 | [],_::_=>true
 |_::_,[]=>false
 |a::x,b::y=>decide (a<b)||(decide (a=b)&&HU x y)
def En(a b:ByteArray):Bool:=HU a.data.toList b.data.toList
theorem Qk:∀x,HU x x=false
 | []=>rfl
 |a::x=>by
  unfold HU;simp[Qk x]
theorem No:∀{x y z},HU x y=true→HU y z=true→HU x z=true
 | [],[],_,h,_=>by simp[HU]at h
 | [],_::_,[],_,h=>by simp[HU]at h
 | [],_::_,_::_,_,_=>rfl
 |_::_,[],_,h,_=>by simp[HU]at h
 |_::_,_::_,[],_,h=>by simp[HU]at h
 |a::x,b::y,c::z,h1,h2=>by
  unfold HU at *
  simp only[Cp,Af,Av]at *
  rcases h1 with h1 | ⟨rfl,h1⟩
  ·rcases h2 with h2 | ⟨rfl,h2⟩
   ·exact .inl (UInt8.lt_trans h1 h2)
   ·exact .inl h1
  ·rcases h2 with h2 | ⟨rfl,h2⟩
   ·exact .inl h2
   ·exact .inr ⟨rfl,No h1 h2⟩
theorem SA:∀{x y},HU x y=false→HU y x=false→x=y
 | [],[],_,_=>rfl
 | [],_::_,h,_=>by simp[HU]at h
 |_::_,[],_,h=>by simp[HU]at h
 |a::x,b::y,h1,h2=>by
  unfold HU at *
  simp only[Bool.or_eq_false_iff,Bool.and_eq_false_iff,Jv]at *
  have e:a=b:=by
   have l1:=UInt8.not_lt.1 h1.1;have l2:=UInt8.not_lt.1 h2.1;exact UInt8.le_antisymm l2 l1
  subst e
  have:=SA (x:=x) (y:=y) (by simpa using h1.2) (by simpa using h2.2)
  rw[this]
theorem so{a b:ByteArray}(h:a.data.toList=b.data.toList):a=b:=by
 cases a;cases b;simp only[ByteArray.mk.injEq];exact Ir.1 h
theorem CO(a:ByteArray):En a a=false:=Qk _
theorem DM{a b c:ByteArray}(h:En a b=true)(k:En b c=true):En a c=true:=No h k
theorem Hh{a b:ByteArray}(h:En a b=false)(k:En b a=false):a=b:=so (SA h k)
theorem HQ{a b:ByteArray}(h:En a b=true):a≠b:=fun e=>by subst e;rw[CO]at h;cases h
theorem L8{a b:ByteArray}(h:En a b=true):En b a=false:=by
 rw[AK];intro k;have:=DM h k;rw[CO]at this;cases this
def K4(t:Tm):Tm:=⟨t.path,t.absent,canon t.set⟩
def GC(u t:Tm):Tm:=⟨u.path,u.absent&&t.absent,Ok u.set t.set⟩
def Ni(t:Tm):List Tm→List Tm
 | []=>[K4 t]
 |u::r=>if En u.path t.path then u::Ni t r else if u.path=t.path then GC u t::r else K4 t::u::r
def EO(l:List Tm):List Tm:=l.foldl (fun acc t=>Ni t acc) []
def Hw(t:Tm):Bool:=!t.absent&&t.set.isEmpty
def Gg(t:Tm):Bool:=t.absent&&decide (t.set=[(0,1000000)])
def CE(l:List Tm):Option (List Tm):=if(EO l).any Hw then none else some ((EO l).filter fun t=>!Gg t)
def Po(l:List Tm):List Tm:=(CE l).getD []
def Dw(q:Rq):Tm:=⟨q.path,true,Ec q.set⟩
def Jg(q:Rq):List Tm:=Po [Dw q]
def Eb(path:ByteArray)(pl:Int)(q:Rq):List Tm:=Po [⟨path,false,[(pl,pl+1)]⟩,Dw q]
def HM(path:ByteArray)(oC:Bi):List Tm:=Po [⟨path,false,Ec oC⟩]
def Db(l:List Tm)(p:ByteArray):Option Tm:=l.find? fun t=>decide (t.path=p)
def FA(l:List Tm)(p:ByteArray):List Tm:=l.filter fun t=>!decide (t.path=p)
def C3(a b:Tm):Tm:=⟨a.path,a.absent||b.absent,OK a.set b.set⟩
def Fc(l:List Tm)(p:ByteArray):Option (Tm×List Tm):=match CE l with
 |none=>none
 |some c=>match Db c p with
  |none=>none
  |some t=>some (t,FA c p)
def Bq(a b:List Tm)(p:ByteArray):List Tm×Int :=
 match Fc a p,Fc b p with
 |some (t,r),some (u,m)=>match CE (r++m++[C3 t u])with
  |some o=>(o,0)
  |none=>([],8)
 |_,_=>([],1)
def B5(lo:Option ByteArray):List Tm→Prop
 | []=>True
 |t::r=>(∀p,lo=some p→En p t.path=true)∧Ev t.set∧B5 (some t.path) r
theorem B5.weak{lo:Option ByteArray}:∀{l:List Tm},B5 lo l→B5 none l
 | [],_=>trivial
 |_::_,⟨_,h2,h3⟩=>⟨fun _ h=>(by cases h),h2,h3⟩
theorem B5.low{p:ByteArray}:∀{l:List Tm},B5 (some p) l→∀t∈l,En p t.path=true
 |t::r,⟨h1,h2,h3⟩,u,hu=>by
  rcases Au.1 hu with rfl | hu
  ·exact h1 p rfl
  ·exact DM (h1 p rfl) (h3.low u hu)
theorem B5.canon{lo:Option ByteArray}:∀{l:List Tm},B5 lo l→∀t∈l,Ev t.set
 |t::r,⟨h1,h2,h3⟩,u,hu=>by
  rcases Au.1 hu with rfl | hu
  ·exact h2
  ·exact h3.canon u hu
theorem B5.mono{p q:ByteArray}:∀{l:List Tm},B5 (some p) l→En q p=true→B5 (some q) l
 | [],_,_=>trivial
 |t::r,⟨h1,h2,h3⟩,h=>⟨fun _ e=>by cases e;exact DM h (h1 p rfl),h2,h3⟩
theorem LJ:∀{l:List Tm} {lo:Option ByteArray} (t:Tm),B5 lo l→(∀p,lo=some p→En p t.path=true)→B5 lo (Ni t l)
 | [],lo,t,_,h=>⟨h,Cb _,trivial⟩
 |u::r,lo,t,⟨h1,h2,h3⟩,h=>by
  unfold Ni;split
  ·rename_i Ds;exact⟨h1,h2,LJ t h3 fun p e=>by cases e;exact Ds⟩
  ·rename_i Ds;split
   ·rename_i he;exact⟨h1,Qh _ _,h3⟩
   ·rename_i he;refine⟨h,Cb _,fun p e=>?_,h2,h3⟩;cases e
    have:En u.path t.path=false:=by simpa using Ds
    cases hb:En t.path u.path with
    |true=>exact hb
    |false=>exact absurd (Hh this hb) he
theorem Oa:∀(l acc:List Tm),B5 none acc→B5 none (l.foldl (fun acc t=>Ni t acc) acc)
 | [],_,h=>h
 |t::l,acc,h=>Oa l _ (LJ t h fun _ e=>by cases e)
theorem Eg(l:List Tm):B5 none (EO l):=Oa l [] trivial
theorem CA(t:Tm)(r:List Tm)(p:ByteArray):Db (t::r) p=if t.path=p then some t else Db r p:=by
 unfold Db;rw[ED];by_cases h:t.path=p<;>simp[h]
theorem Hj{p q:ByteArray}{l:List Tm}(h:B5 (some p) l)(hq:En p q=false):Db l q=none:=by
 unfold Db;rw[DL];intro t ht
 have:=h.low t ht
 simp only[Av];intro e;subst e;rw[hq]at this;cases this
def Nu(o:Option Tm)(t:Tm):Tm:=match o with | none=>K4 t | some u=>GC u t
theorem Pr(o:Option Tm)(t:Tm)(h:∀u,o=some u→u.path=t.path):(Nu o t).path=t.path:=by
 cases o with
 |none=>rfl
 |some u=>exact h u rfl
theorem GO{l:List Tm}{p:ByteArray}{u:Tm}(h:Db l p=some u):u.path=p:=by
 have:=EE h;simpa using this
theorem EY{l:List Tm}{p:ByteArray}{u:Tm}(h:Db l p=some u):u∈l:=Cg h
theorem RP:∀{l:List Tm} {lo:Option ByteArray} (t:Tm) (p:ByteArray),B5 lo l→Db (Ni t l) p=if t.path=p then some (Nu (Db l p) t)else Db l p
 | [],lo,t,p,_=>by
  unfold Ni;rw[CA];show(if t.path=p then some (K4 t)else none)=_
  by_cases h:t.path=p<;>simp[h,Db,Nu]
 |u::r,lo,t,p,⟨h1,h2,h3⟩=>by
  unfold Ni;split
  ·rename_i Ds;rw[CA,CA,RP t p h3]
   by_cases hu:u.path=p
   ·have:¬t.path=p:=fun e=>HQ Ds (hu.trans e.symm)
    simp[hu,this]
   ·simp[hu]
  ·rename_i Ds;split
   ·rename_i he;rw[CA,CA];show(if u.path=p then some (GC u t)else _)=_
    by_cases hu:u.path=p
    ·simp[hu,he▸hu,Nu]
    ·have:¬t.path=p:=fun e=>hu (he.trans e)
     simp[hu,this]
   ·rename_i he;rw[CA];show(if t.path=p then some (K4 t)else _)=_
    by_cases ht:t.path=p
    ·have hn:Db (u::r) p=none:=by
      rw[CA];have hu:¬u.path=p:=fun e=>he (e.trans ht.symm);simp only[hu,F7];exact Hj h3 (by subst ht;simpa using Ds)
     simp[ht,hn,Nu]
    ·simp[ht]
def JG(p:ByteArray)(o:Option Tm)(t:Tm):Option Tm:=if t.path=p then some (Nu o t)else o
theorem P0(p:ByteArray):∀(l acc:List Tm),B5 none acc→Db (l.foldl (fun acc t=>Ni t acc) acc) p=l.foldl (JG p) (Db acc p)
 | [],_,_=>rfl
 |t::l,acc,h=>by
  rw[D7,P0 p l _ (LJ t h fun _ e=>by cases e),RP t p h];rfl
theorem IM(l:List Tm)(p:ByteArray):Db (EO l) p=l.foldl (JG p) none:=P0 p l [] trivial
theorem L3:∀{a b:List Tm} {lo:Option ByteArray},B5 lo a→B5 lo b→(∀p,Db a p=Db b p)→a=b
 | [],[],_,_,_,_=>rfl
 | [],z::s,_,_,_,h=>by have:=h z.path;rw[CA,Ao rfl]at this;cases this
 |z::s,[],_,_,_,h=>by have:=h z.path;rw[CA,Ao rfl]at this;cases this
 |y::r,z::s,lo,⟨f1,f2,f3⟩,⟨g1,g2,g3⟩,h=>by
  have e:y=z:=by
   have a1:=h y.path;have a2:=h z.path;rw[CA,Ao rfl,CA]at a1;rw[CA,CA z,Ao rfl]at a2
   by_cases e:z.path=y.path
   ·rw[Ao e]at a1;exact B2 a1
   ·rw[Ai e]at a1;rw[Ai (fun c=>e c.symm)]at a2;have b1:=B5.low g3 y (EY a1.symm);have b2:=B5.low f3 z (EY a2)
    have:=DM b1 b2
    rw[CO]at this;cases this
  subst e
  congr 1
  refine L3 f3 g3 fun p=>?_;have hp:=h p;rw[CA,CA]at hp
  by_cases e:y.path=p
  ·subst e;rw[Hj f3 (CO _),Hj g3 (CO _)]
  ·simpa[e]using hp
theorem B5.filter(q:Tm→Bool):∀{l:List Tm} {lo:Option ByteArray},B5 lo l→B5 lo (l.filter q)
 | [],_,_=>trivial
 |t::r,lo,⟨h1,h2,h3⟩=>by
  have ih:=B5.filter q h3;rw[CT];split
  ·exact⟨h1,h2,ih⟩
  ·cases lo with
   |none=>exact ih.weak
   |some p=>exact ih.mono (h1 p rfl)
theorem Fu{l:List Tm}{lo:Option ByteArray}{t:Tm}(h:B5 lo l):t∈l↔Db l t.path=some t:=by
 constructor
 ·induction l generalizing lo with
  |nil=>intro h;cases h
  |cons u r ih =>
   intro ht;rw[CA];rcases Au.1 ht with rfl | ht
   ·rw[Ao rfl]
   ·have:=B5.low h.2.2 t ht
    rw[Ai (HQ this)];exact ih h.2.2 ht
 ·exact EY
def Da(t:Tm)(o:Option Sl):Bool:=match o with | none=>t.absent | some x=>B8 x.ver&&has t.set (place x.ver)
theorem eK(t:Tm)(s:List Sl):Gr t s=Da t (BX s t.path):=by
 unfold Gr Da BX;rfl
theorem Lx{s:List Sl}{p:ByteArray}{x:Sl}(h:BX s p=some x):x.path=p:=by
 have:=EE h;simpa using this
theorem I3{s:List Sl}{p:ByteArray}{x:Sl}(h:BX s p=some x):x∈s:=Cg h
theorem Jx{s:List Sl}{p:ByteArray}:Cv s p=(BX s p).isSome:=by
 unfold Cv BX;rw[BO,List.find?_isSome,Bf]
theorem Yw(t:Tm)(o:Option Sl):Da (K4 t) o=Da t o:=by
 unfold Da K4;cases o<;>simp[G0]
theorem W6(u t:Tm)(o:Option Sl):Da (GC u t) o=(Da u o&&Da t o):=by
 unfold Da GC;cases o with
 |none=>rfl
 |some x=>simp only[Up];cases B8 x.ver<;>simp
theorem MO(u t:Tm)(o:Option Sl):Da (C3 u t) o=(Da u o||Da t o):=by
 unfold Da C3;cases o with
 |none=>rfl
 |some x=>simp only[aX];cases B8 x.ver<;>simp
def Ty(p:ByteArray)(o:Option Sl)(l:List Tm):Bool:=l.all fun t=>!decide (t.path=p)||Da t o
theorem Jw(p:ByteArray)(o:Option Sl):∀(l:List Tm) (a:Option Tm),(∀u,a=some u→u.path=p) →
  (l.foldl (JG p) a=none↔a=none∧l.all (fun t=>!decide (t.path=p))=true)∧(∀u,l.foldl (JG p) a=some u→u.path=p∧Da u o=((match a with | none=>true | some b=>Da b o)&&Ty p o l))
 | [],a,ha=>by
  refine⟨by simp,fun u h=>?_⟩;have h:a=some u:=h;subst h;exact⟨ha u rfl,by simp[Ty]⟩
 |t::l,a,ha=>by
  rw[D7]
  by_cases e:t.path=p
  ·have hs:JG p a t=some (Nu a t):=by unfold JG;rw[Ao e]
   rw[hs];have ih:=Jw p o l (some (Nu a t)) (fun u h=>by cases h;rw[Pr a t fun u h=>(ha u h).trans e.symm];exact e);refine⟨⟨fun h=>?_,fun h=>?_⟩,fun u h=>?_⟩
   ·have:=ih.1.1 h;cases this.1
   ·simp[e]at h
   ·obtain⟨h1,h2⟩:=ih.2 u h;refine⟨h1,?_⟩;rw[h2]
    have:Ty p o (t::l)=(Da t o&&Ty p o l):=by simp[Ty,e]
    rw[this];cases a with
    |none=>simp[Nu,Yw]
    |some b=>simp[Nu,W6,Bool.and_assoc]
  ·have hs:JG p a t=a:=by unfold JG;rw[Ai e]
   rw[hs];have ih:=Jw p o l a ha
   have:Ty p o (t::l)=Ty p o l:=by simp[Ty,e]
   rw[this];refine⟨?_,ih.2⟩;rw[ih.1];simp[e]
theorem Bx{l:List Tm}{s:List Sl}:Bb l s=true↔∀t∈l,Da t (BX s t.path)=true:=by
 unfold Bb;rw[Bs];simp only[eK]
theorem Lb(l:List Tm)(s:List Sl):Bb (EO l) s=Bb l s:=by
 rw[BO,Bx,Bx];constructor
 ·intro h t ht
  have:=Jw t.path (BX s t.path) l none (fun _ e=>by cases e)
  rw[←IM]at this;cases e:Db (EO l) t.path with
  |none =>
   have:=(this.1.1 e).2
   rw[Bs]at this
   have:=this t ht
   simp at this
  |some u =>
   obtain⟨h1,h2⟩:=this.2 u e;have hu:=h u (EY e);rw[h1,h2]at hu;simp only[Eu,Ty,Bs]at hu
   have:=hu t ht
   simpa using this
 ·intro h u hu;have e:=(Fu (Eg l)).1 hu
  have:=Jw u.path (BX s u.path) l none (fun _ e=>by cases e)
  rw[←IM]at this;obtain⟨h1,h2⟩:=this.2 u e;rw[h2];simp only[Eu,Ty,Bs];intro t ht
  by_cases e:t.path=u.path
  ·have:=h t ht;rw[e]at this;simp[this]
  ·simp[e]
theorem YI{t:Tm}(h:Hw t=true)(o:Option Sl):Da t o=false:=by
 unfold Hw at h;simp only[Af,CG,GA]at h;unfold Da;cases o with
 |none=>exact h.1
 |some x=>dsimp only;rw[h.2];simp[has]
def FV(s:List Sl):Prop:=∀x∈s,B8 x.ver=true
theorem JH{v:Ver}(h:B8 v=true):0≤v.a∧v.a≤999∧0≤v.b∧v.b≤999∧0≤v.c∧v.c≤999:=by
 unfold B8 at h;simp only[Af]at h;obtain⟨⟨a,b⟩,c⟩:=h;obtain⟨a1,a2⟩:=A8 a;obtain⟨b1,b2⟩:=A8 b;obtain⟨c1,c2⟩:=A8 c;exact⟨a1,a2,b1,b2,c1,c2⟩
theorem Je{v:Ver}(h:B8 v=true):0≤place v∧place v<1000000:=by
 have:=JH h;unfold place;omega
theorem Tz{t:Tm}(h:Gg t=true){s:List Sl}(hs:FV s):Da t (BX s t.path)=true:=by
 unfold Gg at h;simp only[Af,Av]at h;unfold Da;cases e:BX s t.path with
 |none=>exact h.1
 |some x =>
  have:=hs x (I3 e)
  have hp:=Je this;dsimp only;rw[this,h.2];simp[has,BG,hp]
theorem CN{l:List Tm}{s:List Sl}(hs:FV s):Bb l s=(match CE l with | none=>false | some c=>Bb c s):=by
 unfold CE;split
 ·rename_i h;split at h
  ·rename_i hn;rw[←Lb,AK];intro hv;rw[Bx]at hv;obtain⟨t,ht,hn⟩:=Bf.1 hn
   have:=hv t ht
   rw[YI hn]at this;cases this
  ·cases h
 ·rename_i c h;split at h
  ·cases h
  ·rename_i hn;cases h;rw[←Lb,BO,Bx,Bx];constructor
   ·intro h t ht;exact h t (BI.1 ht).1
   ·intro h t ht;cases ha:Gg t with
    |true=>exact Tz ha hs
    |false=>exact h t (BI.2 ⟨ht,by simp[ha]⟩)
theorem GK(a b:List Tm)(s:List Sl):Bb (a++b) s=(Bb a s&&Bb b s):=by unfold Bb;rw[List.all_append]
theorem EF{l c:List Tm}(h:CE l=some c):B5 none c:=by
 unfold CE at h;split at h
 ·cases h
 ·cases h;exact B5.filter _ (Eg l)
theorem Fz{l r:List Tm}{p:ByteArray}{t:Tm}{s:List Sl}(hs:FV s)(h:Fc l p=some (t,r)):Bb l s=(Da t (BX s p)&&Bb r s)∧t.path=p:=by
 unfold Fc at h;cases hc:CE l with
 |none=>rw[hc]at h;cases h
 |some c =>
  rw[hc]at h;dsimp only at h;cases hf:Db c p with
  |none=>rw[hf]at h;cases h
  |some u =>
   rw[hf]at h;cases h;have hp:=GO hf;refine⟨?_,hp⟩;rw[CN hs,hc];dsimp only;rw[BO,Af,Bx,Bx];constructor
   ·intro h
    have:=h t (EY hf)
    rw[hp]at this;exact⟨this,fun v hv=>h v (BI.1 hv).1⟩
   ·intro⟨h1,h2⟩ v hv
    by_cases e:v.path=p
    ·have:=(Fu (EF hc)).1 hv
     rw[e,hf]at this;cases this;rw[e];exact h1
    ·exact h2 v (BI.2 ⟨hv,by simp[e]⟩)
theorem SZ{a b o:List Tm}{p:ByteArray}{s:List Sl}(hs:FV s)(h:Bq a b p=(o,0))(hv:Bb o s=true):Bb a s=true∨Bb b s=true:=by
 unfold Bq at h;cases h1:Fc a p with
 |none=>rw[h1]at h;simp at h
 |some x =>
  cases h2:Fc b p with
  |none=>rw[h1,h2]at h;simp at h
  |some y =>
   obtain⟨t,r⟩:=x;obtain⟨u,m⟩:=y;rw[h1,h2]at h;dsimp only at h;cases hc:CE (r++m++[C3 t u])with
   |none=>rw[hc]at h;simp at h
   |some c =>
    rw[hc]at h
    have:c=o:=by simpa using h
    subst this;have e:=CN (l:=r++m++[C3 t u]) hs;rw[hc]at e;dsimp only at e;rw[hv,GK,GK]at e;simp only[Af]at e;obtain⟨⟨e1,e2⟩,e3⟩:=e;obtain⟨va,pa⟩:=Fz hs h1;obtain⟨vb,pb⟩:=Fz hs h2;have e3:=Bx.1 e3 _ (Ak.2 rfl)
    have:(C3 t u).path=p:=pa
    rw[this,MO,Cp]at e3;rcases e3 with e3 | e3
    ·exact .inl (by rw[va,e3,e1];rfl)
    ·exact .inr (by rw[vb,e3,e2];rfl)
theorem Pp{l:List Tm}{s:List Sl}(hs:FV s)(Dt:Po l≠[]):Bb (Po l) s=Bb l s:=by
 have:=CN (l:=l) hs
 unfold Po at *
 cases h:CE l with
 |none=>rw[h]at Dt;exact absurd rfl Dt
 |some c=>rw[h]at this;exact this.symm
-- paths
def GR(c:UInt8):Bool:=decide (97≤c)&&decide (c≤122)
def Vk(c:UInt8):Bool:=decide (65≤c)&&decide (c≤90)
def EN(c:UInt8):Bool:=decide (48≤c)&&decide (c≤57)
def L4(c:UInt8):Bool:=GR c||Vk c||EN c||decide (c=95)
def ft:List UInt8:=[32,97,110,100,32,97,110,121,32,97,115,32,98,111,111,108,32,100,101,112,114,101,99,97,116,101,100,32,101,108,115,101,32,101,120,112,111,114,116,32,102,97,108,115,101,32,102,110,32,102,111,108,100,32,102,114,111,109,32,105,102,32,105,109,112,111,114,116,32,105,110,32,105,110,116,32,108,101,110,103,116,104,32,108,101,116,32,108,105,115,116,32,109,97,116,99,104,32,109,111,100,117,108,101,32,110,111,110,101,32,110,111,116,32,111,114,32,116,101,120,116,32,116,104,101,110,32,116,114,117,101,32,116,121,112,101,32,117,115,101,32]
def cc:List UInt8→List UInt8→Bool
 | [],_=>true
 |_::_,[]=>false
 |a::x,b::y=>decide (a=b)&&cc x y
def rU(x:List UInt8):List UInt8→Bool
 | []=>cc x []
 |b::y=>cc x (b::y)||rU x y
def YB(s:List UInt8):Bool:=rU (32::(s++[32])) ft
def H4(s:List UInt8):Bool:=!s.isEmpty&&decide (s.length≤32)&&GR (s.headD 0)&&s.all L4&&!YB s
def LW(s:List UInt8):Bool:=H4 s&&s.all fun c=>GR c||EN c
def Gl(s:List UInt8):Int:=s.foldl (fun n c=>10*n+((c.toNat:Int)-48)) 0
def Ln(s:List UInt8):Option Int:=match s with
 |c::r=>if c=118 then(if r.isEmpty||decide (3<r.length)||(decide (1<r.length)&&decide (r.headD 0=48))||!r.all EN then none else some (Gl r))else none
 | []=>none
def Fb(c:UInt8):List UInt8→List (List UInt8)
 | []=>[[]]
 |b::r=>if b=c then []::Fb c r else match Fb c r with
  | []=>[[b]]
  |x::l=>(b::x)::l
def YF(p:List UInt8):Option Int:=match Ln ((Fb 47 p).getLastD [])with
 |none=>none
 |some n=>if 64<p.length||(Fb 47 p).length<2 then none else if(Fb 47 p).all LW then some n else none
def CC(p:ByteArray):Option Int:=YF p.data.toList
-- indexes
def Gw(before:Option ByteArray)(q:Rq):Int :=
 if(CC q.path).isNone then 4 else if q.set.isEmpty||!decide (q.set=canon q.set)||(match before with | some b=>!En b q.path | none=>false)then 1 else 0
def FF(before:Option ByteArray):List Rq→Int
 | []=>0
 |q::r=>if Gw before q=0 then FF (some q.path) r else Gw before q
def BL(l:List Rq):Int:=if 16<l.length then 7 else FF none l
def EM(s:ByteArray):Bool:=decide (s.size=0)||decide (s.size=32)
def DN(r:Rl):Int:=match CC r.path with
 |none=>4
 |some m=>if !B8 r.ver||!decide (r.ver.a=m)then 2 else if BL r.reqs≠0 then BL r.reqs else if EM r.arch&&EM r.ifc&&EM r.cert then 0 else 1
def FG(a b:Int):Int:=if a<b then -1 else if b<a then 1 else 0
def JL(a b:ByteArray):Int:=if En a b then -1 else if En b a then 1 else 0
def NU(a b:Ver):Int:=if FG a.a b.a≠0 then FG a.a b.a else if FG a.b b.b≠0 then FG a.b b.b else FG a.c b.c
def DF(a b:Rl):Int:=if JL a.path b.path≠0 then JL a.path b.path else NU a.ver b.ver
def FJ(r:Rl):Sl:=⟨r.path,r.ver⟩
def Ep(before:Option Rl):List Rl→Int
 | []=>0
 |r::l=>if DN r≠0 then DN r else match before with
  |none=>Ep (some r) l
  |some b=>if FJ b=FJ r then 5 else if 0<DF b r then 1 else Ep (some r) l
def AX(l:List Rl):Int:=if 256<l.length then 7 else Ep none l
def DV(x:List Rl)(y:Sl):Option Rl:=if AX x≠0 then none else x.find? fun r=>decide (FJ r=y)
def JV(x:List Rl)(p:ByteArray):List Rl:=if AX x≠0 then []else x.filter fun r=>decide (r.path=p)
def BZ(x:List Rl)(p:ByteArray):Bi:=canon (((JV x p).filter fun r=>!r.yanked).map fun r=>(plc r.ver,plc r.ver+1))
def Sm(before:Option ByteArray):List Sl→Bool
 | []=>true
 |y::r=>(match before with |some b=>En b y.path |none=>true)&&Sm (some y.path) r
def FI(s:List Sl):Bool:=Sm none s
-- solutions
-- derivations
def OA(x:List Rl)(p:ByteArray)(pl:Int):Option Rl:=x.find? fun r=>decide (r.path=p)&&decide (plc r.ver=pl)
def mt:ByteArray:=⟨#[]⟩
def Jc{α:Type}(l:List α)(i:Int):Option α:=if i<0 then none else l[i.toNat]?
def bC(l:List Tm):Option (List Tm):=if l.isEmpty then none else some l
def DK(x:List Rl)(roots:List Rq)(d:List (List Tm))(i:Nf):Option (List Tm) :=
 if i.kind=0 then
  if i.path=mt∧i.place=0∧i.left=0∧i.right=0 then(Jc roots i.number).map Jg else none
 else if i.kind=1 then
  if i.left=0∧i.right=0 then match OA x i.path i.place with
   |none=>none
   |some r=>match Jc r.reqs i.number with
    |none=>none
    |some q=>bC (Eb i.path i.place q)
  else none
 else if i.kind=2 then
  if i.place=0∧i.number=0∧i.left=0∧i.right=0 then bC (HM i.path (BZ x i.path))else none
 else if i.kind=3 then
  if i.place=0∧i.number=0 then match Jc d i.left,Jc d i.right with
   |some a,some b=>if(Bq a b i.path).2=0 then some (Bq a b i.path).1 else none
   |_,_=>none
  else none
 else none
def CX(x:List Rl)(roots:List Rq):List Nf→List (List Tm)→Option (List (List Tm))
 | [],d=>some d
 |i::l,d=>match DK x roots d i with
  |none=>none
  |some t=>CX x roots l (d++[t])
-- decisions
def Dm(before:List Sl):List Rq→Option ByteArray→Option ByteArray
 | [],acc=>acc
 |q::l,acc=>Dm before l (if Cv before q.path then acc else match acc with
  |none=>some q.path
  |some p=>if En q.path p then some q.path else some p)
def Ko(needs:List Rq)(before:List Sl):Option ByteArray:=Dm before needs none
structure xY where
 before:List Sl
 needs:List Rq
 rel:Rl
-- answers
-- the example
-- the order of releases
theorem Ke{a b:Int}(h:FG a b=0):a=b:=by
 unfold FG at h;split at h
 ·cases h
 ·split at h
  ·cases h
  ·omega
theorem Vn{a b:Int}(h:FG a b<0):a<b:=by
 unfold FG at h;split at h
 ·assumption
 ·split at h<;>omega
theorem Uh{a b:ByteArray}(h:JL a b=0):a=b:=by
 unfold JL at h;cases h1:En a b with
 |true=>rw[h1]at h;simp at h
 |false =>
  cases h2:En b a with
  |true=>rw[h1,h2]at h;simp at h
  |false=>exact Hh h1 h2
theorem iO{a b:ByteArray}(h:JL a b<0):En a b=true:=by
 unfold JL at h;cases h1:En a b with
 |true=>rfl
 |false=>rw[h1]at h;cases h2:En b a<;>rw[h2]at h<;>simp at h
def fB(a b:Ver):Prop:=a.a<b.a∨(a.a=b.a∧(a.b<b.b∨(a.b=b.b∧a.c<b.c)))
def Zz(a b:Rl):Prop:=En a.path b.path=true∨(a.path=b.path∧fB a.ver b.ver)
theorem Zd{a b:Ver}(h:NU a b<0):fB a b:=by
 unfold NU at h;split at h
 ·exact .inl (Vn h)
 ·rename_i h1;have h1:=Ke (Cm.1 h1);split at h
  ·exact .inr ⟨h1,.inl (Vn h)⟩
  ·rename_i h2;exact .inr ⟨h1,.inr ⟨Ke (Cm.1 h2),Vn h⟩⟩
theorem aI{a b:Ver}(h:NU a b=0):a=b:=by
 unfold NU at h;split at h
 ·rename_i h1;exact absurd h h1
 ·rename_i h1;have h1:=Ke (Cm.1 h1);split at h
  ·rename_i h2;exact absurd h h2
  ·rename_i h2;have h2:=Ke (Cm.1 h2);have h3:=Ke h;cases a;cases b;simp_all
theorem aH{a b:Rl}(h:DF a b=0):FJ a=FJ b:=by
 unfold DF at h;split at h
 ·rename_i h1;exact absurd h h1
 ·rename_i h1;have h1:=Uh (Cm.1 h1);have h2:=aI h;unfold FJ;rw[h1,h2]
theorem iP{a b:Rl}(h:DF a b<0):Zz a b:=by
 unfold DF at h;split at h
 ·exact .inl (iO h)
 ·rename_i h1;exact .inr ⟨Uh (Cm.1 h1),Zd h⟩
theorem bA{a b c:Ver}(h:fB a b)(k:fB b c):fB a c:=by unfold fB at *;omega
theorem UB{a b c:Rl}(h:Zz a b)(k:Zz b c):Zz a c:=by
 rcases h with h | ⟨h1,h2⟩
 ·rcases k with k | ⟨k1,k2⟩
  ·exact .inl (DM h k)
  ·exact .inl (k1▸h)
 ·rcases k with k | ⟨k1,k2⟩
  ·exact .inl (h1▸k)
  ·exact .inr ⟨h1.trans k1,bA h2 k2⟩
theorem HX{a b:Rl}(h:Zz a b)(k:FJ a=FJ b):False:=by
 unfold FJ at k;simp only[Sl.mk.injEq]at k;rcases h with h | ⟨_,h⟩
 ·rw[k.1,CO]at h;cases h
 ·rw[k.2]at h;unfold fB at h;omega
-- a valid index
structure OR(r:Rl):Prop where
 maj:CC r.path=some r.ver.a
 val:B8 r.ver=true
 reqs:BL r.reqs=0
theorem Ya{r:Rl}(h:DN r=0):OR r:=by
 unfold DN at h;split at h
 ·cases h
 ·rename_i m hm;split at h
  ·cases h
  ·rename_i h1;split at h
   ·rename_i h2;exact absurd h h2
   ·rename_i h2;simp only[Cp,CG,Jv,not_or,Cm]at h1;refine⟨by rw[hm,h1.2],by simpa using h1.1,Cm.1 h2⟩
theorem KH:∀{l:List Rl} {b:Option Rl},Ep b l=0→(∀r∈l,OR r)∧(l.Pairwise Zz∧∀c,b=some c→∀r∈l,Zz c r)
 | [],b,_=>⟨fun _ h=>(by cases h),.nil,fun _ _ _ h=>(by cases h)⟩
 |r::l,b,h=>by
  unfold Ep at h;split at h
  ·rename_i h1;exact absurd h h1
  ·rename_i h1;have hr:=Ya (Cm.1 h1);have go:Ep (some r) l=0→(∀c,b=some c→Zz c r)→(∀z∈r::l,OR z)∧((r::l).Pairwise Zz∧∀c,b=some c→∀z∈r::l,Zz c z):=fun h hc=>by
    obtain⟨i1,i2,i3⟩:=KH h;refine⟨fun z hz=>?_,.cons (i3 r rfl) i2,fun c e z hz=>?_⟩
    ·rcases Au.1 hz with rfl | hz
     ·exact hr
     ·exact i1 z hz
    ·rcases Au.1 hz with rfl | hz
     ·exact hc c e
     ·exact UB (hc c e) (i3 r rfl z hz)
   cases b with
   |none=>exact go h fun _ e=>by cases e
   |some b =>
    dsimp only at h;split at h
    ·cases h
    ·rename_i hk;split at h
     ·cases h
     ·rename_i hc;refine go h fun c e=>?_;cases e;refine iP ?_
      have:DF b r≠0:=fun e=>hk (aH e)
      omega
theorem Cc{l:List Rl}(h:AX l=0):(∀r∈l,OR r)∧l.Pairwise Zz:=by
 unfold AX at h;split at h
 ·cases h
 ·exact⟨(KH h).1,(KH h).2.1⟩
theorem Sv{l:List Rl}(h:l.Pairwise Zz){a b:Rl}(ha:a∈l)(hb:b∈l)(hk:FJ a=FJ b):a=b:=by
 induction h with
 |nil=>cases ha
 |cons h1 h2 ih =>
  rcases Au.1 ha with e1 | ha
  ·rcases Au.1 hb with e2 | hb
   ·exact e1.trans e2.symm
   ·exact(HX (e1▸h1 b hb) hk).elim
  ·rcases Au.1 hb with e2 | hb
   ·exact(HX (e2▸h1 a ha) hk.symm).elim
   ·exact ih ha hb
theorem Wb{a b:Ver}(ha:B8 a=true)(hb:B8 b=true)(h1:a.a=b.a)(h2:place a=place b):a=b:=by
 have:=JH ha
 have:=JH hb
 unfold place at h2;have e1:a.b=b.b:=by omega
 have e2:a.c=b.c:=by omega
 cases a;cases b;simp_all
theorem OR.plc{r:Rl}(h:OR r):plc r.ver=place r.ver:=by unfold Go.Eng.plc;rw[h.val];rfl
theorem ZU{l:List Rl}(h:(∀r∈l,OR r)∧l.Pairwise Zz){a b:Rl}(ha:a∈l)(hb:b∈l)(h1:a.path=b.path)(h2:place a.ver=place b.ver):a=b:=by
 refine Sv h.2 ha hb ?_
 have:=h.1 a ha
 have:=h.1 b hb
 have e:a.ver.a=b.ver.a:=by
  have e1:=(h.1 a ha).maj;rw[h1,(h.1 b hb).maj]at e1;exact(B2 e1).symm
 unfold FJ;rw[h1,Wb (h.1 a ha).val (h.1 b hb).val e h2]
theorem Ki{x:List Rl}{y:Sl}{r:Rl}(h:DV x y=some r):AX x=0∧r∈x∧FJ r=y:=by
 unfold DV at h;split at h
 ·cases h
 ·rename_i h1;refine⟨Cm.1 h1,Cg h,?_⟩
  have:=EE h;simpa using this
structure nN(x:List Rl)(roots:List Rq)(s:List Sl):Prop where
 ix:AX x=0
 inc:FI s=true
 fnd:∀y∈s,∃r,DV x y=some r∧r.yanked=false
 root:∀q∈roots,∃y,BX s q.path=some y∧has q.set (place y.ver)=true
 req:∀y∈s,∀r,DV x y=some r→∀q∈r.reqs,∃z,BX s q.path=some z∧has q.set (place z.ver)=true
theorem Nh:∀{s:List Sl} {b:Option ByteArray},Sm b s=true→s.Pairwise (fun a b=>En a.path b.path=true)∧∀c,b=some c→∀y∈s,En c y.path=true
 | [],_,_=>⟨.nil,fun _ _ _ h=>by cases h⟩
 |y::r,b,h=>by
  unfold Sm at h;simp only[Af]at h;obtain⟨h1,h2⟩:=h;obtain⟨i1,i2⟩:=Nh h2;refine⟨.cons (i2 _ rfl) i1,fun c e z hz=>?_⟩;subst e;rcases Au.1 hz with rfl | hz
  ·exact h1
  ·exact DM h1 (i2 _ rfl z hz)
theorem ML{s:List Sl}(h:s.Pairwise (fun a b=>En a.path b.path=true)){y:Sl}(hy:y∈s):BX s y.path=some y:=by
 induction h with
 |nil=>cases hy
 |cons h1 h2 ih =>
  rename_i a l;unfold BX;rw[ED];rcases Au.1 hy with rfl | hy
  ·simp
  ·have:=HQ (h1 y hy)
   simp only[this,decide_false];exact ih hy
theorem WQ{s:List Sl}(h:FI s=true){y:Sl}(hy:y∈s):BX s y.path=some y:=ML (Nh h).1 hy
theorem nN.valid{x:List Rl}{roots:List Rq}{s:List Sl}(h:nN x roots s):FV s:=fun y hy=>by
 obtain⟨r,h1,_⟩:=h.fnd y hy;obtain⟨_,h2,h3⟩:=Ki h1
 have:=((Cc h.ix).1 r h2).val
 rw[←h3];exact this
-- soundness
theorem Qr{q:Rq}{s:List Sl}(h:∃y,BX s q.path=some y∧has q.set (place y.ver)=true):Da (Dw q) (BX s q.path)=false:=by
 obtain⟨y,h1,h2⟩:=h;rw[h1];unfold Da Dw;dsimp only;rw[Fv,h2];simp
theorem fW{l:List Tm}{s:List Sl}(hs:FV s)(hn:CE l≠none)(hv:Bb l s=false):Bb (Po l) s=false:=by
 have:=CN (l:=l) hs
 unfold Po;cases h:CE l with
 |none=>exact absurd h hn
 |some c=>rw[h,hv]at this;exact this.symm
theorem Xs{l:List Tm}{s:List Sl}(hs:FV s){o:List Tm}(h:bC (Po l)=some o)(hv:Bb l s=false):Bb o s=false:=by
 unfold bC at h;split at h
 ·cases h
 ·rename_i Dt;cases h;rw[Pp hs (by intro e;rw[e]at Dt;exact Dt rfl)];exact hv
theorem YY(q:Rq):CE [Dw q]≠none:=by
 unfold CE EO;simp only[List.foldl,Ni]
 have:Hw (K4 (Dw q))=false:=by simp[Hw,K4,Dw]
 simp[this]
theorem Ow{α:Type}{l:List α}{i:Int}{a:α}(h:Jc l i=some a):a∈l:=by
 unfold Jc at h;split at h
 ·cases h
 ·exact Ar h
theorem VG{x:List Rl}{roots:List Rq}{s:List Sl}(hs:nN x roots s){d:List (List Tm)}(hd:∀t∈d,Bb t s=false){i:Nf}{o:List Tm}(h:DK x roots d i=some o):Bb o s=false:=by
 have hv:=hs.valid;unfold DK at h;split at h
 ·split at h
  ·rw[AW]at h;obtain⟨q,hq,rfl⟩:=h;refine fW hv (YY q) ?_;rw[AK];intro hw
   have:=Bx.1 hw _ (Ak.2 rfl)
   rw[show(Dw q).path=q.path from rfl,Qr (hs.root q (Ow hq))]at this;cases this
  ·cases h
 ·split at h
  ·split at h
   ·split at h
    ·cases h
    ·rename_i r hr;split at h
     ·cases h
     ·rename_i q hq;refine Xs hv h ?_;rw[AK];intro hw;have h1:=Bx.1 hw _ (Ab ..);have h2:=Bx.1 hw (Dw q) (by simp);rw[show(Dw q).path=q.path from rfl]at h2;dsimp only at h1;cases hf:BX s i.path with
      |none=>rw[hf]at h1;simp[Da]at h1
      |some y =>
       rw[hf]at h1;unfold Da at h1;simp only[Af]at h1;have hp:place y.ver=i.place:=by
        have:=h1.2
        simp only[has,B6,List.any_nil,Bool.or_false,Af,BG,Av]at this;omega
       have hy:=I3 hf;have uL:=Lx hf;obtain⟨r',e1,e2⟩:=hs.fnd y hy;obtain⟨_,m1,k1⟩:=Ki e1;have eU:r∈x:=Cg hr;have oa:=EE hr;simp only[Af,Av]at oa;have Gk:=Cc hs.ix
       have:r'=r:=by
        refine ZU Gk m1 eU ?_ ?_
        ·rw[oa.1,←uL,←k1];rfl
        ·rw[←(Gk.1 r eU).plc,oa.2,←hp,←k1];rfl
       subst this
       have:=hs.req y hy r' e1 q (Ow hq)
       rw[Qr this]at h2;cases h2
   ·cases h
  ·split at h
   ·split at h
    ·refine Xs hv h ?_;rw[AK];intro hw;have h1:=Bx.1 hw _ (Ak.2 rfl);dsimp only at h1;cases hf:BX s i.path with
     |none=>rw[hf]at h1;simp[Da]at h1
     |some y =>
      rw[hf]at h1;unfold Da at h1;simp only[Af]at h1;have hy:=I3 hf;have uL:=Lx hf;obtain⟨r,e1,e2⟩:=hs.fnd y hy;obtain⟨_,m1,k1⟩:=Ki e1;have Gk:=Cc hs.ix;have h1:=h1.2;rw[Fv]at h1;have ii:=Je (hv y hy)
      have:has (BZ x i.path) (place y.ver)=true:=by
       unfold BZ;rw[G0];unfold has;simp only[ii,decide_true,Eu,Bf,Al,BI];refine⟨(plc r.ver,plc r.ver+1),⟨r,⟨?_,by simp[e2]⟩,rfl⟩,?_⟩
       ·unfold JV;simp only[hs.ix,UE,not_true,F7,BI,m1,true_and,Av];rw[←uL,←k1];rfl
       ·rw[(Gk.1 r m1).plc,←k1];rw[DC];exact⟨BD _,by show place r.ver<place r.ver+1;omega⟩
      rw[this]at h1;simp at h1
    ·cases h
   ·split at h
    ·split at h
     ·split at h
      ·rename_i a b ha hb;split at h
       ·rename_i h0;cases h;rw[AK];intro hw;rcases SZ hv (o:=(Bq a b i.path).1) (Prod.ext rfl h0) hw with hw | hw
        ·rw[hd a (Ow ha)]at hw;cases hw
        ·rw[hd b (Ow hb)]at hw;cases hw
       ·cases h
      ·cases h
     ·cases h
    ·cases h
theorem Lu{x:List Rl}{roots:List Rq}{s:List Sl}(hs:nN x roots s):∀{l:List Nf} {d d' : List (List Tm)},(∀t∈d,Bb t s=false)→CX x roots l d=some d'→∀t∈d',Bb t s=false
 | [],d,d',hd,h=>by cases h;exact hd
 |i::l,d,d',hd,h=>by
  unfold CX at h;split at h
  ·cases h
  ·rename_i o ho;refine Lu hs (fun t ht=>?_) h;rcases AL.1 ht with ht | ht
   ·exact hd t ht
   ·rw[Ak.1 ht];exact VG hs hd ho
theorem H7{α:Type}[DecidableEq α]:∀{l m:List α},l.Nodup→(∀x∈l,x∈m)→l.length≤m.length
 | [],_,_,_=>AO _
 |a::l,m,hn,hs=>by
  rw[CI]at hn;have ha:a∈m:=hs a (Ab ..)
  have:=H7 (l:=l) (m:=m.erase a) hn.2 fun x hx=>by
   have:x≠a:=fun e=>hn.1 (e▸hx)
   exact(List.mem_erase_of_ne this).2 (hs x (Ag _ hx))
  rw[List.length_erase_of_mem ha]at this
  have:=List.length_pos_of_mem ha
  simp only[Ax];omega
abbrev U6(s:List Sl):Prop:=s.Pairwise (fun a b=>En a.path b.path=true)
-- the next path
theorem JD(before:List Sl):∀{l:List Rq} {acc:Option ByteArray},(∀p,acc=some p→Cv before p=false) →
  (∀p,Dm before l acc=some p→Cv before p=false∧(acc=some p∨∃q∈l,q.path=p))∧(Dm before l acc=none→acc=none∧∀q∈l,Cv before q.path=true)
 | [],acc,ha=>⟨fun p h=>⟨ha p h,.inl h⟩,fun h=>⟨h,fun _ h=>(by cases h)⟩⟩
 |q::l,acc,ha=>by
  unfold Dm
  have key:∀aj,(∀p,aj=some p→Cv before p=false)→(∀p,aj=some p→acc=some p∨q.path=p)→(aj=none→acc=none∧Cv before q.path=true) →
    (∀p,Dm before l aj=some p→Cv before p=false∧(acc=some p∨∃q'∈q::l,q'.path=p))∧(Dm before l aj=none→acc=none∧∀q'∈q::l,Cv before q'.path=true):=by
   intro aj h1 h2 h3;obtain⟨i1,i2⟩:=JD before (l:=l) h1;refine⟨fun p h=>?_,fun h=>?_⟩
   ·obtain⟨j1,j2⟩:=i1 p h;refine⟨j1,?_⟩;rcases j2 with j2 | ⟨q',j3,j4⟩
    ·rcases h2 p j2 with h2 | h2
     ·exact .inl h2
     ·exact .inr ⟨q,Ab ..,h2⟩
    ·exact .inr ⟨q',Ag _ j3,j4⟩
   ·obtain⟨j1,j2⟩:=i2 h;obtain⟨k1,k2⟩:=h3 j1;refine⟨k1,fun q' hq=>?_⟩;rcases Au.1 hq with rfl | hq
    ·exact k2
    ·exact j2 q' hq
  cases hb:Cv before q.path with
  |true=>simp only[Qg];exact key acc ha (fun p h=>.inl h) fun h=>⟨h,hb⟩
  |false =>
   simp only[Dc,F7];cases acc with
   |none=>exact key _ (fun p h=>by cases h;exact hb) (fun p h=>by cases h;exact .inr rfl) fun h=>by cases h
   |some p0 =>
    dsimp only;split
    ·exact key _ (fun p h=>by cases h;exact hb) (fun p h=>by cases h;exact .inr rfl) fun h=>by cases h
    ·exact key _ (fun p h=>by cases h;exact ha _ rfl) (fun p h=>by cases h;exact .inl rfl) fun h=>by cases h
theorem SH{needs:List Rq}{before:List Sl}{p:ByteArray}(h:Ko needs before=some p):Cv before p=false∧∃q∈needs,q.path=p:=by
 obtain⟨h1,h2⟩:=(JD before (l:=needs) (acc:=none) fun _ e=>by cases e).1 p h;rcases h2 with h2 | h2
 ·cases h2
 ·exact⟨h1,h2⟩
theorem YJ{needs:List Rq}{before:List Sl}(h:Ko needs before=none):∀q∈needs,Cv before q.path=true :=
 ((JD before (l:=needs) (acc:=none) fun _ e=>by cases e).2 h).2
theorem RY(a b:List Sl)(p:ByteArray):Cv (a++b) p=(Cv a p||Cv b p):=by unfold Cv;rw[Hd]
theorem KP{s:List Sl}{p:ByteArray}:Cv s p=true↔∃y∈s,y.path=p:=by unfold Cv;simp
theorem GZ{s:List Sl}{p:ByteArray}:Cv s p=true↔p∈s.map (·.path):=by rw[KP,Al]
-- what is needed
-- skips
theorem Vq{t:List Tm}{b s:List Sl}(hs:FI s=true)(hb:∀y∈b,y∈s)(h:Ct t b=true):Bb t s=true:=by
 unfold Ct at h;simp only[Af,CG,F0]at h;obtain⟨h1,h2⟩:=h;rw[Bx]at h1⊢;intro u hu
 have:=h2 u hu
 simp only[Bool.not_eq_false]at this;rw[Jx]at this;cases hf:BX b u.path with
 |none=>rw[hf]at this;cases this
 |some y =>
  have h3:=h1 u hu;rw[hf]at h3
  have:=WQ hs (hb y (I3 hf))
  rw[Lx hf]at this;rw[this];exact h3
-- right answers
-- the first decision that differs
-- prefixes
theorem IK{x:List Rl}{roots:List Rq}:∀{l:List Nf} {d d' : List (List Tm)},CX x roots l d=some d'→d'.length=d.length+l.length
 | [],d,d',h=>by cases h;rfl
 |i::l,d,d',h=>by
  unfold CX at h;split at h
  ·cases h
  ·have:=IK h
   simp only[Ac,Ax,AF]at this⊢;omega
theorem GI{x:List Rl}{roots:List Rq}:∀(l m:List Nf) (d:List (List Tm)),CX x roots (l++m) d=match CX x roots l d with | none=>none | some d'=>CX x roots m d'
 | [],_,_=>rfl
 |i::l,m,d=>by
  show(match DK x roots d i with | none=>none | some t=>CX x roots (l++m) (d++[t]))=(match(match DK x roots d i with | none=>none | some t=>CX x roots l (d++[t]))with | none=>none | some d'=>CX x roots m d');cases DK x roots d i with
  |none=>rfl
  |some t=>exact GI l m _
theorem K5{x:List Rl}{roots:List Rq}:∀{l:List Nf} {d d' : List (List Tm)},CX x roots l d=some d'→d <+: d'
 | [],d,d',h=>by cases h;exact List.prefix_refl _
 |i::l,d,d',h=>by
  unfold CX at h;split at h
  ·cases h
  ·exact(NJ _ _).trans (K5 h)
theorem MH{x:List Rl}{roots:List Rq}{l:List Nf}{d:List (List Tm)}(h:CX x roots l []=some d)(k:Nat):CX x roots (l.take k) []=some (d.take k):=by
 rw[←KZ k l,GI]at h;cases e:CX x roots (l.take k) []with
 |none=>rw[e]at h;cases h
 |some f =>
  rw[e]at h;dsimp only at h;have h1:=IK e;have h2:=IK h;have h3:=K5 h
  congr 1
  simp only[AF,AB,Dn]at h1 h2;obtain⟨z,rfl⟩:=h3
  by_cases hk:k≤l.length
  ·rw[GV (by omega),AD (by omega)]
  ·rw[Ac]at h2
   have:z=[]:=AM (by omega)
   subst this;rw[BT,AD (by omega)]
def KD(l:List Tm):Prop:=CE l=some l
theorem cd{l:List Tm}:∀(l2:List Tm),B5 none (l2++l)→l.foldl (fun acc t=>Ni t acc) l2=l2++l:=by
 induction l with
 |nil=>intro l2 _;simp
 |cons t r ih =>
  intro l2 h;have hi:Ni t l2=l2++[t]:=by
   have:∀(m:List Tm) (lo:Option ByteArray),B5 lo (m++t::r)→Ni t m=m++[t]:=by
    intro m
    induction m with
    |nil =>
     intro lo hm;have hc:Ev t.set:=hm.2.1;unfold Ni;rw[show K4 t=t from nw rfl rfl (I1 hc)];rfl
    |cons u m ihm =>
     intro lo hm;have hm:B5 lo (u::(m++t::r)):=hm;have Ds:=B5.low hm.2.2 t (by simp);unfold Ni;rw[Ao Ds,ihm _ hm.2.2];rfl
   exact this l2 none h
  rw[D7,hi]
  have:=ih (l2++[t]) (by rw[BH];exact h)
  rw[this,BH];rfl
theorem Pl{l:List Tm}(h:B5 none l):EO l=l:=by
 have:=cd (l:=l) [] h
 simpa[EO]using this
theorem PW{l c:List Tm}(h:CE l=some c):KD c:=by
 have hs:=EF h;unfold KD;unfold CE at h⊢;rw[Pl hs];split at h
 ·cases h
 ·rename_i hn;cases h;rw[Ai]
  ·congr 1
   rw[List.filter_filter];simp
  ·rw[Bool.not_eq_true,F0]at hn⊢;intro t ht;exact hn t (BI.1 ht).1
theorem Ob:KD []:=rfl
theorem LQ(l:List Tm):KD (Po l):=by
 unfold Po;cases h:CE l with
 |none=>exact Ob
 |some c=>exact PW h
theorem MV(a b:List Tm)(p:ByteArray):KD (Bq a b p).1:=by
 unfold Bq;split
 ·split
  ·rename_i h;exact PW h
  ·exact Ob
 ·exact Ob
theorem Xr{l o:List Tm}(h:bC l=some o):o=l:=by unfold bC at h;split at h<;>cases h;rfl
theorem Xa{x:List Rl}{roots:List Rq}{d:List (List Tm)}{i:Nf}{o:List Tm}(h:DK x roots d i=some o):KD o:=by
 unfold DK at h;split at h
 ·split at h
  ·rw[AW]at h;obtain⟨q,_,rfl⟩:=h;exact LQ _
  ·cases h
 ·split at h
  ·split at h
   ·split at h
    ·cases h
    ·split at h
     ·cases h
     ·rw[Xr h];exact LQ _
   ·cases h
  ·split at h
   ·split at h
    ·rw[Xr h];exact LQ _
    ·cases h
   ·split at h
    ·split at h
     ·split at h
      ·split at h
       ·cases h;exact MV _ _ _
       ·cases h
      ·cases h
     ·cases h
    ·cases h
theorem MG{x:List Rl}{roots:List Rq}:∀{l:List Nf} {d d' : List (List Tm)},(∀t∈d,KD t)→CX x roots l d=some d'→∀t∈d',KD t
 | [],d,d',hd,h=>by cases h;exact hd
 |i::l,d,d',hd,h=>by
  unfold CX at h;split at h
  ·cases h
  ·rename_i o ho;refine MG (fun t ht=>?_) h;rcases AL.1 ht with ht | ht
   ·exact hd t ht
   ·rw[Ak.1 ht];exact Xa ho
-- tampering
end Go.Eng
