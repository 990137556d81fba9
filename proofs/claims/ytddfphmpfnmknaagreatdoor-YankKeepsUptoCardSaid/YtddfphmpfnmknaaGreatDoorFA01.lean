/- Lemmas for the claims of this seat, without a condition: part 1 (P1, P2, P3, P4, P5, P6, P7). -/
import Derived.Test.YtddfphmpfnmknaaGreatDoorFA00
namespace Go.Eng
def BG(p:Int)(s:Int×Int):Bool:=decide (s.1≤p)&&decide (p<s.2)
def has(s:List (Int×Int))(p:Int):Bool:=decide (0≤p)&&decide (p<1000000)&&s.any (BG p)
abbrev Bh:=List (Int×Int)
def EG(lo:Int):Bh→Prop
 | []=>True
 |y::r=>lo≤y.1∧y.1<y.2∧y.2≤1000000∧EG (y.2+1) r
abbrev Ez(l:Bh):Prop:=EG 0 l
def VG(x:Int×Int):Bh→Bh
 | []=>[x]
 |y::r=>if x.2<y.1 then x::y::r else if y.2<x.1 then y::VG x r else VG (min x.1 y.1,max x.2 y.2) r
def Hm(x:Int×Int):Int×Int:=(max x.1 0,min x.2 1000000)
def canon:Bh→Bh
 | []=>[]
 |x::r=>if(Hm x).1<(Hm x).2 then VG (Hm x) (canon r)else canon r
def KT(at_:Int):Bh→Bh
 | []=>if at_<1000000 then [(at_,1000000)]else []
 |y::r=>if at_<y.1 then(at_,y.1)::KT y.2 r else KT y.2 r
def Eh(s:Bh):Bh:=KT 0 (canon s)
def Qj(l:List Bh):Bh:=canon l.flatten
def PJ(l:List Bh):Bh:=Eh (l.map Eh).flatten
def Pi(a b:Bh):Bh:=Qj [a,b]
def OL(a b:Bh):Bh:=PJ [a,b]
theorem EG.mono{lo HD : Int}:∀{l:Bh},EG lo l→HD≤lo→EG HD l
 | [],_,_=>trivial
 |_::_,⟨h1,h2,h3,h4⟩,h=>⟨Int.le_trans h h1,h2,h3,h4⟩
theorem EG.low{lo:Int}:∀{l:Bh},EG lo l→∀y∈l,lo≤y.1∧y.1<y.2∧y.2≤1000000
 |y::r,⟨h1,h2,h3,h4⟩,z,hz=>by
  rcases Au.1 hz with rfl | hz
  ·exact⟨h1,h2,h3⟩
  ·have:=h4.low z hz
   exact⟨by omega,this.2.1,this.2.2⟩
theorem DE{p:Int}{s:Int×Int}:BG p s=true↔s.1≤p∧p<s.2:=by simp[BG]
theorem Mn{lo:Int}{l:Bh}(h:EG lo l){p:Int}(hp:l.any (BG p)=true):lo≤p:=by
 obtain⟨y,hy,h2⟩:=Bb.1 hp
 have:=h.low y hy
 have:=DE.1 h2
 omega
theorem dZ{lo:Int}{l:Bh}(h:EG lo l){p:Int}(hp:l.any (BG p)=true):p<1000000:=by
 obtain⟨y,hy,h2⟩:=Bb.1 hp
 have:=h.low y hy
 have:=DE.1 h2
 omega
theorem Nj:∀(l:Bh) {lo:Int} {x:Int×Int},EG lo l→lo≤x.1→x.1<x.2→x.2≤1000000→EG lo (VG x l)
 | [],lo,x,_,h1,h2,h3=>⟨h1,h2,h3,trivial⟩
 |y::r,lo,x,⟨g1,g2,g3,g4⟩,h1,h2,h3=>by
  unfold VG;split
  ·exact⟨h1,h2,h3,by omega,g2,g3,g4⟩
  ·split
   ·exact⟨g1,g2,g3,Nj r g4 (by omega) h2 h3⟩
   ·refine Nj r (g4.mono (by omega)) ?_ ?_ ?_<;>dsimp only<;>omega
theorem N6:∀(l:Bh) {lo:Int} {x:Int×Int} (p:Int),EG lo l→x.1<x.2→(VG x l).any (BG p)=(BG p x||l.any (BG p))
 | [],lo,x,p,_,_=>by simp[VG]
 |y::r,lo,x,p,⟨g1,g2,g3,g4⟩,h2=>by
  unfold VG;split
  ·simp
  ·split
   ·rw[B7,N6 r p g4 h2,B7,←Bool.or_assoc,←Bool.or_assoc,Bool.or_comm (BG p y)]
   ·rw[N6 r p g4 (by dsimp only;omega),B7,←Bool.or_assoc]
    congr 1
    simp only[BG];rw[BO];simp only[Af,Cm,As];omega
theorem Cb:∀s:Bh,Ez (canon s)
 | []=>trivial
 |x::r=>by
  unfold canon;split
  ·rename_i h;refine Nj _ (Cb r) ?_ h ?_<;>simp only[Hm]<;>omega
  ·exact Cb r
theorem Kn:∀(s:Bh) (p:Int),(canon s).any (BG p)=has s p
 | [],p=>by simp[has,canon]
 |x::r,p=>by
  have ih:=Kn r p;unfold canon;have hx:BG p (Hm x)=(decide (0≤p)&&decide (p<1000000)&&BG p x):=by
   simp only[BG,Hm];rw[BO];simp only[Af,As,Int.max_le,Int.lt_min];omega
  split
  ·rename_i h;rw[N6 _ p (Cb r) h,ih,hx];simp only[has,B7];cases decide (0≤p)<;>cases decide (p<1000000)<;>simp
  ·rename_i h;rw[ih];simp only[has,B7]
   have:BG p (Hm x)=false:=by
    rw[AM];intro h3
    have:=DE.1 h3
    omega
   rw[this]at hx;cases h1:decide (0≤p)<;>cases h2:decide (p<1000000)<;>simp_all
theorem Hz{l:Bh}(h:Ez l)(p:Int):has l p=l.any (BG p):=by
 unfold has;cases e:l.any (BG p)with
 |false=>simp
 |true=>have h1:0≤p:=Mn h e;have h2:=dZ h e;simp[h1,h2]
theorem Hc(s:Bh)(p:Int):has (canon s) p=has s p:=by
 rw[Hz (Cb s),Kn]
theorem MW:∀{a b:Bh} {lo:Int},EG lo a→EG lo b→(∀p,a.any (BG p)=b.any (BG p))→a=b
 | [],[],_,_,_,_=>rfl
 | [],z::s,_,_,⟨g1,g2,g3,g4⟩,h=>by
  have:=h z.1
  rw[B7,DE.2 ⟨BM _,g2⟩]at this;simp at this
 |y::r,[],_,⟨g1,g2,g3,g4⟩,_,h=>by
  have:=h y.1
  rw[B7,DE.2 ⟨BM _,g2⟩]at this;simp at this
 |y::r,z::s,lo,⟨f1,f2,f3,f4⟩,⟨g1,g2,g3,g4⟩,h=>by
  have below:∀{x:Int×Int} {t:Bh} {p:Int},EG (x.2+1) t→(x::t).any (BG p)=true→p≤x.2→x.1≤p∧p<x.2:=fun {x t p} ht hp Ho=>by
   rw[B7,Cm]at hp;rcases hp with hp | hp
   ·exact DE.1 hp
   ·have:=Mn ht hp;omega
  have low:∀{x:Int×Int} {t:Bh} {p:Int},x.1<x.2→EG (x.2+1) t→(x::t).any (BG p)=true→x.1≤p:=fun {x t p} hx ht hp=>by
   rw[B7,Cm]at hp;rcases hp with hp | hp
   ·exact(DE.1 hp).1
   ·have:=Mn ht hp;omega
  have cov:∀{x:Int×Int} {t:Bh} {p:Int},x.1≤p→p<x.2→(x::t).any (BG p)=true:=fun {x t p} h1 h2=>by
   rw[B7,DE.2 ⟨h1,h2⟩,Bool.true_or]
  have e1:y.1=z.1:=by
   have a1:=low f2 f4 ((h z.1).trans (cov (BM _) g2));have a2:=low g2 g4 ((h y.1).symm.trans (cov (BM _) f2));omega
  have e2:y.2=z.2:=by
   rcases Int.lt_trichotomy y.2 z.2 with hl | he | hl
   ·have:=below f4 ((h y.2).trans (cov (by omega) hl)) (BM _);omega
   ·exact he
   ·have:=below g4 ((h z.2).symm.trans (cov (by omega) hl)) (BM _);omega
  have e:y=z:=Prod.ext e1 e2;subst e
  congr 1
  refine MW f4 g4 fun p=>?_;have hp:=h p;simp only[B7]at hp;cases hs:BG p y with
  |false=>rw[hs,LG,LG]at hp;exact hp
  |true =>
   have:=DE.1 hs
   have n:∀{t:Bh},EG (y.2+1) t→t.any (BG p)=false:=fun {t} ht=>by
    rw[AM];intro hx;have:=Mn ht hx;omega
   rw[n f4,n g4]
theorem Hu{a b:Bh}(ha:Ez a)(hb:Ez b)(h:∀p,has a p=has b p):a=b :=
 MW ha hb fun p=>by rw[←Hz ha,←Hz hb,h]
theorem Sd{a s:Bh}(ha:Ez a)(h:∀p,has a p=has s p):a=canon s :=
 Hu ha (Cb s) fun p=>by rw[h,Hc]
theorem Je{a:Bh}(ha:Ez a):canon a=a:=(Sd ha fun _=>rfl).symm
theorem LX{s:Bh}{p:Int}(h:has s p=true):0≤p∧p<1000000:=by
 unfold has at h;simp only[Af,As]at h;exact h.1
def Lz(p:Int):Bool:=decide (0≤p)&&decide (p<1000000)
theorem KU:∀(l:Bh) {at_ lo:Int},0≤at_→EG lo l→lo≤at_+1→at_≤lo→EG at_ (KT at_ l)∧∀p,(KT at_ l).any (BG p)=(decide (at_≤p)&&decide (p<1000000)&&!l.any (BG p))
 | [],at_,lo,h0,_,h1,h2=>by
  unfold KT;split
  ·exact⟨⟨BM _,by dsimp only;omega,BM _,trivial⟩,fun p=>by simp[BG]⟩
  ·refine⟨trivial,fun p=>?_⟩
   have:(decide (at_≤p)&&decide (p<1000000))=false:=by
    rw[AM];simp only[Vc,Af,As];omega
   simp[this]
 |y::r,at_,lo,h0,⟨g1,g2,g3,g4⟩,h1,h2=>by
  have ih:=KU r (at_:=y.2) (by omega) g4 (BM _) (by omega);have key:∀p,(decide (at_≤p)&&decide (p<y.1)||(KT y.2 r).any (BG p))=(decide (at_≤p)&&decide (p<1000000)&&!(y::r).any (BG p)):=fun p=>by
   rw[ih.2,B7];cases hr:r.any (BG p)with
   |true =>
    have:=Mn g4 hr
    have a:decide (p<y.1)=false:=Az (by omega);simp[a]
   |false =>
    rw[BO];simp only[BG,Af,Cm,As,CI,Rb,Bool.and_eq_false_iff,JK,Bool.not_false,and_true];omega
  unfold KT;split
  ·rename_i h;refine⟨⟨BM _,h,by dsimp only;omega,ih.1 |> fun c=>?_⟩,fun p=>?_⟩
   ·dsimp only;cases e:KT y.2 r with
    |nil=>trivial
    |cons z s =>
     rw[e]at c;exact⟨by have:=c.1;omega,c.2⟩
   ·rw[B7,←key];rfl
  ·rename_i h;refine⟨ih.1.mono (by omega),fun p=>?_⟩;rw[←key]
   have:(decide (at_≤p)&&decide (p<y.1))=false:=by
    rw[AM];simp only[Vc,Af,As];omega
   rw[this,LG]
theorem Ha(s:Bh):Ez (Eh s):=by
 unfold Eh;exact(KU _ (BM _) (Cb s) (by omega) (BM _)).1
theorem FF(s:Bh)(p:Int):has (Eh s) p=(Lz p&&!has s p):=by
 rw[Hz (Ha s)];unfold Eh;rw[(KU _ (BM _) (Cb s) (by omega) (BM _)).2,Kn];rfl
theorem Zb(a b:Bh)(p:Int):has (a++b) p=(has a p||has b p):=by
 simp only[has,F9];cases decide (0≤p)<;>cases decide (p<1000000)<;>simp
theorem LW:∀(l:List Bh) (p:Int),has l.flatten p=l.any fun s=>has s p
 | [],p=>by simp[has]
 |s::l,p=>by rw[Bv,Zb,LW l p,B7]
theorem SH(l:List Bh)(p:Int):has (Qj l) p=l.any fun s=>has s p:=by
 unfold Qj;rw[Hc,LW]
theorem WH(l:List Bh):Ez (Qj l):=Cb _
theorem Wq(l:List Bh):Ez (PJ l):=Ha _
theorem SG(l:List Bh)(p:Int):has (PJ l) p=(Lz p&&l.all fun s=>has s p):=by
 unfold PJ;rw[FF,LW,List.any_map];cases h:Lz p with
 |false=>rfl
 |true =>
  rw[Ey,Ey,List.not_any_eq_all_not]
  congr 1
  funext s
  simp[FF,h]
theorem Yz(a b:Bh):Ez (Pi a b):=Cb _
theorem QL(a b:Bh):Ez (OL a b):=Ha _
theorem ce(a b:Bh)(p:Int):has (Pi a b) p=(has a p||has b p):=by
 unfold Pi;rw[SH];simp
theorem UW(a b:Bh)(p:Int):has (OL a b) p=(has a p&&has b p):=by
 unfold OL;rw[SG];simp only[List.all_cons,List.all_nil,Bool.and_true];cases h:has a p with
 |false=>simp
 |true=>have:=LX h;simp[Lz,this]
theorem Zi(s:Bh):OL s s=canon s:=Hu (QL _ _) (Cb _) fun p=>by rw[UW,Hc,Bool.and_self]
theorem Ub{s:Bh}:canon s=[]↔∀p,has s p=false:=by
 constructor
 ·intro h p;rw[←Hc,h];simp[has]
 ·intro h;exact Hu (Cb s) (b:=[]) trivial fun p=>by rw[Hc,h p];simp[has]
theorem PO{s:Bh}(hs:Ez s):s=[]↔∀p,has s p=false:=by
 rw[←Ub,Je hs]
def dH(l:List Bh)(p:Int):Nat:=l.countP fun s=>has s p
theorem Sc:∀{l:Bh} {lo:Int},EG lo l→lo≤1000000→(l.length:Int)≤1000000-lo
 | [],lo,_,h=>by simp;omega
 |y::r,lo,⟨g1,g2,g3,g4⟩,h=>by
  by_cases h3:y.2+1≤1000000
  ·have:=Sc g4 h3
   simp only[Av];omega
  ·cases r with
   |nil=>simp;omega
   |cons z s=>have:=g4.1;have:=g4.2.1;have:=g4.2.2.1;omega
theorem H4{l:Bh}(h:Ez l):l.length≤1000000:=by have:=Sc h (by omega);omega
structure Ver where
 (a b c:Int)
structure Rq where
 path:ByteArray
 set:List (Int×Int)
structure Rl where
 path:ByteArray
 ver:Ver
 reqs:List Rq
 (arch ifc cert:ByteArray)
 yanked:Bool
structure Sl where
 path:ByteArray
 ver:Ver
structure Tm where
 path:ByteArray
 absent:Bool
 set:List (Int×Int)
structure Nf where
 kind:Int
 path:ByteArray
 (place number left right:Int)
structure Sk where
 path:ByteArray
 (place inf:Int)
structure An where
 found:Bool
 sel:List Sl
 infs:List Nf
 skips:List Sk
instance:DecidableEq Ver:=fun x y=>decidable_of_iff (x.a=y.a∧x.b=y.b∧x.c=y.c) ⟨fun⟨h1,h2,h3⟩=>by cases x;cases y;simp_all,fun h=>by subst h;exact⟨rfl,rfl,rfl⟩⟩
instance:DecidableEq Sl:=fun x y=>decidable_of_iff (x.path=y.path∧x.ver=y.ver) ⟨fun⟨h1,h2⟩=>by cases x;cases y;simp_all,fun h=>by subst h;exact⟨rfl,rfl⟩⟩
theorem oH{x y:Tm}(h1:x.path=y.path)(h2:x.absent=y.absent)(h3:x.set=y.set):x=y:=by cases x;cases y;simp_all
def okPart(n:Int):Prop:=0≤n∧n≤999
instance (n:Int):Decidable (okPart n):=by unfold okPart;infer_instance
def Cs(v:Ver):Bool:=decide (okPart v.a)&&decide (okPart v.b)&&decide (okPart v.c)
def place(v:Ver):Int:=1000*v.b+v.c
def plc(v:Ver):Int:=if Cs v then place v else 0
def B1(s:List Sl)(p:ByteArray):Option Sl:=s.find? fun x=>decide (x.path=p)
def GC(t:Tm)(s:List Sl):Bool :=
 match s.find? (fun x=>decide (x.path=t.path))with
 |none=>t.absent
 |some x=>Cs x.ver&&has t.set (place x.ver)
def Cv(s:List Sl)(p:ByteArray):Bool:=s.any fun x=>decide (x.path=p)
def Bc(l:List Tm)(s:List Sl):Bool:=l.all fun t=>GC t s
def Cr(l:List Tm)(s:List Sl):Bool:=Bc l s&&!l.any fun t=>!Cv s t.path
def H8:List UInt8→List UInt8→Bool
 | [],[]=>false
 | [],_::_=>true
 |_::_,[]=>false
 |a::x,b::y=>decide (a<b)||(decide (a=b)&&H8 x y)
def Er(a b:ByteArray):Bool:=H8 a.data.toList b.data.toList
theorem QO:∀x,H8 x x=false
 | []=>rfl
 |a::x=>by
  unfold H8;simp[QO x]
theorem NJ:∀{x y z},H8 x y=true→H8 y z=true→H8 x z=true
 | [],[],_,h,_=>by simp[H8]at h
 | [],_::_,[],_,h=>by simp[H8]at h
 | [],_::_,_::_,_,_=>rfl
 |_::_,[],_,h,_=>by simp[H8]at h
 |_::_,_::_,[],_,h=>by simp[H8]at h
 |a::x,b::y,c::z,h1,h2=>by
  unfold H8 at *
  simp only[Cm,Af,As]at *
  rcases h1 with h1 | ⟨rfl,h1⟩
  ·rcases h2 with h2 | ⟨rfl,h2⟩
   ·exact .inl (UInt8.lt_trans h1 h2)
   ·exact .inl h1
  ·rcases h2 with h2 | ⟨rfl,h2⟩
   ·exact .inl h2
   ·exact .inr ⟨rfl,NJ h1 h2⟩
theorem Te:∀{x y},H8 x y=false→H8 y x=false→x=y
 | [],[],_,_=>rfl
 | [],_::_,h,_=>by simp[H8]at h
 |_::_,[],_,h=>by simp[H8]at h
 |a::x,b::y,h1,h2=>by
  unfold H8 at *
  simp only[Bool.or_eq_false_iff,Bool.and_eq_false_iff,JK]at *
  have e:a=b:=by
   have l1:=UInt8.not_lt.1 h1.1;have l2:=UInt8.not_lt.1 h2.1;exact UInt8.le_antisymm l2 l1
  subst e
  have:=Te (x:=x) (y:=y) (by simpa using h1.2) (by simpa using h2.2)
  rw[this]
theorem tA{a b:ByteArray}(h:a.data.toList=b.data.toList):a=b:=by
 cases a;cases b;simp only[ByteArray.mk.injEq];exact IA.1 h
theorem CT(a:ByteArray):Er a a=false:=QO _
theorem DR{a b c:ByteArray}(h:Er a b=true)(k:Er b c=true):Er a c=true:=NJ h k
theorem Ht{a b:ByteArray}(h:Er a b=false)(k:Er b a=false):a=b:=tA (Te h k)
theorem H3{a b:ByteArray}(h:Er a b=true):a≠b:=fun e=>by subst e;rw[CT]at h;cases h
theorem Mp{a b:ByteArray}(h:Er a b=true):Er b a=false:=by
 rw[AM];intro k;have:=DR h k;rw[CT]at this;cases this
def Ln(t:Tm):Tm:=⟨t.path,t.absent,canon t.set⟩
def GN(u t:Tm):Tm:=⟨u.path,u.absent&&t.absent,OL u.set t.set⟩
def NF(t:Tm):List Tm→List Tm
 | []=>[Ln t]
 |u::r=>if Er u.path t.path then u::NF t r else if u.path=t.path then GN u t::r else Ln t::u::r
def EX(l:List Tm):List Tm:=l.foldl (fun acc t=>NF t acc) []
def HH(t:Tm):Bool:=!t.absent&&t.set.isEmpty
def Gt(t:Tm):Bool:=t.absent&&decide (t.set=[(0,1000000)])
def CG(l:List Tm):Option (List Tm):=if(EX l).any HH then none else some ((EX l).filter fun t=>!Gt t)
def PQ(l:List Tm):List Tm:=(CG l).getD []
def Dy(q:Rq):Tm:=⟨q.path,true,Eh q.set⟩
def Jw(q:Rq):List Tm:=PQ [Dy q]
def Ef(path:ByteArray)(pl:Int)(q:Rq):List Tm:=PQ [⟨path,false,[(pl,pl+1)]⟩,Dy q]
def HJ(path:ByteArray)(pB:Bh):List Tm:=PQ [⟨path,false,Eh pB⟩]
def Dc(l:List Tm)(p:ByteArray):Option Tm:=l.find? fun t=>decide (t.path=p)
def FL(l:List Tm)(p:ByteArray):List Tm:=l.filter fun t=>!decide (t.path=p)
def Da(a b:Tm):Tm:=⟨a.path,a.absent||b.absent,Pi a.set b.set⟩
def Fp(l:List Tm)(p:ByteArray):Option (Tm×List Tm):=match CG l with
 |none=>none
 |some c=>match Dc c p with
  |none=>none
  |some t=>some (t,FL c p)
def Bn(a b:List Tm)(p:ByteArray):List Tm×Int :=
 match Fp a p,Fp b p with
 |some (t,r),some (u,m)=>match CG (r++m++[Da t u])with
  |some o=>(o,0)
  |none=>([],8)
 |_,_=>([],1)
def B6(lo:Option ByteArray):List Tm→Prop
 | []=>True
 |t::r=>(∀p,lo=some p→Er p t.path=true)∧Ez t.set∧B6 (some t.path) r
theorem B6.weak{lo:Option ByteArray}:∀{l:List Tm},B6 lo l→B6 none l
 | [],_=>trivial
 |_::_,⟨_,h2,h3⟩=>⟨fun _ h=>(by cases h),h2,h3⟩
theorem B6.low{p:ByteArray}:∀{l:List Tm},B6 (some p) l→∀t∈l,Er p t.path=true
 |t::r,⟨h1,h2,h3⟩,u,hu=>by
  rcases Au.1 hu with rfl | hu
  ·exact h1 p rfl
  ·exact DR (h1 p rfl) (h3.low u hu)
theorem B6.canon{lo:Option ByteArray}:∀{l:List Tm},B6 lo l→∀t∈l,Ez t.set
 |t::r,⟨h1,h2,h3⟩,u,hu=>by
  rcases Au.1 hu with rfl | hu
  ·exact h2
  ·exact h3.canon u hu
theorem B6.mono{p q:ByteArray}:∀{l:List Tm},B6 (some p) l→Er q p=true→B6 (some q) l
 | [],_,_=>trivial
 |t::r,⟨h1,h2,h3⟩,h=>⟨fun _ e=>by cases e;exact DR h (h1 p rfl),h2,h3⟩
theorem L4:∀{l:List Tm} {lo:Option ByteArray} (t:Tm),B6 lo l→(∀p,lo=some p→Er p t.path=true)→B6 lo (NF t l)
 | [],lo,t,_,h=>⟨h,Cb _,trivial⟩
 |u::r,lo,t,⟨h1,h2,h3⟩,h=>by
  unfold NF;split
  ·rename_i DA;exact⟨h1,h2,L4 t h3 fun p e=>by cases e;exact DA⟩
  ·rename_i DA;split
   ·rename_i he;exact⟨h1,QL _ _,h3⟩
   ·rename_i he;refine⟨h,Cb _,fun p e=>?_,h2,h3⟩;cases e
    have:Er u.path t.path=false:=by simpa using DA
    cases hb:Er t.path u.path with
    |true=>exact hb
    |false=>exact absurd (Ht this hb) he
theorem OA:∀(l acc:List Tm),B6 none acc→B6 none (l.foldl (fun acc t=>NF t acc) acc)
 | [],_,h=>h
 |t::l,acc,h=>OA l _ (L4 t h fun _ e=>by cases e)
theorem Ek(l:List Tm):B6 none (EX l):=OA l [] trivial
theorem CA(t:Tm)(r:List Tm)(p:ByteArray):Dc (t::r) p=if t.path=p then some t else Dc r p:=by
 unfold Dc;rw[EJ];by_cases h:t.path=p<;>simp[h]
theorem Hv{p q:ByteArray}{l:List Tm}(h:B6 (some p) l)(hq:Er p q=false):Dc l q=none:=by
 unfold Dc;rw[DP];intro t ht
 have:=h.low t ht
 simp only[As];intro e;subst e;rw[hq]at this;cases this
def NO(o:Option Tm)(t:Tm):Tm:=match o with | none=>Ln t | some u=>GN u t
theorem PT(o:Option Tm)(t:Tm)(h:∀u,o=some u→u.path=t.path):(NO o t).path=t.path:=by
 cases o with
 |none=>rfl
 |some u=>exact h u rfl
theorem GY{l:List Tm}{p:ByteArray}{u:Tm}(h:Dc l p=some u):u.path=p:=by
 have:=EK h;simpa using this
theorem E7{l:List Tm}{p:ByteArray}{u:Tm}(h:Dc l p=some u):u∈l:=Ce h
theorem Sw:∀{l:List Tm} {lo:Option ByteArray} (t:Tm) (p:ByteArray),B6 lo l→Dc (NF t l) p=if t.path=p then some (NO (Dc l p) t)else Dc l p
 | [],lo,t,p,_=>by
  unfold NF;rw[CA];show(if t.path=p then some (Ln t)else none)=_
  by_cases h:t.path=p<;>simp[h,Dc,NO]
 |u::r,lo,t,p,⟨h1,h2,h3⟩=>by
  unfold NF;split
  ·rename_i DA;rw[CA,CA,Sw t p h3]
   by_cases hu:u.path=p
   ·have:¬t.path=p:=fun e=>H3 DA (hu.trans e.symm)
    simp[hu,this]
   ·simp[hu]
  ·rename_i DA;split
   ·rename_i he;rw[CA,CA];show(if u.path=p then some (GN u t)else _)=_
    by_cases hu:u.path=p
    ·simp[hu,he▸hu,NO]
    ·have:¬t.path=p:=fun e=>hu (he.trans e)
     simp[hu,this]
   ·rename_i he;rw[CA];show(if t.path=p then some (Ln t)else _)=_
    by_cases ht:t.path=p
    ·have hn:Dc (u::r) p=none:=by
      rw[CA];have hu:¬u.path=p:=fun e=>he (e.trans ht.symm);simp only[hu,Gk];exact Hv h3 (by subst ht;simpa using DA)
     simp[ht,hn,NO]
    ·simp[ht]
def JU(p:ByteArray)(o:Option Tm)(t:Tm):Option Tm:=if t.path=p then some (NO o t)else o
theorem QF(p:ByteArray):∀(l acc:List Tm),B6 none acc→Dc (l.foldl (fun acc t=>NF t acc) acc) p=l.foldl (JU p) (Dc acc p)
 | [],_,_=>rfl
 |t::l,acc,h=>by
  rw[Eb,QF p l _ (L4 t h fun _ e=>by cases e),Sw t p h];rfl
theorem I1(l:List Tm)(p:ByteArray):Dc (EX l) p=l.foldl (JU p) none:=QF p l [] trivial
theorem Mj:∀{a b:List Tm} {lo:Option ByteArray},B6 lo a→B6 lo b→(∀p,Dc a p=Dc b p)→a=b
 | [],[],_,_,_,_=>rfl
 | [],z::s,_,_,_,h=>by have:=h z.path;rw[CA,Ao rfl]at this;cases this
 |z::s,[],_,_,_,h=>by have:=h z.path;rw[CA,Ao rfl]at this;cases this
 |y::r,z::s,lo,⟨f1,f2,f3⟩,⟨g1,g2,g3⟩,h=>by
  have e:y=z:=by
   have a1:=h y.path;have a2:=h z.path;rw[CA,Ao rfl,CA]at a1;rw[CA,CA z,Ao rfl]at a2
   by_cases e:z.path=y.path
   ·rw[Ao e]at a1;exact Ct a1
   ·rw[Ah e]at a1;rw[Ah (fun c=>e c.symm)]at a2;have b1:=B6.low g3 y (E7 a1.symm);have b2:=B6.low f3 z (E7 a2)
    have:=DR b1 b2
    rw[CT]at this;cases this
  subst e
  congr 1
  refine Mj f3 g3 fun p=>?_;have hp:=h p;rw[CA,CA]at hp
  by_cases e:y.path=p
  ·subst e;rw[Hv f3 (CT _),Hv g3 (CT _)]
  ·simpa[e]using hp
theorem B6.filter(q:Tm→Bool):∀{l:List Tm} {lo:Option ByteArray},B6 lo l→B6 lo (l.filter q)
 | [],_,_=>trivial
 |t::r,lo,⟨h1,h2,h3⟩=>by
  have ih:=B6.filter q h3;rw[Ci];split
  ·exact⟨h1,h2,ih⟩
  ·cases lo with
   |none=>exact ih.weak
   |some p=>exact ih.mono (h1 p rfl)
theorem FE{l:List Tm}{lo:Option ByteArray}{t:Tm}(h:B6 lo l):t∈l↔Dc l t.path=some t:=by
 constructor
 ·induction l generalizing lo with
  |nil=>intro h;cases h
  |cons u r ih =>
   intro ht;rw[CA];rcases Au.1 ht with rfl | ht
   ·rw[Ao rfl]
   ·have:=B6.low h.2.2 t ht
    rw[Ah (H3 this)];exact ih h.2.2 ht
 ·exact E7
def Db(t:Tm)(o:Option Sl):Bool:=match o with | none=>t.absent | some x=>Cs x.ver&&has t.set (place x.ver)
theorem fT(t:Tm)(s:List Sl):GC t s=Db t (B1 s t.path):=by
 unfold GC Db B1;rfl
theorem LP{s:List Sl}{p:ByteArray}{x:Sl}(h:B1 s p=some x):x.path=p:=by
 have:=EK h;simpa using this
theorem Jh{s:List Sl}{p:ByteArray}{x:Sl}(h:B1 s p=some x):x∈s:=Ce h
theorem JM{s:List Sl}{p:ByteArray}:Cv s p=(B1 s p).isSome:=by
 unfold Cv B1;rw[BO,List.find?_isSome,Bb]
theorem Ze(t:Tm)(o:Option Sl):Db (Ln t) o=Db t o:=by
 unfold Db Ln;cases o<;>simp[Hc]
theorem XN(u t:Tm)(o:Option Sl):Db (GN u t) o=(Db u o&&Db t o):=by
 unfold Db GN;cases o with
 |none=>rfl
 |some x=>simp only[UW];cases Cs x.ver<;>simp
theorem M5(u t:Tm)(o:Option Sl):Db (Da u t) o=(Db u o||Db t o):=by
 unfold Db Da;cases o with
 |none=>rfl
 |some x=>simp only[ce];cases Cs x.ver<;>simp
def T6(p:ByteArray)(o:Option Sl)(l:List Tm):Bool:=l.all fun t=>!decide (t.path=p)||Db t o
theorem JL(p:ByteArray)(o:Option Sl):∀(l:List Tm) (a:Option Tm),(∀u,a=some u→u.path=p) →
  (l.foldl (JU p) a=none↔a=none∧l.all (fun t=>!decide (t.path=p))=true)∧(∀u,l.foldl (JU p) a=some u→u.path=p∧Db u o=((match a with | none=>true | some b=>Db b o)&&T6 p o l))
 | [],a,ha=>by
  refine⟨by simp,fun u h=>?_⟩;have h:a=some u:=h;subst h;exact⟨ha u rfl,by simp[T6]⟩
 |t::l,a,ha=>by
  rw[Eb]
  by_cases e:t.path=p
  ·have hs:JU p a t=some (NO a t):=by unfold JU;rw[Ao e]
   rw[hs];have ih:=JL p o l (some (NO a t)) (fun u h=>by cases h;rw[PT a t fun u h=>(ha u h).trans e.symm];exact e);refine⟨⟨fun h=>?_,fun h=>?_⟩,fun u h=>?_⟩
   ·have:=ih.1.1 h;cases this.1
   ·simp[e]at h
   ·obtain⟨h1,h2⟩:=ih.2 u h;refine⟨h1,?_⟩;rw[h2]
    have:T6 p o (t::l)=(Db t o&&T6 p o l):=by simp[T6,e]
    rw[this];cases a with
    |none=>simp[NO,Ze]
    |some b=>simp[NO,XN,Bool.and_assoc]
  ·have hs:JU p a t=a:=by unfold JU;rw[Ah e]
   rw[hs];have ih:=JL p o l a ha
   have:T6 p o (t::l)=T6 p o l:=by simp[T6,e]
   rw[this];refine⟨?_,ih.2⟩;rw[ih.1];simp[e]
theorem Bx{l:List Tm}{s:List Sl}:Bc l s=true↔∀t∈l,Db t (B1 s t.path)=true:=by
 unfold Bc;rw[Bp];simp only[fT]
theorem Lu(l:List Tm)(s:List Sl):Bc (EX l) s=Bc l s:=by
 rw[BO,Bx,Bx];constructor
 ·intro h t ht
  have:=JL t.path (B1 s t.path) l none (fun _ e=>by cases e)
  rw[←I1]at this;cases e:Dc (EX l) t.path with
  |none =>
   have:=(this.1.1 e).2
   rw[Bp]at this
   have:=this t ht
   simp at this
  |some u =>
   obtain⟨h1,h2⟩:=this.2 u e;have hu:=h u (E7 e);rw[h1,h2]at hu;simp only[Ey,T6,Bp]at hu
   have:=hu t ht
   simpa using this
 ·intro h u hu;have e:=(FE (Ek l)).1 hu
  have:=JL u.path (B1 s u.path) l none (fun _ e=>by cases e)
  rw[←I1]at this;obtain⟨h1,h2⟩:=this.2 u e;rw[h2];simp only[Ey,T6,Bp];intro t ht
  by_cases e:t.path=u.path
  ·have:=h t ht;rw[e]at this;simp[this]
  ·simp[e]
theorem Zs{t:Tm}(h:HH t=true)(o:Option Sl):Db t o=false:=by
 unfold HH at h;simp only[Af,CI,GL]at h;unfold Db;cases o with
 |none=>exact h.1
 |some x=>dsimp only;rw[h.2];simp[has]
def F3(s:List Sl):Prop:=∀x∈s,Cs x.ver=true
theorem JV{v:Ver}(h:Cs v=true):0≤v.a∧v.a≤999∧0≤v.b∧v.b≤999∧0≤v.c∧v.c≤999:=by
 unfold Cs at h;simp only[Af]at h;obtain⟨⟨a,b⟩,c⟩:=h;obtain⟨a1,a2⟩:=A2 a;obtain⟨b1,b2⟩:=A2 b;obtain⟨c1,c2⟩:=A2 c;exact⟨a1,a2,b1,b2,c1,c2⟩
theorem Ju{v:Ver}(h:Cs v=true):0≤place v∧place v<1000000:=by
 have:=JV h;unfold place;omega
theorem T7{t:Tm}(h:Gt t=true){s:List Sl}(hs:F3 s):Db t (B1 s t.path)=true:=by
 unfold Gt at h;simp only[Af,As]at h;unfold Db;cases e:B1 s t.path with
 |none=>exact h.1
 |some x =>
  have:=hs x (Jh e)
  have hp:=Ju this;dsimp only;rw[this,h.2];simp[has,BG,hp]
theorem CR{l:List Tm}{s:List Sl}(hs:F3 s):Bc l s=(match CG l with | none=>false | some c=>Bc c s):=by
 unfold CG;split
 ·rename_i h;split at h
  ·rename_i hn;rw[←Lu,AM];intro hv;rw[Bx]at hv;obtain⟨t,ht,hn⟩:=Bb.1 hn
   have:=hv t ht
   rw[Zs hn]at this;cases this
  ·cases h
 ·rename_i c h;split at h
  ·cases h
  ·rename_i hn;cases h;rw[←Lu,BO,Bx,Bx];constructor
   ·intro h t ht;exact h t (BI.1 ht).1
   ·intro h t ht;cases ha:Gt t with
    |true=>exact T7 ha hs
    |false=>exact h t (BI.2 ⟨ht,by simp[ha]⟩)
theorem GU(a b:List Tm)(s:List Sl):Bc (a++b) s=(Bc a s&&Bc b s):=by unfold Bc;rw[List.all_append]
theorem EM{l c:List Tm}(h:CG l=some c):B6 none c:=by
 unfold CG at h;split at h
 ·cases h
 ·cases h;exact B6.filter _ (Ek l)
theorem FK{l r:List Tm}{p:ByteArray}{t:Tm}{s:List Sl}(hs:F3 s)(h:Fp l p=some (t,r)):Bc l s=(Db t (B1 s p)&&Bc r s)∧t.path=p:=by
 unfold Fp at h;cases hc:CG l with
 |none=>rw[hc]at h;cases h
 |some c =>
  rw[hc]at h;dsimp only at h;cases hf:Dc c p with
  |none=>rw[hf]at h;cases h
  |some u =>
   rw[hf]at h;cases h;have hp:=GY hf;refine⟨?_,hp⟩;rw[CR hs,hc];dsimp only;rw[BO,Af,Bx,Bx];constructor
   ·intro h
    have:=h t (E7 hf)
    rw[hp]at this;exact⟨this,fun v hv=>h v (BI.1 hv).1⟩
   ·intro⟨h1,h2⟩ v hv
    by_cases e:v.path=p
    ·have:=(FE (EM hc)).1 hv
     rw[e,hf]at this;cases this;rw[e];exact h1
    ·exact h2 v (BI.2 ⟨hv,by simp[e]⟩)
theorem TE{a b o:List Tm}{p:ByteArray}{s:List Sl}(hs:F3 s)(h:Bn a b p=(o,0))(hv:Bc o s=true):Bc a s=true∨Bc b s=true:=by
 unfold Bn at h;cases h1:Fp a p with
 |none=>rw[h1]at h;simp at h
 |some x =>
  cases h2:Fp b p with
  |none=>rw[h1,h2]at h;simp at h
  |some y =>
   obtain⟨t,r⟩:=x;obtain⟨u,m⟩:=y;rw[h1,h2]at h;dsimp only at h;cases hc:CG (r++m++[Da t u])with
   |none=>rw[hc]at h;simp at h
   |some c =>
    rw[hc]at h
    have:c=o:=by simpa using h
    subst this;have e:=CR (l:=r++m++[Da t u]) hs;rw[hc]at e;dsimp only at e;rw[hv,GU,GU]at e;simp only[Af]at e;obtain⟨⟨e1,e2⟩,e3⟩:=e;obtain⟨va,pa⟩:=FK hs h1;obtain⟨vb,pb⟩:=FK hs h2;have e3:=Bx.1 e3 _ (Am.2 rfl)
    have:(Da t u).path=p:=pa
    rw[this,M5,Cm]at e3;rcases e3 with e3 | e3
    ·exact .inl (by rw[va,e3,e1];rfl)
    ·exact .inr (by rw[vb,e3,e2];rfl)
theorem PR{l:List Tm}{s:List Sl}(hs:F3 s)(Dt:PQ l≠[]):Bc (PQ l) s=Bc l s:=by
 have:=CR (l:=l) hs
 unfold PQ at *
 cases h:CG l with
 |none=>rw[h]at Dt;exact absurd rfl Dt
 |some c=>rw[h]at this;exact this.symm
-- paths
def G2(c:UInt8):Bool:=decide (97≤c)&&decide (c≤122)
def VQ(c:UInt8):Bool:=decide (65≤c)&&decide (c≤90)
def EV(c:UInt8):Bool:=decide (48≤c)&&decide (c≤57)
def Ml(c:UInt8):Bool:=G2 c||VQ c||EV c||decide (c=95)
def gx:List UInt8:=[32,97,110,100,32,97,110,121,32,97,115,32,98,111,111,108,32,100,101,112,114,101,99,97,116,101,100,32,101,108,115,101,32,101,120,112,111,114,116,32,102,97,108,115,101,32,102,110,32,102,111,108,100,32,102,114,111,109,32,105,102,32,105,109,112,111,114,116,32,105,110,32,105,110,116,32,108,101,110,103,116,104,32,108,101,116,32,108,105,115,116,32,109,97,116,99,104,32,109,111,100,117,108,101,32,110,111,110,101,32,110,111,116,32,111,114,32,116,101,120,116,32,116,104,101,110,32,116,114,117,101,32,116,121,112,101,32,117,115,101,32]
def di:List UInt8→List UInt8→Bool
 | [],_=>true
 |_::_,[]=>false
 |a::x,b::y=>decide (a=b)&&di x y
def s5(x:List UInt8):List UInt8→Bool
 | []=>di x []
 |b::y=>di x (b::y)||s5 x y
def Zk(s:List UInt8):Bool:=s5 (32::(s++[32])) gx
def If(s:List UInt8):Bool:=!s.isEmpty&&decide (s.length≤32)&&G2 (s.headD 0)&&s.all Ml&&!Zk s
def Mf(s:List UInt8):Bool:=If s&&s.all fun c=>G2 c||EV c
def Gx(s:List UInt8):Int:=s.foldl (fun n c=>10*n+((c.toNat:Int)-48)) 0
def LF(s:List UInt8):Option Int:=match s with
 |c::r=>if c=118 then(if r.isEmpty||decide (3<r.length)||(decide (1<r.length)&&decide (r.headD 0=48))||!r.all EV then none else some (Gx r))else none
 | []=>none
def Fo(c:UInt8):List UInt8→List (List UInt8)
 | []=>[[]]
 |b::r=>if b=c then []::Fo c r else match Fo c r with
  | []=>[[b]]
  |x::l=>(b::x)::l
def Zo(p:List UInt8):Option Int:=match LF ((Fo 47 p).getLastD [])with
 |none=>none
 |some n=>if 64<p.length||(Fo 47 p).length<2 then none else if(Fo 47 p).all Mf then some n else none
def CE(p:ByteArray):Option Int:=Zo p.data.toList
-- indexes
def GI(before:Option ByteArray)(q:Rq):Int :=
 if(CE q.path).isNone then 4 else if q.set.isEmpty||!decide (q.set=canon q.set)||(match before with | some b=>!Er b q.path | none=>false)then 1 else 0
def FR(before:Option ByteArray):List Rq→Int
 | []=>0
 |q::r=>if GI before q=0 then FR (some q.path) r else GI before q
def BK(l:List Rq):Int:=if 16<l.length then 7 else FR none l
def EU(s:ByteArray):Bool:=decide (s.size=0)||decide (s.size=32)
def Dj(r:Rl):Int:=match CE r.path with
 |none=>4
 |some m=>if !Cs r.ver||!decide (r.ver.a=m)then 2 else if BK r.reqs≠0 then BK r.reqs else if EU r.arch&&EU r.ifc&&EU r.cert then 0 else 1
def FS(a b:Int):Int:=if a<b then -1 else if b<a then 1 else 0
def JZ(a b:ByteArray):Int:=if Er a b then -1 else if Er b a then 1 else 0
def Oi(a b:Ver):Int:=if FS a.a b.a≠0 then FS a.a b.a else if FS a.b b.b≠0 then FS a.b b.b else FS a.c b.c
def Dz(a b:Rl):Int:=if JZ a.path b.path≠0 then JZ a.path b.path else Oi a.ver b.ver
def Fm(r:Rl):Sl:=⟨r.path,r.ver⟩
def CL(before:Option Rl):List Rl→Int
 | []=>0
 |r::l=>if Dj r≠0 then Dj r else match before with
  |none=>CL (some r) l
  |some b=>if Fm b=Fm r then 5 else if 0<Dz b r then 1 else CL (some r) l
def AQ(l:List Rl):Int:=if 256<l.length then 7 else CL none l
def Ec(x:List Rl)(y:Sl):Option Rl:=if AQ x≠0 then none else x.find? fun r=>decide (Fm r=y)
def J9(x:List Rl)(p:ByteArray):List Rl:=if AQ x≠0 then []else x.filter fun r=>decide (r.path=p)
def BZ(x:List Rl)(p:ByteArray):Bh:=canon (((J9 x p).filter fun r=>!r.yanked).map fun r=>(plc r.ver,plc r.ver+1))
def SQ(before:Option ByteArray):List Sl→Bool
 | []=>true
 |y::r=>(match before with |some b=>Er b y.path |none=>true)&&SQ (some y.path) r
def Fl(s:List Sl):Bool:=SQ none s
-- solutions
-- derivations
def OZ(x:List Rl)(p:ByteArray)(pl:Int):Option Rl:=x.find? fun r=>decide (r.path=p)&&decide (plc r.ver=pl)
def mt:ByteArray:=⟨#[]⟩
def Js{α:Type}(l:List α)(i:Int):Option α:=if i<0 then none else l[i.toNat]?
def cI(l:List Tm):Option (List Tm):=if l.isEmpty then none else some l
def DO(x:List Rl)(roots:List Rq)(d:List (List Tm))(i:Nf):Option (List Tm) :=
 if i.kind=0 then
  if i.path=mt∧i.place=0∧i.left=0∧i.right=0 then(Js roots i.number).map Jw else none
 else if i.kind=1 then
  if i.left=0∧i.right=0 then match OZ x i.path i.place with
   |none=>none
   |some r=>match Js r.reqs i.number with
    |none=>none
    |some q=>cI (Ef i.path i.place q)
  else none
 else if i.kind=2 then
  if i.place=0∧i.number=0∧i.left=0∧i.right=0 then cI (HJ i.path (BZ x i.path))else none
 else if i.kind=3 then
  if i.place=0∧i.number=0 then match Js d i.left,Js d i.right with
   |some a,some b=>if(Bn a b i.path).2=0 then some (Bn a b i.path).1 else none
   |_,_=>none
  else none
 else none
def CZ(x:List Rl)(roots:List Rq):List Nf→List (List Tm)→Option (List (List Tm))
 | [],d=>some d
 |i::l,d=>match DO x roots d i with
  |none=>none
  |some t=>CZ x roots l (d++[t])
-- decisions
def Dn(before:List Sl):List Rq→Option ByteArray→Option ByteArray
 | [],acc=>acc
 |q::l,acc=>Dn before l (if Cv before q.path then acc else match acc with
  |none=>some q.path
  |some p=>if Er q.path p then some q.path else some p)
def Kx(needs:List Rq)(before:List Sl):Option ByteArray:=Dn before needs none
structure yZ where
 before:List Sl
 needs:List Rq
 rel:Rl
-- answers
-- the example
-- the order of releases
theorem Ko{a b:Int}(h:FS a b=0):a=b:=by
 unfold FS at h;split at h
 ·cases h
 ·split at h
  ·cases h
  ·omega
theorem VT{a b:Int}(h:FS a b<0):a<b:=by
 unfold FS at h;split at h
 ·assumption
 ·split at h<;>omega
theorem UO{a b:ByteArray}(h:JZ a b=0):a=b:=by
 unfold JZ at h;cases h1:Er a b with
 |true=>rw[h1]at h;simp at h
 |false =>
  cases h2:Er b a with
  |true=>rw[h1,h2]at h;simp at h
  |false=>exact Ht h1 h2
theorem jH{a b:ByteArray}(h:JZ a b<0):Er a b=true:=by
 unfold JZ at h;cases h1:Er a b with
 |true=>rfl
 |false=>rw[h1]at h;cases h2:Er b a<;>rw[h2]at h<;>simp at h
def kB(a b:Ver):Prop:=a.a<b.a∨(a.a=b.a∧(a.b<b.b∨(a.b=b.b∧a.c<b.c)))
def YF(a b:Rl):Prop:=Er a.path b.path=true∨(a.path=b.path∧kB a.ver b.ver)
theorem aa{a b:Ver}(h:Oi a b<0):kB a b:=by
 unfold Oi at h;split at h
 ·exact .inl (VT h)
 ·rename_i h1;have h1:=Ko (BQ.1 h1);split at h
  ·exact .inr ⟨h1,.inl (VT h)⟩
  ·rename_i h2;exact .inr ⟨h1,.inr ⟨Ko (BQ.1 h2),VT h⟩⟩
theorem bP{a b:Ver}(h:Oi a b=0):a=b:=by
 unfold Oi at h;split at h
 ·rename_i h1;exact absurd h h1
 ·rename_i h1;have h1:=Ko (BQ.1 h1);split at h
  ·rename_i h2;exact absurd h h2
  ·rename_i h2;have h2:=Ko (BQ.1 h2);have h3:=Ko h;cases a;cases b;simp_all
theorem bO{a b:Rl}(h:Dz a b=0):Fm a=Fm b:=by
 unfold Dz at h;split at h
 ·rename_i h1;exact absurd h h1
 ·rename_i h1;have h1:=UO (BQ.1 h1);have h2:=bP h;unfold Fm;rw[h1,h2]
theorem jI{a b:Rl}(h:Dz a b<0):YF a b:=by
 unfold Dz at h;split at h
 ·exact .inl (jH h)
 ·rename_i h1;exact .inr ⟨UO (BQ.1 h1),aa h⟩
theorem cG{a b c:Ver}(h:kB a b)(k:kB b c):kB a c:=by unfold kB at *;omega
theorem U9{a b c:Rl}(h:YF a b)(k:YF b c):YF a c:=by
 rcases h with h | ⟨h1,h2⟩
 ·rcases k with k | ⟨k1,k2⟩
  ·exact .inl (DR h k)
  ·exact .inl (k1▸h)
 ·rcases k with k | ⟨k1,k2⟩
  ·exact .inl (h1▸k)
  ·exact .inr ⟨h1.trans k1,cG h2 k2⟩
theorem GZ{a b:Rl}(h:YF a b)(k:Fm a=Fm b):False:=by
 unfold Fm at k;simp only[Sl.mk.injEq]at k;rcases h with h | ⟨_,h⟩
 ·rw[k.1,CT]at h;cases h
 ·rw[k.2]at h;unfold kB at h;omega
-- a valid index
structure RP(r:Rl):Prop where
 maj:CE r.path=some r.ver.a
 val:Cs r.ver=true
 reqs:BK r.reqs=0
theorem Se{r:Rl}(h:Dj r=0):RP r:=by
 unfold Dj at h;split at h
 ·cases h
 ·rename_i m hm;split at h
  ·cases h
  ·rename_i h1;split at h
   ·rename_i h2;exact absurd h h2
   ·rename_i h2;simp only[Cm,CI,JK,not_or,BQ]at h1;refine⟨by rw[hm,h1.2],by simpa using h1.1,BQ.1 h2⟩
theorem KP:∀{l:List Rl} {b:Option Rl},CL b l=0→(∀r∈l,RP r)∧(l.Pairwise YF∧∀c,b=some c→∀r∈l,YF c r)
 | [],b,_=>⟨fun _ h=>(by cases h),.nil,fun _ _ _ h=>(by cases h)⟩
 |r::l,b,h=>by
  unfold CL at h;split at h
  ·rename_i h1;exact absurd h h1
  ·rename_i h1;have hr:=Se (BQ.1 h1);have go:CL (some r) l=0→(∀c,b=some c→YF c r)→(∀z∈r::l,RP z)∧((r::l).Pairwise YF∧∀c,b=some c→∀z∈r::l,YF c z):=fun h hc=>by
    obtain⟨i1,i2,i3⟩:=KP h;refine⟨fun z hz=>?_,.cons (i3 r rfl) i2,fun c e z hz=>?_⟩
    ·rcases Au.1 hz with rfl | hz
     ·exact hr
     ·exact i1 z hz
    ·rcases Au.1 hz with rfl | hz
     ·exact hc c e
     ·exact U9 (hc c e) (i3 r rfl z hz)
   cases b with
   |none=>exact go h fun _ e=>by cases e
   |some b =>
    dsimp only at h;split at h
    ·cases h
    ·rename_i hk;split at h
     ·cases h
     ·rename_i hc;refine go h fun c e=>?_;cases e;refine jI ?_
      have:Dz b r≠0:=fun e=>hk (bO e)
      omega
theorem Co{l:List Rl}(h:AQ l=0):(∀r∈l,RP r)∧l.Pairwise YF:=by
 unfold AQ at h;split at h
 ·cases h
 ·exact⟨(KP h).1,(KP h).2.1⟩
theorem S7{l:List Rl}(h:l.Pairwise YF){a b:Rl}(ha:a∈l)(hb:b∈l)(hk:Fm a=Fm b):a=b:=by
 induction h with
 |nil=>cases ha
 |cons h1 h2 ih =>
  rcases Au.1 ha with e1 | ha
  ·rcases Au.1 hb with e2 | hb
   ·exact e1.trans e2.symm
   ·exact(GZ (e1▸h1 b hb) hk).elim
  ·rcases Au.1 hb with e2 | hb
   ·exact(GZ (e2▸h1 a ha) hk.symm).elim
   ·exact ih ha hb
theorem WK{a b:Ver}(ha:Cs a=true)(hb:Cs b=true)(h1:a.a=b.a)(h2:place a=place b):a=b:=by
 have:=JV ha
 have:=JV hb
 unfold place at h2;have e1:a.b=b.b:=by omega
 have e2:a.c=b.c:=by omega
 cases a;cases b;simp_all
theorem RP.plc{r:Rl}(h:RP r):plc r.ver=place r.ver:=by unfold Go.Eng.plc;rw[h.val];rfl
theorem aY{l:List Rl}(h:(∀r∈l,RP r)∧l.Pairwise YF){a b:Rl}(ha:a∈l)(hb:b∈l)(h1:a.path=b.path)(h2:place a.ver=place b.ver):a=b:=by
 refine S7 h.2 ha hb ?_
 have:=h.1 a ha
 have:=h.1 b hb
 have e:a.ver.a=b.ver.a:=by
  have e1:=(h.1 a ha).maj;rw[h1,(h.1 b hb).maj]at e1;exact(Ct e1).symm
 unfold Fm;rw[h1,WK (h.1 a ha).val (h.1 b hb).val e h2]
theorem Ks{x:List Rl}{y:Sl}{r:Rl}(h:Ec x y=some r):AQ x=0∧r∈x∧Fm r=y:=by
 unfold Ec at h;split at h
 ·cases h
 ·rename_i h1;refine⟨BQ.1 h1,Ce h,?_⟩
  have:=EK h;simpa using this
structure mE(x:List Rl)(roots:List Rq)(s:List Sl):Prop where
 ix:AQ x=0
 inc:Fl s=true
 fnd:∀y∈s,∃r,Ec x y=some r∧r.yanked=false
 root:∀q∈roots,∃y,B1 s q.path=some y∧has q.set (place y.ver)=true
 req:∀y∈s,∀r,Ec x y=some r→∀q∈r.reqs,∃z,B1 s q.path=some z∧has q.set (place z.ver)=true
theorem NE:∀{s:List Sl} {b:Option ByteArray},SQ b s=true→s.Pairwise (fun a b=>Er a.path b.path=true)∧∀c,b=some c→∀y∈s,Er c y.path=true
 | [],_,_=>⟨.nil,fun _ _ _ h=>by cases h⟩
 |y::r,b,h=>by
  unfold SQ at h;simp only[Af]at h;obtain⟨h1,h2⟩:=h;obtain⟨i1,i2⟩:=NE h2;refine⟨.cons (i2 _ rfl) i1,fun c e z hz=>?_⟩;subst e;rcases Au.1 hz with rfl | hz
  ·exact h1
  ·exact DR h1 (i2 _ rfl z hz)
theorem M2{s:List Sl}(h:s.Pairwise (fun a b=>Er a.path b.path=true)){y:Sl}(hy:y∈s):B1 s y.path=some y:=by
 induction h with
 |nil=>cases hy
 |cons h1 h2 ih =>
  rename_i a l;unfold B1;rw[EJ];rcases Au.1 hy with rfl | hy
  ·simp
  ·have:=H3 (h1 y hy)
   simp only[this,decide_false];exact ih hy
theorem Xt{s:List Sl}(h:Fl s=true){y:Sl}(hy:y∈s):B1 s y.path=some y:=M2 (NE h).1 hy
theorem mE.valid{x:List Rl}{roots:List Rq}{s:List Sl}(h:mE x roots s):F3 s:=fun y hy=>by
 obtain⟨r,h1,_⟩:=h.fnd y hy;obtain⟨_,h2,h3⟩:=Ks h1
 have:=((Co h.ix).1 r h2).val
 rw[←h3];exact this
-- soundness
theorem QV{q:Rq}{s:List Sl}(h:∃y,B1 s q.path=some y∧has q.set (place y.ver)=true):Db (Dy q) (B1 s q.path)=false:=by
 obtain⟨y,h1,h2⟩:=h;rw[h1];unfold Db Dy;dsimp only;rw[FF,h2];simp
theorem gW{l:List Tm}{s:List Sl}(hs:F3 s)(hn:CG l≠none)(hv:Bc l s=false):Bc (PQ l) s=false:=by
 have:=CR (l:=l) hs
 unfold PQ;cases h:CG l with
 |none=>exact absurd h hn
 |some c=>rw[h,hv]at this;exact this.symm
theorem X7{l:List Tm}{s:List Sl}(hs:F3 s){o:List Tm}(h:cI (PQ l)=some o)(hv:Bc l s=false):Bc o s=false:=by
 unfold cI at h;split at h
 ·cases h
 ·rename_i Dt;cases h;rw[PR hs (by intro e;rw[e]at Dt;exact Dt rfl)];exact hv
theorem ZL(q:Rq):CG [Dy q]≠none:=by
 unfold CG EX;simp only[List.foldl,NF]
 have:HH (Ln (Dy q))=false:=by simp[HH,Ln,Dy]
 simp[this]
theorem OV{α:Type}{l:List α}{i:Int}{a:α}(h:Js l i=some a):a∈l:=by
 unfold Js at h;split at h
 ·cases h
 ·exact Ar h
theorem Wo{x:List Rl}{roots:List Rq}{s:List Sl}(hs:mE x roots s){d:List (List Tm)}(hd:∀t∈d,Bc t s=false){i:Nf}{o:List Tm}(h:DO x roots d i=some o):Bc o s=false:=by
 have hv:=hs.valid;unfold DO at h;split at h
 ·split at h
  ·rw[AW]at h;obtain⟨q,hq,rfl⟩:=h;refine gW hv (ZL q) ?_;rw[AM];intro hw
   have:=Bx.1 hw _ (Am.2 rfl)
   rw[show(Dy q).path=q.path from rfl,QV (hs.root q (OV hq))]at this;cases this
  ·cases h
 ·split at h
  ·split at h
   ·split at h
    ·cases h
    ·rename_i r hr;split at h
     ·cases h
     ·rename_i q hq;refine X7 hv h ?_;rw[AM];intro hw;have h1:=Bx.1 hw _ (Aa ..);have h2:=Bx.1 hw (Dy q) (by simp);rw[show(Dy q).path=q.path from rfl]at h2;dsimp only at h1;cases hf:B1 s i.path with
      |none=>rw[hf]at h1;simp[Db]at h1
      |some y =>
       rw[hf]at h1;unfold Db at h1;simp only[Af]at h1;have hp:place y.ver=i.place:=by
        have:=h1.2
        simp only[has,B7,List.any_nil,Rb,Af,BG,As]at this;omega
       have hy:=Jh hf;have vT:=LP hf;obtain⟨r',e1,e2⟩:=hs.fnd y hy;obtain⟨_,m1,k1⟩:=Ks e1;have fW:r∈x:=Ce hr;have pi:=EK hr;simp only[Af,As]at pi;have Gw:=Co hs.ix
       have:r'=r:=by
        refine aY Gw m1 fW ?_ ?_
        ·rw[pi.1,←vT,←k1];rfl
        ·rw[←(Gw.1 r fW).plc,pi.2,←hp,←k1];rfl
       subst this
       have:=hs.req y hy r' e1 q (OV hq)
       rw[QV this]at h2;cases h2
   ·cases h
  ·split at h
   ·split at h
    ·refine X7 hv h ?_;rw[AM];intro hw;have h1:=Bx.1 hw _ (Am.2 rfl);dsimp only at h1;cases hf:B1 s i.path with
     |none=>rw[hf]at h1;simp[Db]at h1
     |some y =>
      rw[hf]at h1;unfold Db at h1;simp only[Af]at h1;have hy:=Jh hf;have vT:=LP hf;obtain⟨r,e1,e2⟩:=hs.fnd y hy;obtain⟨_,m1,k1⟩:=Ks e1;have Gw:=Co hs.ix;have h1:=h1.2;rw[FF]at h1;have je:=Ju (hv y hy)
      have:has (BZ x i.path) (place y.ver)=true:=by
       unfold BZ;rw[Hc];unfold has;simp only[je,decide_true,Ey,Bb,Ak,BI];refine⟨(plc r.ver,plc r.ver+1),⟨r,⟨?_,by simp[e2]⟩,rfl⟩,?_⟩
       ·unfold J9;simp only[hs.ix,Vc,not_true,Gk,BI,m1,true_and,As];rw[←vT,←k1];rfl
       ·rw[(Gw.1 r m1).plc,←k1];rw[DE];exact⟨BM _,by show place r.ver<place r.ver+1;omega⟩
      rw[this]at h1;simp at h1
    ·cases h
   ·split at h
    ·split at h
     ·split at h
      ·rename_i a b ha hb;split at h
       ·rename_i h0;cases h;rw[AM];intro hw;rcases TE hv (o:=(Bn a b i.path).1) (Prod.ext rfl h0) hw with hw | hw
        ·rw[hd a (OV ha)]at hw;cases hw
        ·rw[hd b (OV hb)]at hw;cases hw
       ·cases h
      ·cases h
     ·cases h
    ·cases h
theorem Jg{x:List Rl}{roots:List Rq}{s:List Sl}(hs:mE x roots s):∀{l:List Nf} {d d' : List (List Tm)},(∀t∈d,Bc t s=false)→CZ x roots l d=some d'→∀t∈d',Bc t s=false
 | [],d,d',hd,h=>by cases h;exact hd
 |i::l,d,d',hd,h=>by
  unfold CZ at h;split at h
  ·cases h
  ·rename_i o ho;refine Jg hs (fun t ht=>?_) h;rcases AU.1 ht with ht | ht
   ·exact hd t ht
   ·rw[Am.1 ht];exact Wo hs hd ho
theorem Ij{α:Type}[DecidableEq α]:∀{l m:List α},l.Nodup→(∀x∈l,x∈m)→l.length≤m.length
 | [],_,_,_=>AJ _
 |a::l,m,hn,hs=>by
  rw[CK]at hn;have ha:a∈m:=hs a (Aa ..)
  have:=Ij (l:=l) (m:=m.erase a) hn.2 fun x hx=>by
   have:x≠a:=fun e=>hn.1 (e▸hx)
   exact(List.mem_erase_of_ne this).2 (hs x (Ag _ hx))
  rw[List.length_erase_of_mem ha]at this
  have:=List.length_pos_of_mem ha
  simp only[Av];omega
abbrev VC(s:List Sl):Prop:=s.Pairwise (fun a b=>Er a.path b.path=true)
-- the next path
theorem JR(before:List Sl):∀{l:List Rq} {acc:Option ByteArray},(∀p,acc=some p→Cv before p=false) →
  (∀p,Dn before l acc=some p→Cv before p=false∧(acc=some p∨∃q∈l,q.path=p))∧(Dn before l acc=none→acc=none∧∀q∈l,Cv before q.path=true)
 | [],acc,ha=>⟨fun p h=>⟨ha p h,.inl h⟩,fun h=>⟨h,fun _ h=>(by cases h)⟩⟩
 |q::l,acc,ha=>by
  unfold Dn
  have key:∀bv,(∀p,bv=some p→Cv before p=false)→(∀p,bv=some p→acc=some p∨q.path=p)→(bv=none→acc=none∧Cv before q.path=true) →
    (∀p,Dn before l bv=some p→Cv before p=false∧(acc=some p∨∃q'∈q::l,q'.path=p))∧(Dn before l bv=none→acc=none∧∀q'∈q::l,Cv before q'.path=true):=by
   intro bv h1 h2 h3;obtain⟨i1,i2⟩:=JR before (l:=l) h1;refine⟨fun p h=>?_,fun h=>?_⟩
   ·obtain⟨j1,j2⟩:=i1 p h;refine⟨j1,?_⟩;rcases j2 with j2 | ⟨q',j3,j4⟩
    ·rcases h2 p j2 with h2 | h2
     ·exact .inl h2
     ·exact .inr ⟨q,Aa ..,h2⟩
    ·exact .inr ⟨q',Ag _ j3,j4⟩
   ·obtain⟨j1,j2⟩:=i2 h;obtain⟨k1,k2⟩:=h3 j1;refine⟨k1,fun q' hq=>?_⟩;rcases Au.1 hq with rfl | hq
    ·exact k2
    ·exact j2 q' hq
  cases hb:Cv before q.path with
  |true=>simp only[QK];exact key acc ha (fun p h=>.inl h) fun h=>⟨h,hb⟩
  |false =>
   simp only[Dd,Gk];cases acc with
   |none=>exact key _ (fun p h=>by cases h;exact hb) (fun p h=>by cases h;exact .inr rfl) fun h=>by cases h
   |some p0 =>
    dsimp only;split
    ·exact key _ (fun p h=>by cases h;exact hb) (fun p h=>by cases h;exact .inr rfl) fun h=>by cases h
    ·exact key _ (fun p h=>by cases h;exact ha _ rfl) (fun p h=>by cases h;exact .inl rfl) fun h=>by cases h
theorem Tn{needs:List Rq}{before:List Sl}{p:ByteArray}(h:Kx needs before=some p):Cv before p=false∧∃q∈needs,q.path=p:=by
 obtain⟨h1,h2⟩:=(JR before (l:=needs) (acc:=none) fun _ e=>by cases e).1 p h;rcases h2 with h2 | h2
 ·cases h2
 ·exact⟨h1,h2⟩
theorem Zt{needs:List Rq}{before:List Sl}(h:Kx needs before=none):∀q∈needs,Cv before q.path=true :=
 ((JR before (l:=needs) (acc:=none) fun _ e=>by cases e).2 h).2
theorem SF(a b:List Sl)(p:ByteArray):Cv (a++b) p=(Cv a p||Cv b p):=by unfold Cv;rw[F9]
theorem K3{s:List Sl}{p:ByteArray}:Cv s p=true↔∃y∈s,y.path=p:=by unfold Cv;simp
theorem Hb{s:List Sl}{p:ByteArray}:Cv s p=true↔p∈s.map (·.path):=by rw[K3,Ak]
-- what is needed
-- skips
theorem VW{t:List Tm}{b s:List Sl}(hs:Fl s=true)(hb:∀y∈b,y∈s)(h:Cr t b=true):Bc t s=true:=by
 unfold Cr at h;simp only[Af,CI,Gb]at h;obtain⟨h1,h2⟩:=h;rw[Bx]at h1⊢;intro u hu
 have:=h2 u hu
 simp only[Bool.not_eq_false]at this;rw[JM]at this;cases hf:B1 b u.path with
 |none=>rw[hf]at this;cases this
 |some y =>
  have h3:=h1 u hu;rw[hf]at h3
  have:=Xt hs (hb y (Jh hf))
  rw[LP hf]at this;rw[this];exact h3
-- right answers
-- the first decision that differs
-- prefixes
theorem IY{x:List Rl}{roots:List Rq}:∀{l:List Nf} {d d' : List (List Tm)},CZ x roots l d=some d'→d'.length=d.length+l.length
 | [],d,d',h=>by cases h;rfl
 |i::l,d,d',h=>by
  unfold CZ at h;split at h
  ·cases h
  ·have:=IY h
   simp only[Ad,Av,AF]at this⊢;omega
theorem GS{x:List Rl}{roots:List Rq}:∀(l m:List Nf) (d:List (List Tm)),CZ x roots (l++m) d=match CZ x roots l d with | none=>none | some d'=>CZ x roots m d'
 | [],_,_=>rfl
 |i::l,m,d=>by
  show(match DO x roots d i with | none=>none | some t=>CZ x roots (l++m) (d++[t]))=(match(match DO x roots d i with | none=>none | some t=>CZ x roots l (d++[t]))with | none=>none | some d'=>CZ x roots m d');cases DO x roots d i with
  |none=>rfl
  |some t=>exact GS l m _
theorem Lo{x:List Rl}{roots:List Rq}:∀{l:List Nf} {d d' : List (List Tm)},CZ x roots l d=some d'→d <+: d'
 | [],d,d',h=>by cases h;exact List.prefix_refl _
 |i::l,d,d',h=>by
  unfold CZ at h;split at h
  ·cases h
  ·exact(N4 _ _).trans (Lo h)
theorem MY{x:List Rl}{roots:List Rq}{l:List Nf}{d:List (List Tm)}(h:CZ x roots l []=some d)(k:Nat):CZ x roots (l.take k) []=some (d.take k):=by
 rw[←Li k l,GS]at h;cases e:CZ x roots (l.take k) []with
 |none=>rw[e]at h;cases h
 |some f =>
  rw[e]at h;dsimp only at h;have h1:=IY e;have h2:=IY h;have h3:=Lo h
  congr 1
  simp only[AF,AB,Do]at h1 h2;obtain⟨z,rfl⟩:=h3
  by_cases hk:k≤l.length
  ·rw[G7 (by omega),AE (by omega)]
  ·rw[Ad]at h2
   have:z=[]:=AN (by omega)
   subst this;rw[BP,AE (by omega)]
def KL(l:List Tm):Prop:=CG l=some l
theorem dj{l:List Tm}:∀(l2:List Tm),B6 none (l2++l)→l.foldl (fun acc t=>NF t acc) l2=l2++l:=by
 induction l with
 |nil=>intro l2 _;simp
 |cons t r ih =>
  intro l2 h;have hi:NF t l2=l2++[t]:=by
   have:∀(m:List Tm) (lo:Option ByteArray),B6 lo (m++t::r)→NF t m=m++[t]:=by
    intro m
    induction m with
    |nil =>
     intro lo hm;have hc:Ez t.set:=hm.2.1;unfold NF;rw[show Ln t=t from oH rfl rfl (Je hc)];rfl
    |cons u m ihm =>
     intro lo hm;have hm:B6 lo (u::(m++t::r)):=hm;have DA:=B6.low hm.2.2 t (by simp);unfold NF;rw[Ao DA,ihm _ hm.2.2];rfl
   exact this l2 none h
  rw[Eb,hi]
  have:=ih (l2++[t]) (by rw[BH];exact h)
  rw[this,BH];rfl
theorem PM{l:List Tm}(h:B6 none l):EX l=l:=by
 have:=dj (l:=l) [] h
 simpa[EX]using this
theorem QB{l c:List Tm}(h:CG l=some c):KL c:=by
 have hs:=EM h;unfold KL;unfold CG at h⊢;rw[PM hs];split at h
 ·cases h
 ·rename_i hn;cases h;rw[Ah]
  ·congr 1
   rw[List.filter_filter];simp
  ·rw[Bool.not_eq_true,Gb]at hn⊢;intro t ht;exact hn t (BI.1 ht).1
theorem OB:KL []:=rfl
theorem Ma(l:List Tm):KL (PQ l):=by
 unfold PQ;cases h:CG l with
 |none=>exact OB
 |some c=>exact QB h
theorem Ng(a b:List Tm)(p:ByteArray):KL (Bn a b p).1:=by
 unfold Bn;split
 ·split
  ·rename_i h;exact QB h
  ·exact OB
 ·exact OB
theorem X6{l o:List Tm}(h:cI l=some o):o=l:=by unfold cI at h;split at h<;>cases h;rfl
theorem XR{x:List Rl}{roots:List Rq}{d:List (List Tm)}{i:Nf}{o:List Tm}(h:DO x roots d i=some o):KL o:=by
 unfold DO at h;split at h
 ·split at h
  ·rw[AW]at h;obtain⟨q,_,rfl⟩:=h;exact Ma _
  ·cases h
 ·split at h
  ·split at h
   ·split at h
    ·cases h
    ·split at h
     ·cases h
     ·rw[X6 h];exact Ma _
   ·cases h
  ·split at h
   ·split at h
    ·rw[X6 h];exact Ma _
    ·cases h
   ·split at h
    ·split at h
     ·split at h
      ·split at h
       ·cases h;exact Ng _ _ _
       ·cases h
      ·cases h
     ·cases h
    ·cases h
theorem MX{x:List Rl}{roots:List Rq}:∀{l:List Nf} {d d' : List (List Tm)},(∀t∈d,KL t)→CZ x roots l d=some d'→∀t∈d',KL t
 | [],d,d',hd,h=>by cases h;exact hd
 |i::l,d,d',hd,h=>by
  unfold CZ at h;split at h
  ·cases h
  ·rename_i o ho;refine MX (fun t ht=>?_) h;rcases AU.1 ht with ht | ht
   ·exact hd t ht
   ·rw[Am.1 ht];exact XR ho
-- tampering
end Go.Eng
