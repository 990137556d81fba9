/- Lemmas for the claims of this seat, without a condition: part 1 (P1, P2, P3, P4, P5, P6, P7). -/
import Derived.Test.YtmcbkdbfaneofaaGreatDoorDA00
namespace Go.Eng
def BK(p:Int)(s:Int×Int):Bool:=decide (s.1≤p)&&decide (p<s.2)
def has(s:List (Int×Int))(p:Int):Bool:=decide (0≤p)&&decide (p<1000000)&&s.any (BK p)
abbrev Bn:=List (Int×Int)
def EI(lo:Int):Bn→Prop
 | []=>True
 |y::r=>lo≤y.1∧y.1<y.2∧y.2≤1000000∧EI (y.2+1) r
abbrev EC(l:Bn):Prop:=EI 0 l
def Vx(x:Int×Int):Bn→Bn
 | []=>[x]
 |y::r=>if x.2<y.1 then x::y::r else if y.2<x.1 then y::Vx x r else Vx (min x.1 y.1,max x.2 y.2) r
def Hh(x:Int×Int):Int×Int:=(max x.1 0,min x.2 1000000)
def canon:Bn→Bn
 | []=>[]
 |x::r=>if(Hh x).1<(Hh x).2 then Vx (Hh x) (canon r)else canon r
def KT(at_:Int):Bn→Bn
 | []=>if at_<1000000 then [(at_,1000000)]else []
 |y::r=>if at_<y.1 then(at_,y.1)::KT y.2 r else KT y.2 r
def Eg(s:Bn):Bn:=KT 0 (canon s)
def Qb(l:List Bn):Bn:=canon l.flatten
def PB(l:List Bn):Bn:=Eg (l.map Eg).flatten
def Pa(a b:Bn):Bn:=Qb [a,b]
def OB(a b:Bn):Bn:=PB [a,b]
theorem EI.mono{lo HA : Int}:∀{l:Bn},EI lo l→HA≤lo→EI HA l
 | [],_,_=>trivial
 |_::_,⟨h1,h2,h3,h4⟩,h=>⟨Int.le_trans h h1,h2,h3,h4⟩
theorem EI.low{lo:Int}:∀{l:Bn},EI lo l→∀y∈l,lo≤y.1∧y.1<y.2∧y.2≤1000000
 |y::r,⟨h1,h2,h3,h4⟩,z,hz=>by
  rcases Au.1 hz with rfl | hz
  ·exact⟨h1,h2,h3⟩
  ·have:=h4.low z hz
   exact⟨by omega,this.2.1,this.2.2⟩
theorem DM{p:Int}{s:Int×Int}:BK p s=true↔s.1≤p∧p<s.2:=by simp[BK]
theorem Mj{lo:Int}{l:Bn}(h:EI lo l){p:Int}(hp:l.any (BK p)=true):lo≤p:=by
 obtain⟨y,hy,h2⟩:=A7.1 hp
 have:=h.low y hy
 have:=DM.1 h2
 omega
theorem dG{lo:Int}{l:Bn}(h:EI lo l){p:Int}(hp:l.any (BK p)=true):p<1000000:=by
 obtain⟨y,hy,h2⟩:=A7.1 hp
 have:=h.low y hy
 have:=DM.1 h2
 omega
theorem Nc:∀(l:Bn) {lo:Int} {x:Int×Int},EI lo l→lo≤x.1→x.1<x.2→x.2≤1000000→EI lo (Vx x l)
 | [],lo,x,_,h1,h2,h3=>⟨h1,h2,h3,trivial⟩
 |y::r,lo,x,⟨g1,g2,g3,g4⟩,h1,h2,h3=>by
  unfold Vx;split
  ·exact⟨h1,h2,h3,by omega,g2,g3,g4⟩
  ·split
   ·exact⟨g1,g2,g3,Nc r g4 (by omega) h2 h3⟩
   ·refine Nc r (g4.mono (by omega)) ?_ ?_ ?_<;>dsimp only<;>omega
theorem NY:∀(l:Bn) {lo:Int} {x:Int×Int} (p:Int),EI lo l→x.1<x.2→(Vx x l).any (BK p)=(BK p x||l.any (BK p))
 | [],lo,x,p,_,_=>by simp[Vx]
 |y::r,lo,x,p,⟨g1,g2,g3,g4⟩,h2=>by
  unfold Vx;split
  ·simp
  ·split
   ·rw[Ce,NY r p g4 h2,Ce,←Bool.or_assoc,←Bool.or_assoc,Bool.or_comm (BK p y)]
   ·rw[NY r p g4 (by dsimp only;omega),Ce,←Bool.or_assoc]
    congr 1
    simp only[BK];rw[BV];simp only[Ag,CE,AA];omega
theorem Co:∀s:Bn,EC (canon s)
 | []=>trivial
 |x::r=>by
  unfold canon;split
  ·rename_i h;refine Nc _ (Co r) ?_ h ?_<;>simp only[Hh]<;>omega
  ·exact Co r
theorem Kn:∀(s:Bn) (p:Int),(canon s).any (BK p)=has s p
 | [],p=>by simp[has,canon]
 |x::r,p=>by
  have ih:=Kn r p;unfold canon;have hx:BK p (Hh x)=(decide (0≤p)&&decide (p<1000000)&&BK p x):=by
   simp only[BK,Hh];rw[BV];simp only[Ag,AA,Int.max_le,Int.lt_min];omega
  split
  ·rename_i h;rw[NY _ p (Co r) h,ih,hx];simp only[has,Ce];cases decide (0≤p)<;>cases decide (p<1000000)<;>simp
  ·rename_i h;rw[ih];simp only[has,Ce]
   have:BK p (Hh x)=false:=by
    rw[AI];intro h3
    have:=DM.1 h3
    omega
   rw[this]at hx;cases h1:decide (0≤p)<;>cases h2:decide (p<1000000)<;>simp_all
theorem Hv{l:Bn}(h:EC l)(p:Int):has l p=l.any (BK p):=by
 unfold has;cases e:l.any (BK p)with
 |false=>simp
 |true=>have h1:0≤p:=Mj h e;have h2:=dG h e;simp[h1,h2]
theorem G8(s:Bn)(p:Int):has (canon s) p=has s p:=by
 rw[Hv (Co s),Kn]
theorem MR:∀{a b:Bn} {lo:Int},EI lo a→EI lo b→(∀p,a.any (BK p)=b.any (BK p))→a=b
 | [],[],_,_,_,_=>rfl
 | [],z::s,_,_,⟨g1,g2,g3,g4⟩,h=>by
  have:=h z.1
  rw[Ce,DM.2 ⟨AX _,g2⟩]at this;simp at this
 |y::r,[],_,⟨g1,g2,g3,g4⟩,_,h=>by
  have:=h y.1
  rw[Ce,DM.2 ⟨AX _,g2⟩]at this;simp at this
 |y::r,z::s,lo,⟨f1,f2,f3,f4⟩,⟨g1,g2,g3,g4⟩,h=>by
  have below:∀{x:Int×Int} {t:Bn} {p:Int},EI (x.2+1) t→(x::t).any (BK p)=true→p≤x.2→x.1≤p∧p<x.2:=fun {x t p} ht hp Hi=>by
   rw[Ce,CE]at hp;rcases hp with hp | hp
   ·exact DM.1 hp
   ·have:=Mj ht hp;omega
  have low:∀{x:Int×Int} {t:Bn} {p:Int},x.1<x.2→EI (x.2+1) t→(x::t).any (BK p)=true→x.1≤p:=fun {x t p} hx ht hp=>by
   rw[Ce,CE]at hp;rcases hp with hp | hp
   ·exact(DM.1 hp).1
   ·have:=Mj ht hp;omega
  have cov:∀{x:Int×Int} {t:Bn} {p:Int},x.1≤p→p<x.2→(x::t).any (BK p)=true:=fun {x t p} h1 h2=>by
   rw[Ce,DM.2 ⟨h1,h2⟩,Bool.true_or]
  have e1:y.1=z.1:=by
   have a1:=low f2 f4 ((h z.1).trans (cov (AX _) g2));have a2:=low g2 g4 ((h y.1).symm.trans (cov (AX _) f2));omega
  have e2:y.2=z.2:=by
   rcases Int.lt_trichotomy y.2 z.2 with hl | he | hl
   ·have:=below f4 ((h y.2).trans (cov (by omega) hl)) (AX _);omega
   ·exact he
   ·have:=below g4 ((h z.2).symm.trans (cov (by omega) hl)) (AX _);omega
  have e:y=z:=Prod.ext e1 e2;subst e
  congr 1
  refine MR f4 g4 fun p=>?_;have hp:=h p;simp only[Ce]at hp;cases hs:BK p y with
  |false=>rw[hs,LA,LA]at hp;exact hp
  |true =>
   have:=DM.1 hs
   have n:∀{t:Bn},EI (y.2+1) t→t.any (BK p)=false:=fun {t} ht=>by
    rw[AI];intro hx;have:=Mj ht hx;omega
   rw[n f4,n g4]
theorem Hq{a b:Bn}(ha:EC a)(hb:EC b)(h:∀p,has a p=has b p):a=b :=
 MR ha hb fun p=>by rw[←Hv ha,←Hv hb,h]
theorem RQ{a s:Bn}(ha:EC a)(h:∀p,has a p=has s p):a=canon s :=
 Hq ha (Co s) fun p=>by rw[h,G8]
theorem I7{a:Bn}(ha:EC a):canon a=a:=(RQ ha fun _=>rfl).symm
theorem LV{s:Bn}{p:Int}(h:has s p=true):0≤p∧p<1000000:=by
 unfold has at h;simp only[Ag,AA]at h;exact h.1
def Lw(p:Int):Bool:=decide (0≤p)&&decide (p<1000000)
theorem KU:∀(l:Bn) {at_ lo:Int},0≤at_→EI lo l→lo≤at_+1→at_≤lo→EI at_ (KT at_ l)∧∀p,(KT at_ l).any (BK p)=(decide (at_≤p)&&decide (p<1000000)&&!l.any (BK p))
 | [],at_,lo,h0,_,h1,h2=>by
  unfold KT;split
  ·exact⟨⟨AX _,by dsimp only;omega,AX _,trivial⟩,fun p=>by simp[BK]⟩
  ·refine⟨trivial,fun p=>?_⟩
   have:(decide (at_≤p)&&decide (p<1000000))=false:=by
    rw[AI];simp only[U4,Ag,AA];omega
   simp[this]
 |y::r,at_,lo,h0,⟨g1,g2,g3,g4⟩,h1,h2=>by
  have ih:=KU r (at_:=y.2) (by omega) g4 (AX _) (by omega);have key:∀p,(decide (at_≤p)&&decide (p<y.1)||(KT y.2 r).any (BK p))=(decide (at_≤p)&&decide (p<1000000)&&!(y::r).any (BK p)):=fun p=>by
   rw[ih.2,Ce];cases hr:r.any (BK p)with
   |true =>
    have:=Mj g4 hr
    have a:decide (p<y.1)=false:=Ap (by omega);simp[a]
   |false =>
    rw[BV];simp only[BK,Ag,CE,AA,CQ,Bool.or_false,Bool.and_eq_false_iff,JF,Bool.not_false,and_true];omega
  unfold KT;split
  ·rename_i h;refine⟨⟨AX _,h,by dsimp only;omega,ih.1 |> fun c=>?_⟩,fun p=>?_⟩
   ·dsimp only;cases e:KT y.2 r with
    |nil=>trivial
    |cons z s =>
     rw[e]at c;exact⟨by have:=c.1;omega,c.2⟩
   ·rw[Ce,←key];rfl
  ·rename_i h;refine⟨ih.1.mono (by omega),fun p=>?_⟩;rw[←key]
   have:(decide (at_≤p)&&decide (p<y.1))=false:=by
    rw[AI];simp only[U4,Ag,AA];omega
   rw[this,LA]
theorem G6(s:Bn):EC (Eg s):=by
 unfold Eg;exact(KU _ (AX _) (Co s) (by omega) (AX _)).1
theorem FE(s:Bn)(p:Int):has (Eg s) p=(Lw p&&!has s p):=by
 rw[Hv (G6 s)];unfold Eg;rw[(KU _ (AX _) (Co s) (by omega) (AX _)).2,Kn];rfl
theorem YW(a b:Bn)(p:Int):has (a++b) p=(has a p||has b p):=by
 simp only[has,Hk];cases decide (0≤p)<;>cases decide (p<1000000)<;>simp
theorem LU:∀(l:List Bn) (p:Int),has l.flatten p=l.any fun s=>has s p
 | [],p=>by simp[has]
 |s::l,p=>by rw[Bz,YW,LU l p,Ce]
theorem Sw(l:List Bn)(p:Int):has (Qb l) p=l.any fun s=>has s p:=by
 unfold Qb;rw[G8,LU]
theorem Wq(l:List Bn):EC (Qb l):=Co _
theorem V7(l:List Bn):EC (PB l):=G6 _
theorem Sv(l:List Bn)(p:Int):has (PB l) p=(Lw p&&l.all fun s=>has s p):=by
 unfold PB;rw[FE,LU,List.any_map];cases h:Lw p with
 |false=>rfl
 |true =>
  rw[EB,EB,List.not_any_eq_all_not]
  congr 1
  funext s
  simp[FE,h]
theorem Ye(a b:Bn):EC (Pa a b):=Co _
theorem QC(a b:Bn):EC (OB a b):=G6 _
theorem bK(a b:Bn)(p:Int):has (Pa a b) p=(has a p||has b p):=by
 unfold Pa;rw[Sw];simp
theorem UL(a b:Bn)(p:Int):has (OB a b) p=(has a p&&has b p):=by
 unfold OB;rw[Sv];simp only[List.all_cons,List.all_nil,Bool.and_true];cases h:has a p with
 |false=>simp
 |true=>have:=LV h;simp[Lw,this]
theorem Y4(s:Bn):OB s s=canon s:=Hq (QC _ _) (Co _) fun p=>by rw[UL,G8,Bool.and_self]
theorem TY{s:Bn}:canon s=[]↔∀p,has s p=false:=by
 constructor
 ·intro h p;rw[←G8,h];simp[has]
 ·intro h;exact Hq (Co s) (b:=[]) trivial fun p=>by rw[G8,h p];simp[has]
theorem PJ{s:Bn}(hs:EC s):s=[]↔∀p,has s p=false:=by
 rw[←TY,I7 hs]
def dk(l:List Bn)(p:Int):Nat:=l.countP fun s=>has s p
theorem RP:∀{l:Bn} {lo:Int},EI lo l→lo≤1000000→(l.length:Int)≤1000000-lo
 | [],lo,_,h=>by simp;omega
 |y::r,lo,⟨g1,g2,g3,g4⟩,h=>by
  by_cases h3:y.2+1≤1000000
  ·have:=RP g4 h3
   simp only[At];omega
  ·cases r with
   |nil=>simp;omega
   |cons z s=>have:=g4.1;have:=g4.2.1;have:=g4.2.2.1;omega
theorem HX{l:Bn}(h:EC l):l.length≤1000000:=by have:=RP h (by omega);omega
structure Ver where
 (a b c:Int)
structure Rq where
 path:ByteArray
 set:List (Int×Int)
structure Rl where
 path:ByteArray
 ver:Ver
 reqs:List Rq
 (arch ifc cert:ByteArray)
 yanked:Bool
structure Sl where
 path:ByteArray
 ver:Ver
structure Tm where
 path:ByteArray
 absent:Bool
 set:List (Int×Int)
structure Nf where
 kind:Int
 path:ByteArray
 (place number left right:Int)
structure Sk where
 path:ByteArray
 (place inf:Int)
structure An where
 found:Bool
 sel:List Sl
 infs:List Nf
 skips:List Sk
instance:DecidableEq Ver:=fun x y=>decidable_of_iff (x.a=y.a∧x.b=y.b∧x.c=y.c) ⟨fun⟨h1,h2,h3⟩=>by cases x;cases y;simp_all,fun h=>by subst h;exact⟨rfl,rfl,rfl⟩⟩
instance:DecidableEq Sl:=fun x y=>decidable_of_iff (x.path=y.path∧x.ver=y.ver) ⟨fun⟨h1,h2⟩=>by cases x;cases y;simp_all,fun h=>by subst h;exact⟨rfl,rfl⟩⟩
theorem nX{x y:Tm}(h1:x.path=y.path)(h2:x.absent=y.absent)(h3:x.set=y.set):x=y:=by cases x;cases y;simp_all
def okPart(n:Int):Prop:=0≤n∧n≤999
instance (n:Int):Decidable (okPart n):=by unfold okPart;infer_instance
def CM(v:Ver):Bool:=decide (okPart v.a)&&decide (okPart v.b)&&decide (okPart v.c)
def place(v:Ver):Int:=1000*v.b+v.c
def plc(v:Ver):Int:=if CM v then place v else 0
def Cb(s:List Sl)(p:ByteArray):Option Sl:=s.find? fun x=>decide (x.path=p)
def GB(t:Tm)(s:List Sl):Bool :=
 match s.find? (fun x=>decide (x.path=t.path))with
 |none=>t.absent
 |some x=>CM x.ver&&has t.set (place x.ver)
def CG(s:List Sl)(p:ByteArray):Bool:=s.any fun x=>decide (x.path=p)
def Bh(l:List Tm)(s:List Sl):Bool:=l.all fun t=>GB t s
def CD(l:List Tm)(s:List Sl):Bool:=Bh l s&&!l.any fun t=>!CG s t.path
def J3:List UInt8→List UInt8→Bool
 | [],[]=>false
 | [],_::_=>true
 |_::_,[]=>false
 |a::x,b::y=>decide (a<b)||(decide (a=b)&&J3 x y)
def Ff(a b:ByteArray):Bool:=J3 a.data.toList b.data.toList
theorem QE:∀x,J3 x x=false
 | []=>rfl
 |a::x=>by
  unfold J3;simp[QE x]
theorem SX:∀{x y z},J3 x y=true→J3 y z=true→J3 x z=true
 | [],[],_,h,_=>by simp[J3]at h
 | [],_::_,[],_,h=>by simp[J3]at h
 | [],_::_,_::_,_,_=>rfl
 |_::_,[],_,h,_=>by simp[J3]at h
 |_::_,_::_,[],_,h=>by simp[J3]at h
 |a::x,b::y,c::z,h1,h2=>by
  unfold J3 at *
  simp only[CE,Ag,AA]at *
  rcases h1 with h1 | ⟨rfl,h1⟩
  ·rcases h2 with h2 | ⟨rfl,h2⟩
   ·exact .inl (UInt8.lt_trans h1 h2)
   ·exact .inl h1
  ·rcases h2 with h2 | ⟨rfl,h2⟩
   ·exact .inl h2
   ·exact .inr ⟨rfl,SX h1 h2⟩
theorem XG:∀{x y},J3 x y=false→J3 y x=false→x=y
 | [],[],_,_=>rfl
 | [],_::_,h,_=>by simp[J3]at h
 |_::_,[],_,h=>by simp[J3]at h
 |a::x,b::y,h1,h2=>by
  unfold J3 at *
  simp only[Bool.or_eq_false_iff,Bool.and_eq_false_iff,JF]at *
  have e:a=b:=by
   have l1:=UInt8.not_lt.1 h1.1;have l2:=UInt8.not_lt.1 h2.1;exact UInt8.le_antisymm l2 l1
  subst e
  have:=XG (x:=x) (y:=y) (by simpa using h1.2) (by simpa using h2.2)
  rw[this]
theorem sQ{a b:ByteArray}(h:a.data.toList=b.data.toList):a=b:=by
 cases a;cases b;simp only[ByteArray.mk.injEq];exact Iw.1 h
theorem CY(a:ByteArray):Ff a a=false:=QE _
theorem Eb{a b c:ByteArray}(h:Ff a b=true)(k:Ff b c=true):Ff a c=true:=SX h k
theorem Hp{a b:ByteArray}(h:Ff a b=false)(k:Ff b a=false):a=b:=sQ (XG h k)
theorem Yy{a b:ByteArray}(h:Ff a b=true):a≠b:=fun e=>by subst e;rw[CY]at h;cases h
theorem Pn{a b:ByteArray}(h:Ff a b=true):Ff b a=false:=by
 rw[AI];intro k;have:=Eb h k;rw[CY]at this;cases this
def Li(t:Tm):Tm:=⟨t.path,t.absent,canon t.set⟩
def GO(u t:Tm):Tm:=⟨u.path,u.absent&&t.absent,OB u.set t.set⟩
def Nu(t:Tm):List Tm→List Tm
 | []=>[Li t]
 |u::r=>if Ff u.path t.path then u::Nu t r else if u.path=t.path then GO u t::r else Li t::u::r
def EU(l:List Tm):List Tm:=l.foldl (fun acc t=>Nu t acc) []
def HC(t:Tm):Bool:=!t.absent&&t.set.isEmpty
def Gr(t:Tm):Bool:=t.absent&&decide (t.set=[(0,1000000)])
def CO(l:List Tm):Option (List Tm):=if(EU l).any HC then none else some ((EU l).filter fun t=>!Gr t)
def PK(l:List Tm):List Tm:=(CO l).getD []
def DG(q:Rq):Tm:=⟨q.path,true,Eg q.set⟩
def Jm(q:Rq):List Tm:=PK [DG q]
def Ef(path:ByteArray)(pl:Int)(q:Rq):List Tm:=PK [⟨path,false,[(pl,pl+1)]⟩,DG q]
def HR(path:ByteArray)(o6:Bn):List Tm:=PK [⟨path,false,Eg o6⟩]
def Dj(l:List Tm)(p:ByteArray):Option Tm:=l.find? fun t=>decide (t.path=p)
def FJ(l:List Tm)(p:ByteArray):List Tm:=l.filter fun t=>!decide (t.path=p)
def Dh(a b:Tm):Tm:=⟨a.path,a.absent||b.absent,Pa a.set b.set⟩
def Fj(l:List Tm)(p:ByteArray):Option (Tm×List Tm):=match CO l with
 |none=>none
 |some c=>match Dj c p with
  |none=>none
  |some t=>some (t,FJ c p)
def Bw(a b:List Tm)(p:ByteArray):List Tm×Int :=
 match Fj a p,Fj b p with
 |some (t,r),some (u,m)=>match CO (r++m++[Dh t u])with
  |some o=>(o,0)
  |none=>([],8)
 |_,_=>([],1)
def Cc(lo:Option ByteArray):List Tm→Prop
 | []=>True
 |t::r=>(∀p,lo=some p→Ff p t.path=true)∧EC t.set∧Cc (some t.path) r
theorem Cc.weak{lo:Option ByteArray}:∀{l:List Tm},Cc lo l→Cc none l
 | [],_=>trivial
 |_::_,⟨_,h2,h3⟩=>⟨fun _ h=>(by cases h),h2,h3⟩
theorem Cc.low{p:ByteArray}:∀{l:List Tm},Cc (some p) l→∀t∈l,Ff p t.path=true
 |t::r,⟨h1,h2,h3⟩,u,hu=>by
  rcases Au.1 hu with rfl | hu
  ·exact h1 p rfl
  ·exact Eb (h1 p rfl) (h3.low u hu)
theorem Cc.canon{lo:Option ByteArray}:∀{l:List Tm},Cc lo l→∀t∈l,EC t.set
 |t::r,⟨h1,h2,h3⟩,u,hu=>by
  rcases Au.1 hu with rfl | hu
  ·exact h2
  ·exact h3.canon u hu
theorem Cc.mono{p q:ByteArray}:∀{l:List Tm},Cc (some p) l→Ff q p=true→Cc (some q) l
 | [],_,_=>trivial
 |t::r,⟨h1,h2,h3⟩,h=>⟨fun _ e=>by cases e;exact Eb h (h1 p rfl),h2,h3⟩
theorem LY:∀{l:List Tm} {lo:Option ByteArray} (t:Tm),Cc lo l→(∀p,lo=some p→Ff p t.path=true)→Cc lo (Nu t l)
 | [],lo,t,_,h=>⟨h,Co _,trivial⟩
 |u::r,lo,t,⟨h1,h2,h3⟩,h=>by
  unfold Nu;split
  ·rename_i DI;exact⟨h1,h2,LY t h3 fun p e=>by cases e;exact DI⟩
  ·rename_i DI;split
   ·rename_i he;exact⟨h1,QC _ _,h3⟩
   ·rename_i he;refine⟨h,Co _,fun p e=>?_,h2,h3⟩;cases e
    have:Ff u.path t.path=false:=by simpa using DI
    cases hb:Ff t.path u.path with
    |true=>exact hb
    |false=>exact absurd (Hp this hb) he
theorem Oo:∀(l acc:List Tm),Cc none acc→Cc none (l.foldl (fun acc t=>Nu t acc) acc)
 | [],_,h=>h
 |t::l,acc,h=>Oo l _ (LY t h fun _ e=>by cases e)
theorem Em(l:List Tm):Cc none (EU l):=Oo l [] trivial
theorem CK(t:Tm)(r:List Tm)(p:ByteArray):Dj (t::r) p=if t.path=p then some t else Dj r p:=by
 unfold Dj;rw[Ft];by_cases h:t.path=p<;>simp[h]
theorem Hr{p q:ByteArray}{l:List Tm}(h:Cc (some p) l)(hq:Ff p q=false):Dj l q=none:=by
 unfold Dj;rw[Ek];intro t ht
 have:=h.low t ht
 simp only[AA];intro e;subst e;rw[hq]at this;cases this
def NI(o:Option Tm)(t:Tm):Tm:=match o with | none=>Li t | some u=>GO u t
theorem PN(o:Option Tm)(t:Tm)(h:∀u,o=some u→u.path=t.path):(NI o t).path=t.path:=by
 cases o with
 |none=>rfl
 |some u=>exact h u rfl
theorem GY{l:List Tm}{p:ByteArray}{u:Tm}(h:Dj l p=some u):u.path=p:=by
 have:=Fu h;simpa using this
theorem E5{l:List Tm}{p:ByteArray}{u:Tm}(h:Dj l p=some u):u∈l:=CH h
theorem Si:∀{l:List Tm} {lo:Option ByteArray} (t:Tm) (p:ByteArray),Cc lo l→Dj (Nu t l) p=if t.path=p then some (NI (Dj l p) t)else Dj l p
 | [],lo,t,p,_=>by
  unfold Nu;rw[CK];show(if t.path=p then some (Li t)else none)=_
  by_cases h:t.path=p<;>simp[h,Dj,NI]
 |u::r,lo,t,p,⟨h1,h2,h3⟩=>by
  unfold Nu;split
  ·rename_i DI;rw[CK,CK,Si t p h3]
   by_cases hu:u.path=p
   ·have:¬t.path=p:=fun e=>Yy DI (hu.trans e.symm)
    simp[hu,this]
   ·simp[hu]
  ·rename_i DI;split
   ·rename_i he;rw[CK,CK];show(if u.path=p then some (GO u t)else _)=_
    by_cases hu:u.path=p
    ·simp[hu,he▸hu,NI]
    ·have:¬t.path=p:=fun e=>hu (he.trans e)
     simp[hu,this]
   ·rename_i he;rw[CK];show(if t.path=p then some (Li t)else _)=_
    by_cases ht:t.path=p
    ·have hn:Dj (u::r) p=none:=by
      rw[CK];have hu:¬u.path=p:=fun e=>he (e.trans ht.symm);simp only[hu,Gg];exact Hr h3 (by subst ht;simpa using DI)
     simp[ht,hn,NI]
    ·simp[ht]
def JQ(p:ByteArray)(o:Option Tm)(t:Tm):Option Tm:=if t.path=p then some (NI o t)else o
theorem Qu(p:ByteArray):∀(l acc:List Tm),Cc none acc→Dj (l.foldl (fun acc t=>Nu t acc) acc) p=l.foldl (JQ p) (Dj acc p)
 | [],_,_=>rfl
 |t::l,acc,h=>by
  rw[Fv,Qu p l _ (LY t h fun _ e=>by cases e),Si t p h];rfl
theorem IU(l:List Tm)(p:ByteArray):Dj (EU l) p=l.foldl (JQ p) none:=Qu p l [] trivial
theorem Mg:∀{a b:List Tm} {lo:Option ByteArray},Cc lo a→Cc lo b→(∀p,Dj a p=Dj b p)→a=b
 | [],[],_,_,_,_=>rfl
 | [],z::s,_,_,_,h=>by have:=h z.path;rw[CK,Az rfl]at this;cases this
 |z::s,[],_,_,_,h=>by have:=h z.path;rw[CK,Az rfl]at this;cases this
 |y::r,z::s,lo,⟨f1,f2,f3⟩,⟨g1,g2,g3⟩,h=>by
  have e:y=z:=by
   have a1:=h y.path;have a2:=h z.path;rw[CK,Az rfl,CK]at a1;rw[CK,CK z,Az rfl]at a2
   by_cases e:z.path=y.path
   ·rw[Az e]at a1;exact BM a1
   ·rw[Al e]at a1;rw[Al (fun c=>e c.symm)]at a2;have b1:=Cc.low g3 y (E5 a1.symm);have b2:=Cc.low f3 z (E5 a2)
    have:=Eb b1 b2
    rw[CY]at this;cases this
  subst e
  congr 1
  refine Mg f3 g3 fun p=>?_;have hp:=h p;rw[CK,CK]at hp
  by_cases e:y.path=p
  ·subst e;rw[Hr f3 (CY _),Hr g3 (CY _)]
  ·simpa[e]using hp
theorem Cc.filter(q:Tm→Bool):∀{l:List Tm} {lo:Option ByteArray},Cc lo l→Cc lo (l.filter q)
 | [],_,_=>trivial
 |t::r,lo,⟨h1,h2,h3⟩=>by
  have ih:=Cc.filter q h3;rw[Eo];split
  ·exact⟨h1,h2,ih⟩
  ·cases lo with
   |none=>exact ih.weak
   |some p=>exact ih.mono (h1 p rfl)
theorem FD{l:List Tm}{lo:Option ByteArray}{t:Tm}(h:Cc lo l):t∈l↔Dj l t.path=some t:=by
 constructor
 ·induction l generalizing lo with
  |nil=>intro h;cases h
  |cons u r ih =>
   intro ht;rw[CK];rcases Au.1 ht with rfl | ht
   ·rw[Az rfl]
   ·have:=Cc.low h.2.2 t ht
    rw[Al (Yy this)];exact ih h.2.2 ht
 ·exact E5
def Di(t:Tm)(o:Option Sl):Bool:=match o with | none=>t.absent | some x=>CM x.ver&&has t.set (place x.ver)
theorem fy(t:Tm)(s:List Sl):GB t s=Di t (Cb s t.path):=by
 unfold GB Di Cb;rfl
theorem LO{s:List Sl}{p:ByteArray}{x:Sl}(h:Cb s p=some x):x.path=p:=by
 have:=Fu h;simpa using this
theorem I8{s:List Sl}{p:ByteArray}{x:Sl}(h:Cb s p=some x):x∈s:=CH h
theorem JH{s:List Sl}{p:ByteArray}:CG s p=(Cb s p).isSome:=by
 unfold CG Cb;rw[BV,List.find?_isSome,A7]
theorem Y0(t:Tm)(o:Option Sl):Di (Li t) o=Di t o:=by
 unfold Di Li;cases o<;>simp[G8]
theorem Xu(u t:Tm)(o:Option Sl):Di (GO u t) o=(Di u o&&Di t o):=by
 unfold Di GO;cases o with
 |none=>rfl
 |some x=>simp only[UL];cases CM x.ver<;>simp
theorem M1(u t:Tm)(o:Option Sl):Di (Dh u t) o=(Di u o||Di t o):=by
 unfold Di Dh;cases o with
 |none=>rfl
 |some x=>simp only[bK];cases CM x.ver<;>simp
def TU(p:ByteArray)(o:Option Sl)(l:List Tm):Bool:=l.all fun t=>!decide (t.path=p)||Di t o
theorem JG(p:ByteArray)(o:Option Sl):∀(l:List Tm) (a:Option Tm),(∀u,a=some u→u.path=p) →
  (l.foldl (JQ p) a=none↔a=none∧l.all (fun t=>!decide (t.path=p))=true)∧(∀u,l.foldl (JQ p) a=some u→u.path=p∧Di u o=((match a with | none=>true | some b=>Di b o)&&TU p o l))
 | [],a,ha=>by
  refine⟨by simp,fun u h=>?_⟩;have h:a=some u:=h;subst h;exact⟨ha u rfl,by simp[TU]⟩
 |t::l,a,ha=>by
  rw[Fv]
  by_cases e:t.path=p
  ·have hs:JQ p a t=some (NI a t):=by unfold JQ;rw[Az e]
   rw[hs];have ih:=JG p o l (some (NI a t)) (fun u h=>by cases h;rw[PN a t fun u h=>(ha u h).trans e.symm];exact e);refine⟨⟨fun h=>?_,fun h=>?_⟩,fun u h=>?_⟩
   ·have:=ih.1.1 h;cases this.1
   ·simp[e]at h
   ·obtain⟨h1,h2⟩:=ih.2 u h;refine⟨h1,?_⟩;rw[h2]
    have:TU p o (t::l)=(Di t o&&TU p o l):=by simp[TU,e]
    rw[this];cases a with
    |none=>simp[NI,Y0]
    |some b=>simp[NI,Xu,Bool.and_assoc]
  ·have hs:JQ p a t=a:=by unfold JQ;rw[Al e]
   rw[hs];have ih:=JG p o l a ha
   have:TU p o (t::l)=TU p o l:=by simp[TU,e]
   rw[this];refine⟨?_,ih.2⟩;rw[ih.1];simp[e]
theorem BB{l:List Tm}{s:List Sl}:Bh l s=true↔∀t∈l,Di t (Cb s t.path)=true:=by
 unfold Bh;rw[Bq];simp only[fy]
theorem Lq(l:List Tm)(s:List Sl):Bh (EU l) s=Bh l s:=by
 rw[BV,BB,BB];constructor
 ·intro h t ht
  have:=JG t.path (Cb s t.path) l none (fun _ e=>by cases e)
  rw[←IU]at this;cases e:Dj (EU l) t.path with
  |none =>
   have:=(this.1.1 e).2
   rw[Bq]at this
   have:=this t ht
   simp at this
  |some u =>
   obtain⟨h1,h2⟩:=this.2 u e;have hu:=h u (E5 e);rw[h1,h2]at hu;simp only[EB,TU,Bq]at hu
   have:=hu t ht
   simpa using this
 ·intro h u hu;have e:=(FD (Em l)).1 hu
  have:=JG u.path (Cb s u.path) l none (fun _ e=>by cases e)
  rw[←IU]at this;obtain⟨h1,h2⟩:=this.2 u e;rw[h2];simp only[EB,TU,Bq];intro t ht
  by_cases e:t.path=u.path
  ·have:=h t ht;rw[e]at this;simp[this]
  ·simp[e]
theorem Ze{t:Tm}(h:HC t=true)(o:Option Sl):Di t o=false:=by
 unfold HC at h;simp only[Ag,CQ,GL]at h;unfold Di;cases o with
 |none=>exact h.1
 |some x=>dsimp only;rw[h.2];simp[has]
def F2(s:List Sl):Prop:=∀x∈s,CM x.ver=true
theorem JR{v:Ver}(h:CM v=true):0≤v.a∧v.a≤999∧0≤v.b∧v.b≤999∧0≤v.c∧v.c≤999:=by
 unfold CM at h;simp only[Ag]at h;obtain⟨⟨a,b⟩,c⟩:=h;obtain⟨a1,a2⟩:=BG a;obtain⟨b1,b2⟩:=BG b;obtain⟨c1,c2⟩:=BG c;exact⟨a1,a2,b1,b2,c1,c2⟩
theorem Jl{v:Ver}(h:CM v=true):0≤place v∧place v<1000000:=by
 have:=JR h;unfold place;omega
theorem TV{t:Tm}(h:Gr t=true){s:List Sl}(hs:F2 s):Di t (Cb s t.path)=true:=by
 unfold Gr at h;simp only[Ag,AA]at h;unfold Di;cases e:Cb s t.path with
 |none=>exact h.1
 |some x =>
  have:=hs x (I8 e)
  have hp:=Jl this;dsimp only;rw[this,h.2];simp[has,BK,hp]
theorem CX{l:List Tm}{s:List Sl}(hs:F2 s):Bh l s=(match CO l with | none=>false | some c=>Bh c s):=by
 unfold CO;split
 ·rename_i h;split at h
  ·rename_i hn;rw[←Lq,AI];intro hv;rw[BB]at hv;obtain⟨t,ht,hn⟩:=A7.1 hn
   have:=hv t ht
   rw[Ze hn]at this;cases this
  ·cases h
 ·rename_i c h;split at h
  ·cases h
  ·rename_i hn;cases h;rw[←Lq,BV,BB,BB];constructor
   ·intro h t ht;exact h t (Bx.1 ht).1
   ·intro h t ht;cases ha:Gr t with
    |true=>exact TV ha hs
    |false=>exact h t (Bx.2 ⟨ht,by simp[ha]⟩)
theorem GV(a b:List Tm)(s:List Sl):Bh (a++b) s=(Bh a s&&Bh b s):=by unfold Bh;rw[List.all_append]
theorem EK{l c:List Tm}(h:CO l=some c):Cc none c:=by
 unfold CO at h;split at h
 ·cases h
 ·cases h;exact Cc.filter _ (Em l)
theorem FI{l r:List Tm}{p:ByteArray}{t:Tm}{s:List Sl}(hs:F2 s)(h:Fj l p=some (t,r)):Bh l s=(Di t (Cb s p)&&Bh r s)∧t.path=p:=by
 unfold Fj at h;cases hc:CO l with
 |none=>rw[hc]at h;cases h
 |some c =>
  rw[hc]at h;dsimp only at h;cases hf:Dj c p with
  |none=>rw[hf]at h;cases h
  |some u =>
   rw[hf]at h;cases h;have hp:=GY hf;refine⟨?_,hp⟩;rw[CX hs,hc];dsimp only;rw[BV,Ag,BB,BB];constructor
   ·intro h
    have:=h t (E5 hf)
    rw[hp]at this;exact⟨this,fun v hv=>h v (Bx.1 hv).1⟩
   ·intro⟨h1,h2⟩ v hv
    by_cases e:v.path=p
    ·have:=(FD (EK hc)).1 hv
     rw[e,hf]at this;cases this;rw[e];exact h1
    ·exact h2 v (Bx.2 ⟨hv,by simp[e]⟩)
theorem Tu{a b o:List Tm}{p:ByteArray}{s:List Sl}(hs:F2 s)(h:Bw a b p=(o,0))(hv:Bh o s=true):Bh a s=true∨Bh b s=true:=by
 unfold Bw at h;cases h1:Fj a p with
 |none=>rw[h1]at h;simp at h
 |some x =>
  cases h2:Fj b p with
  |none=>rw[h1,h2]at h;simp at h
  |some y =>
   obtain⟨t,r⟩:=x;obtain⟨u,m⟩:=y;rw[h1,h2]at h;dsimp only at h;cases hc:CO (r++m++[Dh t u])with
   |none=>rw[hc]at h;simp at h
   |some c =>
    rw[hc]at h
    have:c=o:=by simpa using h
    subst this;have e:=CX (l:=r++m++[Dh t u]) hs;rw[hc]at e;dsimp only at e;rw[hv,GV,GV]at e;simp only[Ag]at e;obtain⟨⟨e1,e2⟩,e3⟩:=e;obtain⟨va,pa⟩:=FI hs h1;obtain⟨vb,pb⟩:=FI hs h2;have e3:=BB.1 e3 _ (Ai.2 rfl)
    have:(Dh t u).path=p:=pa
    rw[this,M1,CE]at e3;rcases e3 with e3 | e3
    ·exact .inl (by rw[va,e3,e1];rfl)
    ·exact .inr (by rw[vb,e3,e2];rfl)
theorem PL{l:List Tm}{s:List Sl}(hs:F2 s)(DD:PK l≠[]):Bh (PK l) s=Bh l s:=by
 have:=CX (l:=l) hs
 unfold PK at *
 cases h:CO l with
 |none=>rw[h]at DD;exact absurd rfl DD
 |some c=>rw[h]at this;exact this.symm
-- paths
def G1(c:UInt8):Bool:=decide (97≤c)&&decide (c≤122)
def VF(c:UInt8):Bool:=decide (65≤c)&&decide (c≤90)
def ER(c:UInt8):Bool:=decide (48≤c)&&decide (c≤57)
def Mh(c:UInt8):Bool:=G1 c||VF c||ER c||decide (c=95)
def fR:List UInt8:=[32,97,110,100,32,97,110,121,32,97,115,32,98,111,111,108,32,100,101,112,114,101,99,97,116,101,100,32,101,108,115,101,32,101,120,112,111,114,116,32,102,97,108,115,101,32,102,110,32,102,111,108,100,32,102,114,111,109,32,105,102,32,105,109,112,111,114,116,32,105,110,32,105,110,116,32,108,101,110,103,116,104,32,108,101,116,32,108,105,115,116,32,109,97,116,99,104,32,109,111,100,117,108,101,32,110,111,110,101,32,110,111,116,32,111,114,32,116,101,120,116,32,116,104,101,110,32,116,114,117,101,32,116,121,112,101,32,117,115,101,32]
def cS:List UInt8→List UInt8→Bool
 | [],_=>true
 |_::_,[]=>false
 |a::x,b::y=>decide (a=b)&&cS x y
def si(x:List UInt8):List UInt8→Bool
 | []=>cS x []
 |b::y=>cS x (b::y)||si x y
def Y6(s:List UInt8):Bool:=si (32::(s++[32])) fR
def Ia(s:List UInt8):Bool:=!s.isEmpty&&decide (s.length≤32)&&G1 (s.headD 0)&&s.all Mh&&!Y6 s
def Mb(s:List UInt8):Bool:=Ia s&&s.all fun c=>G1 c||ER c
def Gx(s:List UInt8):Int:=s.foldl (fun n c=>10*n+((c.toNat:Int)-48)) 0
def Lz(s:List UInt8):Option Int:=match s with
 |c::r=>if c=118 then(if r.isEmpty||decide (3<r.length)||(decide (1<r.length)&&decide (r.headD 0=48))||!r.all ER then none else some (Gx r))else none
 | []=>none
def Fi(c:UInt8):List UInt8→List (List UInt8)
 | []=>[[]]
 |b::r=>if b=c then []::Fi c r else match Fi c r with
  | []=>[[b]]
  |x::l=>(b::x)::l
def Za(p:List UInt8):Option Int:=match Lz ((Fi 47 p).getLastD [])with
 |none=>none
 |some n=>if 64<p.length||(Fi 47 p).length<2 then none else if(Fi 47 p).all Mb then some n else none
def Cr(p:ByteArray):Option Int:=Za p.data.toList
-- indexes
def GH(before:Option ByteArray)(q:Rq):Int :=
 if(Cr q.path).isNone then 4 else if q.set.isEmpty||!decide (q.set=canon q.set)||(match before with | some b=>!Ff b q.path | none=>false)then 1 else 0
def FN(before:Option ByteArray):List Rq→Int
 | []=>0
 |q::r=>if GH before q=0 then FN (some q.path) r else GH before q
def BS(l:List Rq):Int:=if 16<l.length then 7 else FN none l
def EQ(s:ByteArray):Bool:=decide (s.size=0)||decide (s.size=32)
def Dy(r:Rl):Int:=match Cr r.path with
 |none=>4
 |some m=>if !CM r.ver||!decide (r.ver.a=m)then 2 else if BS r.reqs≠0 then BS r.reqs else if EQ r.arch&&EQ r.ifc&&EQ r.cert then 0 else 1
def FO(a b:Int):Int:=if a<b then -1 else if b<a then 1 else 0
def Gt(a b:ByteArray):Int:=if Ff a b then -1 else if Ff b a then 1 else 0
def LH(a b:Ver):Int:=if FO a.a b.a≠0 then FO a.a b.a else if FO a.b b.b≠0 then FO a.b b.b else FO a.c b.c
def RT(a b:Rl):Int:=if Gt a.path b.path≠0 then Gt a.path b.path else LH a.ver b.ver
def GQ(r:Rl):Sl:=⟨r.path,r.ver⟩
def Dw(before:Option Rl):List Rl→Int
 | []=>0
 |r::l=>if Dy r≠0 then Dy r else match before with
  |none=>Dw (some r) l
  |some b=>if GQ b=GQ r then 5 else if 0<RT b r then 1 else Dw (some r) l
def A9(l:List Rl):Int:=if 256<l.length then 7 else Dw none l
def Nl(x:List Rl)(y:Sl):Option Rl:=if A9 x≠0 then none else x.find? fun r=>decide (GQ r=y)
def J5(x:List Rl)(p:ByteArray):List Rl:=if A9 x≠0 then []else x.filter fun r=>decide (r.path=p)
def B8(x:List Rl)(p:ByteArray):Bn:=canon (((J5 x p).filter fun r=>!r.yanked).map fun r=>(plc r.ver,plc r.ver+1))
def SF(before:Option ByteArray):List Sl→Bool
 | []=>true
 |y::r=>(match before with |some b=>Ff b y.path |none=>true)&&SF (some y.path) r
def K2(s:List Sl):Bool:=SF none s
-- solutions
-- derivations
def OS(x:List Rl)(p:ByteArray)(pl:Int):Option Rl:=x.find? fun r=>decide (r.path=p)&&decide (plc r.ver=pl)
def mt:ByteArray:=⟨#[]⟩
def Jj{α:Type}(l:List α)(i:Int):Option α:=if i<0 then none else l[i.toNat]?
def cp(l:List Tm):Option (List Tm):=if l.isEmpty then none else some l
def DR(x:List Rl)(roots:List Rq)(d:List (List Tm))(i:Nf):Option (List Tm) :=
 if i.kind=0 then
  if i.path=mt∧i.place=0∧i.left=0∧i.right=0 then(Jj roots i.number).map Jm else none
 else if i.kind=1 then
  if i.left=0∧i.right=0 then match OS x i.path i.place with
   |none=>none
   |some r=>match Jj r.reqs i.number with
    |none=>none
    |some q=>cp (Ef i.path i.place q)
  else none
 else if i.kind=2 then
  if i.place=0∧i.number=0∧i.left=0∧i.right=0 then cp (HR i.path (B8 x i.path))else none
 else if i.kind=3 then
  if i.place=0∧i.number=0 then match Jj d i.left,Jj d i.right with
   |some a,some b=>if(Bw a b i.path).2=0 then some (Bw a b i.path).1 else none
   |_,_=>none
  else none
 else none
def Dd(x:List Rl)(roots:List Rq):List Nf→List (List Tm)→Option (List (List Tm))
 | [],d=>some d
 |i::l,d=>match DR x roots d i with
  |none=>none
  |some t=>Dd x roots l (d++[t])
-- decisions
def Dt(before:List Sl):List Rq→Option ByteArray→Option ByteArray
 | [],acc=>acc
 |q::l,acc=>Dt before l (if CG before q.path then acc else match acc with
  |none=>some q.path
  |some p=>if Ff q.path p then some q.path else some p)
def Kz(needs:List Rq)(before:List Sl):Option ByteArray:=Dt before needs none
structure yo where
 before:List Sl
 needs:List Rq
 rel:Rl
-- answers
-- the example
-- the order of releases
theorem Ko{a b:Int}(h:FO a b=0):a=b:=by
 unfold FO at h;split at h
 ·cases h
 ·split at h
  ·cases h
  ·omega
theorem VK{a b:Int}(h:FO a b<0):a<b:=by
 unfold FO at h;split at h
 ·assumption
 ·split at h<;>omega
theorem UB{a b:ByteArray}(h:Gt a b=0):a=b:=by
 unfold Gt at h;cases h1:Ff a b with
 |true=>rw[h1]at h;simp at h
 |false =>
  cases h2:Ff b a with
  |true=>rw[h1,h2]at h;simp at h
  |false=>exact Hp h1 h2
theorem jr{a b:ByteArray}(h:Gt a b<0):Ff a b=true:=by
 unfold Gt at h;cases h1:Ff a b with
 |true=>rfl
 |false=>rw[h1]at h;cases h2:Ff b a<;>rw[h2]at h<;>simp at h
def dx(a b:Ver):Prop:=a.a<b.a∨(a.a=b.a∧(a.b<b.b∨(a.b=b.b∧a.c<b.c)))
def XI(a b:Rl):Prop:=Ff a.path b.path=true∨(a.path=b.path∧dx a.ver b.ver)
theorem ZN{a b:Ver}(h:LH a b<0):dx a b:=by
 unfold LH at h;split at h
 ·exact .inl (VK h)
 ·rename_i h1;have h1:=Ko (BL.1 h1);split at h
  ·exact .inr ⟨h1,.inl (VK h)⟩
  ·rename_i h2;exact .inr ⟨h1,.inr ⟨Ko (BL.1 h2),VK h⟩⟩
theorem UC{a b:Ver}(h:LH a b=0):a=b:=by
 unfold LH at h;split at h
 ·rename_i h1;exact absurd h h1
 ·rename_i h1;have h1:=Ko (BL.1 h1);split at h
  ·rename_i h2;exact absurd h h2
  ·rename_i h2;have h2:=Ko (BL.1 h2);have h3:=Ko h;cases a;cases b;simp_all
theorem bv{a b:Rl}(h:RT a b=0):GQ a=GQ b:=by
 unfold RT at h;split at h
 ·rename_i h1;exact absurd h h1
 ·rename_i h1;have h1:=UB (BL.1 h1);have h2:=UC h;unfold GQ;rw[h1,h2]
theorem js{a b:Rl}(h:RT a b<0):XI a b:=by
 unfold RT at h;split at h
 ·exact .inl (jr h)
 ·rename_i h1;exact .inr ⟨UB (BL.1 h1),ZN h⟩
theorem U2{a b c:Ver}(h:dx a b)(k:dx b c):dx a c:=by unfold dx at *;omega
theorem U0{a b c:Rl}(h:XI a b)(k:XI b c):XI a c:=by
 rcases h with h | ⟨h1,h2⟩
 ·rcases k with k | ⟨k1,k2⟩
  ·exact .inl (Eb h k)
  ·exact .inl (k1▸h)
 ·rcases k with k | ⟨k1,k2⟩
  ·exact .inl (h1▸k)
  ·exact .inr ⟨h1.trans k1,U2 h2 k2⟩
theorem Jf{a b:Rl}(h:XI a b)(k:GQ a=GQ b):False:=by
 unfold GQ at k;simp only[Sl.mk.injEq]at k;rcases h with h | ⟨_,h⟩
 ·rw[k.1,CY]at h;cases h
 ·rw[k.2]at h;unfold dx at h;omega
-- a valid index
structure RD(r:Rl):Prop where
 maj:Cr r.path=some r.ver.a
 val:CM r.ver=true
 reqs:BS r.reqs=0
theorem YD{r:Rl}(h:Dy r=0):RD r:=by
 unfold Dy at h;split at h
 ·cases h
 ·rename_i m hm;split at h
  ·cases h
  ·rename_i h1;split at h
   ·rename_i h2;exact absurd h h2
   ·rename_i h2;simp only[CE,CQ,JF,not_or,BL]at h1;refine⟨by rw[hm,h1.2],by simpa using h1.1,BL.1 h2⟩
theorem KP:∀{l:List Rl} {b:Option Rl},Dw b l=0→(∀r∈l,RD r)∧(l.Pairwise XI∧∀c,b=some c→∀r∈l,XI c r)
 | [],b,_=>⟨fun _ h=>(by cases h),.nil,fun _ _ _ h=>(by cases h)⟩
 |r::l,b,h=>by
  unfold Dw at h;split at h
  ·rename_i h1;exact absurd h h1
  ·rename_i h1;have hr:=YD (BL.1 h1);have go:Dw (some r) l=0→(∀c,b=some c→XI c r)→(∀z∈r::l,RD z)∧((r::l).Pairwise XI∧∀c,b=some c→∀z∈r::l,XI c z):=fun h hc=>by
    obtain⟨i1,i2,i3⟩:=KP h;refine⟨fun z hz=>?_,.cons (i3 r rfl) i2,fun c e z hz=>?_⟩
    ·rcases Au.1 hz with rfl | hz
     ·exact hr
     ·exact i1 z hz
    ·rcases Au.1 hz with rfl | hz
     ·exact hc c e
     ·exact U0 (hc c e) (i3 r rfl z hz)
   cases b with
   |none=>exact go h fun _ e=>by cases e
   |some b =>
    dsimp only at h;split at h
    ·cases h
    ·rename_i hk;split at h
     ·cases h
     ·rename_i hc;refine go h fun c e=>?_;cases e;refine js ?_
      have:RT b r≠0:=fun e=>hk (bv e)
      omega
theorem Cz{l:List Rl}(h:A9 l=0):(∀r∈l,RD r)∧l.Pairwise XI:=by
 unfold A9 at h;split at h
 ·cases h
 ·exact⟨(KP h).1,(KP h).2.1⟩
theorem SQ{l:List Rl}(h:l.Pairwise XI){a b:Rl}(ha:a∈l)(hb:b∈l)(hk:GQ a=GQ b):a=b:=by
 induction h with
 |nil=>cases ha
 |cons h1 h2 ih =>
  rcases Au.1 ha with e1 | ha
  ·rcases Au.1 hb with e2 | hb
   ·exact e1.trans e2.symm
   ·exact(Jf (e1▸h1 b hb) hk).elim
  ·rcases Au.1 hb with e2 | hb
   ·exact(Jf (e2▸h1 a ha) hk.symm).elim
   ·exact ih ha hb
theorem Wt{a b:Ver}(ha:CM a=true)(hb:CM b=true)(h1:a.a=b.a)(h2:place a=place b):a=b:=by
 have:=JR ha
 have:=JR hb
 unfold place at h2;have e1:a.b=b.b:=by omega
 have e2:a.c=b.c:=by omega
 cases a;cases b;simp_all
theorem RD.plc{r:Rl}(h:RD r):plc r.ver=place r.ver:=by unfold Go.Eng.plc;rw[h.val];rfl
theorem aH{l:List Rl}(h:(∀r∈l,RD r)∧l.Pairwise XI){a b:Rl}(ha:a∈l)(hb:b∈l)(h1:a.path=b.path)(h2:place a.ver=place b.ver):a=b:=by
 refine SQ h.2 ha hb ?_
 have:=h.1 a ha
 have:=h.1 b hb
 have e:a.ver.a=b.ver.a:=by
  have e1:=(h.1 a ha).maj;rw[h1,(h.1 b hb).maj]at e1;exact(BM e1).symm
 unfold GQ;rw[h1,Wt (h.1 a ha).val (h.1 b hb).val e h2]
theorem Pw{x:List Rl}{y:Sl}{r:Rl}(h:Nl x y=some r):A9 x=0∧r∈x∧GQ r=y:=by
 unfold Nl at h;split at h
 ·cases h
 ·rename_i h1;refine⟨BL.1 h1,CH h,?_⟩
  have:=Fu h;simpa using this
structure oh(x:List Rl)(roots:List Rq)(s:List Sl):Prop where
 ix:A9 x=0
 inc:K2 s=true
 fnd:∀y∈s,∃r,Nl x y=some r∧r.yanked=false
 root:∀q∈roots,∃y,Cb s q.path=some y∧has q.set (place y.ver)=true
 req:∀y∈s,∀r,Nl x y=some r→∀q∈r.reqs,∃z,Cb s q.path=some z∧has q.set (place z.ver)=true
theorem SJ:∀{s:List Sl} {b:Option ByteArray},SF b s=true→s.Pairwise (fun a b=>Ff a.path b.path=true)∧∀c,b=some c→∀y∈s,Ff c y.path=true
 | [],_,_=>⟨.nil,fun _ _ _ h=>by cases h⟩
 |y::r,b,h=>by
  unfold SF at h;simp only[Ag]at h;obtain⟨h1,h2⟩:=h;obtain⟨i1,i2⟩:=SJ h2;refine⟨.cons (i2 _ rfl) i1,fun c e z hz=>?_⟩;subst e;rcases Au.1 hz with rfl | hz
  ·exact h1
  ·exact Eb h1 (i2 _ rfl z hz)
theorem MX{s:List Sl}(h:s.Pairwise (fun a b=>Ff a.path b.path=true)){y:Sl}(hy:y∈s):Cb s y.path=some y:=by
 induction h with
 |nil=>cases hy
 |cons h1 h2 ih =>
  rename_i a l;unfold Cb;rw[Ft];rcases Au.1 hy with rfl | hy
  ·simp
  ·have:=Yy (h1 y hy)
   simp only[this,decide_false];exact ih hy
theorem Xc{s:List Sl}(h:K2 s=true){y:Sl}(hy:y∈s):Cb s y.path=some y:=MX (SJ h).1 hy
theorem oh.valid{x:List Rl}{roots:List Rq}{s:List Sl}(h:oh x roots s):F2 s:=fun y hy=>by
 obtain⟨r,h1,_⟩:=h.fnd y hy;obtain⟨_,h2,h3⟩:=Pw h1
 have:=((Cz h.ix).1 r h2).val
 rw[←h3];exact this
-- soundness
theorem QM{q:Rq}{s:List Sl}(h:∃y,Cb s q.path=some y∧has q.set (place y.ver)=true):Di (DG q) (Cb s q.path)=false:=by
 obtain⟨y,h1,h2⟩:=h;rw[h1];unfold Di DG;dsimp only;rw[FE,h2];simp
theorem gE{l:List Tm}{s:List Sl}(hs:F2 s)(hn:CO l≠none)(hv:Bh l s=false):Bh (PK l) s=false:=by
 have:=CX (l:=l) hs
 unfold PK;cases h:CO l with
 |none=>exact absurd h hn
 |some c=>rw[h,hv]at this;exact this.symm
theorem XS{l:List Tm}{s:List Sl}(hs:F2 s){o:List Tm}(h:cp (PK l)=some o)(hv:Bh l s=false):Bh o s=false:=by
 unfold cp at h;split at h
 ·cases h
 ·rename_i DD;cases h;rw[PL hs (by intro e;rw[e]at DD;exact DD rfl)];exact hv
theorem Zw(q:Rq):CO [DG q]≠none:=by
 unfold CO EU;simp only[List.foldl,Nu]
 have:HC (Li (DG q))=false:=by simp[HC,Li,DG]
 simp[this]
theorem OO{α:Type}{l:List α}{i:Int}{a:α}(h:Jj l i=some a):a∈l:=by
 unfold Jj at h;split at h
 ·cases h
 ·exact Av h
theorem V5{x:List Rl}{roots:List Rq}{s:List Sl}(hs:oh x roots s){d:List (List Tm)}(hd:∀t∈d,Bh t s=false){i:Nf}{o:List Tm}(h:DR x roots d i=some o):Bh o s=false:=by
 have hv:=hs.valid;unfold DR at h;split at h
 ·split at h
  ·rw[AZ]at h;obtain⟨q,hq,rfl⟩:=h;refine gE hv (Zw q) ?_;rw[AI];intro hw
   have:=BB.1 hw _ (Ai.2 rfl)
   rw[show(DG q).path=q.path from rfl,QM (hs.root q (OO hq))]at this;cases this
  ·cases h
 ·split at h
  ·split at h
   ·split at h
    ·cases h
    ·rename_i r hr;split at h
     ·cases h
     ·rename_i q hq;refine XS hv h ?_;rw[AI];intro hw;have h1:=BB.1 hw _ (Aa ..);have h2:=BB.1 hw (DG q) (by simp);rw[show(DG q).path=q.path from rfl]at h2;dsimp only at h1;cases hf:Cb s i.path with
      |none=>rw[hf]at h1;simp[Di]at h1
      |some y =>
       rw[hf]at h1;unfold Di at h1;simp only[Ag]at h1;have hp:place y.ver=i.place:=by
        have:=h1.2
        simp only[has,Ce,List.any_nil,Bool.or_false,Ag,BK,AA]at this;omega
       have hy:=I8 hf;have uV:=LO hf;obtain⟨r',e1,e2⟩:=hs.fnd y hy;obtain⟨_,m1,k1⟩:=Pw e1;have fD:r∈x:=CH hr;have oH:=Fu hr;simp only[Ag,AA]at oH;have Gw:=Cz hs.ix
       have:r'=r:=by
        refine aH Gw m1 fD ?_ ?_
        ·rw[oH.1,←uV,←k1];rfl
        ·rw[←(Gw.1 r fD).plc,oH.2,←hp,←k1];rfl
       subst this
       have:=hs.req y hy r' e1 q (OO hq)
       rw[QM this]at h2;cases h2
   ·cases h
  ·split at h
   ·split at h
    ·refine XS hv h ?_;rw[AI];intro hw;have h1:=BB.1 hw _ (Ai.2 rfl);dsimp only at h1;cases hf:Cb s i.path with
     |none=>rw[hf]at h1;simp[Di]at h1
     |some y =>
      rw[hf]at h1;unfold Di at h1;simp only[Ag]at h1;have hy:=I8 hf;have uV:=LO hf;obtain⟨r,e1,e2⟩:=hs.fnd y hy;obtain⟨_,m1,k1⟩:=Pw e1;have Gw:=Cz hs.ix;have h1:=h1.2;rw[FE]at h1;have iK:=Jl (hv y hy)
      have:has (B8 x i.path) (place y.ver)=true:=by
       unfold B8;rw[G8];unfold has;simp only[iK,decide_true,EB,A7,Am,Bx];refine⟨(plc r.ver,plc r.ver+1),⟨r,⟨?_,by simp[e2]⟩,rfl⟩,?_⟩
       ·unfold J5;simp only[hs.ix,U4,not_true,Gg,Bx,m1,true_and,AA];rw[←uV,←k1];rfl
       ·rw[(Gw.1 r m1).plc,←k1];rw[DM];exact⟨AX _,by show place r.ver<place r.ver+1;omega⟩
      rw[this]at h1;simp at h1
    ·cases h
   ·split at h
    ·split at h
     ·split at h
      ·rename_i a b ha hb;split at h
       ·rename_i h0;cases h;rw[AI];intro hw;rcases Tu hv (o:=(Bw a b i.path).1) (Prod.ext rfl h0) hw with hw | hw
        ·rw[hd a (OO ha)]at hw;cases hw
        ·rw[hd b (OO hb)]at hw;cases hw
       ·cases h
      ·cases h
     ·cases h
    ·cases h
theorem LJ{x:List Rl}{roots:List Rq}{s:List Sl}(hs:oh x roots s):∀{l:List Nf} {d d' : List (List Tm)},(∀t∈d,Bh t s=false)→Dd x roots l d=some d'→∀t∈d',Bh t s=false
 | [],d,d',hd,h=>by cases h;exact hd
 |i::l,d,d',hd,h=>by
  unfold Dd at h;split at h
  ·cases h
  ·rename_i o ho;refine LJ hs (fun t ht=>?_) h;rcases A3.1 ht with ht | ht
   ·exact hd t ht
   ·rw[Ai.1 ht];exact V5 hs hd ho
theorem If{α:Type}[DecidableEq α]:∀{l m:List α},l.Nodup→(∀x∈l,x∈m)→l.length≤m.length
 | [],_,_,_=>AM _
 |a::l,m,hn,hs=>by
  rw[CT]at hn;have ha:a∈m:=hs a (Aa ..)
  have:=If (l:=l) (m:=m.erase a) hn.2 fun x hx=>by
   have:x≠a:=fun e=>hn.1 (e▸hx)
   exact(List.mem_erase_of_ne this).2 (hs x (Af _ hx))
  rw[List.length_erase_of_mem ha]at this
  have:=List.length_pos_of_mem ha
  simp only[At];omega
abbrev Vt(s:List Sl):Prop:=s.Pairwise (fun a b=>Ff a.path b.path=true)
-- the next path
theorem JN(before:List Sl):∀{l:List Rq} {acc:Option ByteArray},(∀p,acc=some p→CG before p=false) →
  (∀p,Dt before l acc=some p→CG before p=false∧(acc=some p∨∃q∈l,q.path=p))∧(Dt before l acc=none→acc=none∧∀q∈l,CG before q.path=true)
 | [],acc,ha=>⟨fun p h=>⟨ha p h,.inl h⟩,fun h=>⟨h,fun _ h=>(by cases h)⟩⟩
 |q::l,acc,ha=>by
  unfold Dt
  have key:∀aW,(∀p,aW=some p→CG before p=false)→(∀p,aW=some p→acc=some p∨q.path=p)→(aW=none→acc=none∧CG before q.path=true) →
    (∀p,Dt before l aW=some p→CG before p=false∧(acc=some p∨∃q'∈q::l,q'.path=p))∧(Dt before l aW=none→acc=none∧∀q'∈q::l,CG before q'.path=true):=by
   intro aW h1 h2 h3;obtain⟨i1,i2⟩:=JN before (l:=l) h1;refine⟨fun p h=>?_,fun h=>?_⟩
   ·obtain⟨j1,j2⟩:=i1 p h;refine⟨j1,?_⟩;rcases j2 with j2 | ⟨q',j3,j4⟩
    ·rcases h2 p j2 with h2 | h2
     ·exact .inl h2
     ·exact .inr ⟨q,Aa ..,h2⟩
    ·exact .inr ⟨q',Af _ j3,j4⟩
   ·obtain⟨j1,j2⟩:=i2 h;obtain⟨k1,k2⟩:=h3 j1;refine⟨k1,fun q' hq=>?_⟩;rcases Au.1 hq with rfl | hq
    ·exact k2
    ·exact j2 q' hq
  cases hb:CG before q.path with
  |true=>simp only[QB];exact key acc ha (fun p h=>.inl h) fun h=>⟨h,hb⟩
  |false =>
   simp only[Dk,Gg];cases acc with
   |none=>exact key _ (fun p h=>by cases h;exact hb) (fun p h=>by cases h;exact .inr rfl) fun h=>by cases h
   |some p0 =>
    dsimp only;split
    ·exact key _ (fun p h=>by cases h;exact hb) (fun p h=>by cases h;exact .inr rfl) fun h=>by cases h
    ·exact key _ (fun p h=>by cases h;exact ha _ rfl) (fun p h=>by cases h;exact .inl rfl) fun h=>by cases h
theorem Te{needs:List Rq}{before:List Sl}{p:ByteArray}(h:Kz needs before=some p):CG before p=false∧∃q∈needs,q.path=p:=by
 obtain⟨h1,h2⟩:=(JN before (l:=needs) (acc:=none) fun _ e=>by cases e).1 p h;rcases h2 with h2 | h2
 ·cases h2
 ·exact⟨h1,h2⟩
theorem Zf{needs:List Rq}{before:List Sl}(h:Kz needs before=none):∀q∈needs,CG before q.path=true :=
 ((JN before (l:=needs) (acc:=none) fun _ e=>by cases e).2 h).2
theorem Su(a b:List Sl)(p:ByteArray):CG (a++b) p=(CG a p||CG b p):=by unfold CG;rw[Hk]
theorem KY{s:List Sl}{p:ByteArray}:CG s p=true↔∃y∈s,y.path=p:=by unfold CG;simp
theorem G7{s:List Sl}{p:ByteArray}:CG s p=true↔p∈s.map (·.path):=by rw[KY,Am]
-- what is needed
-- skips
theorem VN{t:List Tm}{b s:List Sl}(hs:K2 s=true)(hb:∀y∈b,y∈s)(h:CD t b=true):Bh t s=true:=by
 unfold CD at h;simp only[Ag,CQ,Fl]at h;obtain⟨h1,h2⟩:=h;rw[BB]at h1⊢;intro u hu
 have:=h2 u hu
 simp only[Bool.not_eq_false]at this;rw[JH]at this;cases hf:Cb b u.path with
 |none=>rw[hf]at this;cases this
 |some y =>
  have h3:=h1 u hu;rw[hf]at h3
  have:=Xc hs (hb y (I8 hf))
  rw[LO hf]at this;rw[this];exact h3
-- right answers
-- the first decision that differs
-- prefixes
theorem IS{x:List Rl}{roots:List Rq}:∀{l:List Nf} {d d' : List (List Tm)},Dd x roots l d=some d'→d'.length=d.length+l.length
 | [],d,d',h=>by cases h;rfl
 |i::l,d,d',h=>by
  unfold Dd at h;split at h
  ·cases h
  ·have:=IS h
   simp only[Ad,At,AC]at this⊢;omega
theorem GT{x:List Rl}{roots:List Rq}:∀(l m:List Nf) (d:List (List Tm)),Dd x roots (l++m) d=match Dd x roots l d with | none=>none | some d'=>Dd x roots m d'
 | [],_,_=>rfl
 |i::l,m,d=>by
  show(match DR x roots d i with | none=>none | some t=>Dd x roots (l++m) (d++[t]))=(match(match DR x roots d i with | none=>none | some t=>Dd x roots l (d++[t]))with | none=>none | some d'=>Dd x roots m d');cases DR x roots d i with
  |none=>rfl
  |some t=>exact GT l m _
theorem Lj{x:List Rl}{roots:List Rq}:∀{l:List Nf} {d d' : List (List Tm)},Dd x roots l d=some d'→d <+: d'
 | [],d,d',h=>by cases h;exact List.prefix_refl _
 |i::l,d,d',h=>by
  unfold Dd at h;split at h
  ·cases h
  ·exact(NV _ _).trans (Lj h)
theorem MT{x:List Rl}{roots:List Rq}{l:List Nf}{d:List (List Tm)}(h:Dd x roots l []=some d)(k:Nat):Dd x roots (l.take k) []=some (d.take k):=by
 rw[←Ld k l,GT]at h;cases e:Dd x roots (l.take k) []with
 |none=>rw[e]at h;cases h
 |some f =>
  rw[e]at h;dsimp only at h;have h1:=IS e;have h2:=IS h;have h3:=Lj h
  congr 1
  simp only[AC,AJ,Ar]at h1 h2;obtain⟨z,rfl⟩:=h3
  by_cases hk:k≤l.length
  ·rw[DZ (by omega),AT (by omega)]
  ·rw[Ad]at h2
   have:z=[]:=AB (by omega)
   subst this;rw[B3,AT (by omega)]
def KL(l:List Tm):Prop:=CO l=some l
theorem cU{l:List Tm}:∀(l2:List Tm),Cc none (l2++l)→l.foldl (fun acc t=>Nu t acc) l2=l2++l:=by
 induction l with
 |nil=>intro l2 _;simp
 |cons t r ih =>
  intro l2 h;have hi:Nu t l2=l2++[t]:=by
   have:∀(m:List Tm) (lo:Option ByteArray),Cc lo (m++t::r)→Nu t m=m++[t]:=by
    intro m
    induction m with
    |nil =>
     intro lo hm;have hc:EC t.set:=hm.2.1;unfold Nu;rw[show Li t=t from nX rfl rfl (I7 hc)];rfl
    |cons u m ihm =>
     intro lo hm;have hm:Cc lo (u::(m++t::r)):=hm;have DI:=Cc.low hm.2.2 t (by simp);unfold Nu;rw[Az DI,ihm _ hm.2.2];rfl
   exact this l2 none h
  rw[Fv,hi]
  have:=ih (l2++[t]) (by rw[AO];exact h)
  rw[this,AO];rfl
theorem PH{l:List Tm}(h:Cc none l):EU l=l:=by
 have:=cU (l:=l) [] h
 simpa[EU]using this
theorem Qq{l c:List Tm}(h:CO l=some c):KL c:=by
 have hs:=EK h;unfold KL;unfold CO at h⊢;rw[PH hs];split at h
 ·cases h
 ·rename_i hn;cases h;rw[Al]
  ·congr 1
   rw[List.filter_filter];simp
  ·rw[Bool.not_eq_true,Fl]at hn⊢;intro t ht;exact hn t (Bx.1 ht).1
theorem Oq:KL []:=rfl
theorem L6(l:List Tm):KL (PK l):=by
 unfold PK;cases h:CO l with
 |none=>exact Oq
 |some c=>exact Qq h
theorem M8(a b:List Tm)(p:ByteArray):KL (Bw a b p).1:=by
 unfold Bw;split
 ·split
  ·rename_i h;exact Qq h
  ·exact Oq
 ·exact Oq
theorem XR{l o:List Tm}(h:cp l=some o):o=l:=by unfold cp at h;split at h<;>cases h;rfl
theorem Xy{x:List Rl}{roots:List Rq}{d:List (List Tm)}{i:Nf}{o:List Tm}(h:DR x roots d i=some o):KL o:=by
 unfold DR at h;split at h
 ·split at h
  ·rw[AZ]at h;obtain⟨q,_,rfl⟩:=h;exact L6 _
  ·cases h
 ·split at h
  ·split at h
   ·split at h
    ·cases h
    ·split at h
     ·cases h
     ·rw[XR h];exact L6 _
   ·cases h
  ·split at h
   ·split at h
    ·rw[XR h];exact L6 _
    ·cases h
   ·split at h
    ·split at h
     ·split at h
      ·split at h
       ·cases h;exact M8 _ _ _
       ·cases h
      ·cases h
     ·cases h
    ·cases h
theorem MS{x:List Rl}{roots:List Rq}:∀{l:List Nf} {d d' : List (List Tm)},(∀t∈d,KL t)→Dd x roots l d=some d'→∀t∈d',KL t
 | [],d,d',hd,h=>by cases h;exact hd
 |i::l,d,d',hd,h=>by
  unfold Dd at h;split at h
  ·cases h
  ·rename_i o ho;refine MS (fun t ht=>?_) h;rcases A3.1 ht with ht | ht
   ·exact hd t ht
   ·rw[Ai.1 ht];exact Xy ho
-- tampering
end Go.Eng
