/- Lemmas for the claims of this seat, without a condition: part 1 (P1, P2, P3, P4, P5, P6, P7). -/
import Derived.Test.YtmcbkdbfaneofaaGreatDoorA00
namespace Go.Eng
def BU(p:Int)(s:Int×Int):Bool:=decide (s.1≤p)&&decide (p<s.2)
def has(s:List (Int×Int))(p:Int):Bool:=decide (0≤p)&&decide (p<1000000)&&s.any (BU p)
abbrev Bg:=List (Int×Int)
def EY(lo:Int):Bg→Prop
 | []=>True
 |y::r=>lo≤y.1∧y.1<y.2∧y.2≤1000000∧EY (y.2+1) r
abbrev EQ(l:Bg):Prop:=EY 0 l
def Ww(x:Int×Int):Bg→Bg
 | []=>[x]
 |y::r=>if x.2<y.1 then x::y::r else if y.2<x.1 then y::Ww x r else Ww (min x.1 y.1,max x.2 y.2) r
def Ee(x:Int×Int):Int×Int:=(max x.1 0,min x.2 1000000)
def canon:Bg→Bg
 | []=>[]
 |x::r=>if(Ee x).1<(Ee x).2 then Ww (Ee x) (canon r)else canon r
def Ls(at_:Int):Bg→Bg
 | []=>if at_<1000000 then [(at_,1000000)]else []
 |y::r=>if at_<y.1 then(at_,y.1)::Ls y.2 r else Ls y.2 r
def Ev(s:Bg):Bg:=Ls 0 (canon s)
def Rc(l:List Bg):Bg:=canon l.flatten
def Qx(l:List Bg):Bg:=Ev (l.map Ev).flatten
def PU(a b:Bg):Bg:=Rc [a,b]
def Pv(a b:Bg):Bg:=Qx [a,b]
theorem EY.mono{lo H6 : Int}:∀{l:Bg},EY lo l→H6≤lo→EY H6 l
 | [],_,_=>trivial
 |_::_,⟨h1,h2,h3,h4⟩,h=>⟨Int.le_trans h h1,h2,h3,h4⟩
theorem EY.low{lo:Int}:∀{l:Bg},EY lo l→∀y∈l,lo≤y.1∧y.1<y.2∧y.2≤1000000
 |y::r,⟨h1,h2,h3,h4⟩,z,hz=>by
  rcases Av.1 hz with rfl | hz
  ·exact⟨h1,h2,h3⟩
  ·have:=h4.low z hz
   exact⟨by omega,this.2.1,this.2.2⟩
theorem DS{p:Int}{s:Int×Int}:BU p s=true↔s.1≤p∧p<s.2:=by simp[BU]
theorem MT{lo:Int}{l:Bg}(h:EY lo l){p:Int}(hp:l.any (BU p)=true):lo≤p:=by
 obtain⟨y,hy,h2⟩:=Bb.1 hp
 have:=h.low y hy
 have:=DS.1 h2
 omega
theorem fN{lo:Int}{l:Bg}(h:EY lo l){p:Int}(hp:l.any (BU p)=true):p<1000000:=by
 obtain⟨y,hy,h2⟩:=Bb.1 hp
 have:=h.low y hy
 have:=DS.1 h2
 omega
theorem NV:∀(l:Bg) {lo:Int} {x:Int×Int},EY lo l→lo≤x.1→x.1<x.2→x.2≤1000000→EY lo (Ww x l)
 | [],lo,x,_,h1,h2,h3=>⟨h1,h2,h3,trivial⟩
 |y::r,lo,x,⟨g1,g2,g3,g4⟩,h1,h2,h3=>by
  unfold Ww;split
  ·exact⟨h1,h2,h3,by omega,g2,g3,g4⟩
  ·split
   ·exact⟨g1,g2,g3,NV r g4 (by omega) h2 h3⟩
   ·refine NV r (g4.mono (by omega)) ?_ ?_ ?_<;>dsimp only<;>omega
theorem ON:∀(l:Bg) {lo:Int} {x:Int×Int} (p:Int),EY lo l→x.1<x.2→(Ww x l).any (BU p)=(BU p x||l.any (BU p))
 | [],lo,x,p,_,_=>by simp[Ww]
 |y::r,lo,x,p,⟨g1,g2,g3,g4⟩,h2=>by
  unfold Ww;split
  ·simp
  ·split
   ·rw[Cf,ON r p g4 h2,Cf,←Bool.or_assoc,←Bool.or_assoc,Bool.or_comm (BU p y)]
   ·rw[ON r p g4 (by dsimp only;omega),Cf,←Bool.or_assoc]
    congr 1
    simp only[BU];rw[B1];simp only[Ah,CF,AB];omega
theorem Cv:∀s:Bg,EQ (canon s)
 | []=>trivial
 |x::r=>by
  unfold canon;split
  ·rename_i h;refine NV _ (Cv r) ?_ h ?_<;>simp only[Ee]<;>omega
  ·exact Cv r
theorem KQ:∀(s:Bg) (p:Int),(canon s).any (BU p)=has s p
 | [],p=>by simp[has,canon]
 |x::r,p=>by
  have ih:=KQ r p;unfold canon;have hx:BU p (Ee x)=(decide (0≤p)&&decide (p<1000000)&&BU p x):=by
   simp only[BU,Ee];rw[B1];simp only[Ah,AB,Int.max_le,Int.lt_min];omega
  split
  ·rename_i h;rw[ON _ p (Cv r) h,ih,hx];simp only[has,Cf];cases decide (0≤p)<;>cases decide (p<1000000)<;>simp
  ·rename_i h;rw[ih];simp only[has,Cf]
   have:BU p (Ee x)=false:=by
    rw[AF];intro h3
    have:=DS.1 h3
    omega
   rw[this]at hx;cases h1:decide (0≤p)<;>cases h2:decide (p<1000000)<;>simp_all
theorem H1{l:Bg}(h:EQ l)(p:Int):has l p=l.any (BU p):=by
 unfold has;cases e:l.any (BU p)with
 |false=>simp
 |true=>have h1:0≤p:=MT h e;have h2:=fN h e;simp[h1,h2]
theorem HA(s:Bg)(p:Int):has (canon s) p=has s p:=by
 rw[H1 (Cv s),KQ]
theorem Nx:∀{a b:Bg} {lo:Int},EY lo a→EY lo b→(∀p,a.any (BU p)=b.any (BU p))→a=b
 | [],[],_,_,_,_=>rfl
 | [],z::s,_,_,⟨g1,g2,g3,g4⟩,h=>by
  have:=h z.1
  rw[Cf,DS.2 ⟨AZ _,g2⟩]at this;simp at this
 |y::r,[],_,⟨g1,g2,g3,g4⟩,_,h=>by
  have:=h y.1
  rw[Cf,DS.2 ⟨AZ _,g2⟩]at this;simp at this
 |y::r,z::s,lo,⟨f1,f2,f3,f4⟩,⟨g1,g2,g3,g4⟩,h=>by
  have below:∀{x:Int×Int} {t:Bg} {p:Int},EY (x.2+1) t→(x::t).any (BU p)=true→p≤x.2→x.1≤p∧p<x.2:=fun {x t p} ht hp Hr=>by
   rw[Cf,CF]at hp;rcases hp with hp | hp
   ·exact DS.1 hp
   ·have:=MT ht hp;omega
  have low:∀{x:Int×Int} {t:Bg} {p:Int},x.1<x.2→EY (x.2+1) t→(x::t).any (BU p)=true→x.1≤p:=fun {x t p} hx ht hp=>by
   rw[Cf,CF]at hp;rcases hp with hp | hp
   ·exact(DS.1 hp).1
   ·have:=MT ht hp;omega
  have cov:∀{x:Int×Int} {t:Bg} {p:Int},x.1≤p→p<x.2→(x::t).any (BU p)=true:=fun {x t p} h1 h2=>by
   rw[Cf,DS.2 ⟨h1,h2⟩,Bool.true_or]
  have e1:y.1=z.1:=by
   have a1:=low f2 f4 ((h z.1).trans (cov (AZ _) g2));have a2:=low g2 g4 ((h y.1).symm.trans (cov (AZ _) f2));omega
  have e2:y.2=z.2:=by
   rcases Int.lt_trichotomy y.2 z.2 with hl | he | hl
   ·have:=below f4 ((h y.2).trans (cov (by omega) hl)) (AZ _);omega
   ·exact he
   ·have:=below g4 ((h z.2).symm.trans (cov (by omega) hl)) (AZ _);omega
  have e:y=z:=Prod.ext e1 e2;subst e
  congr 1
  refine Nx f4 g4 fun p=>?_;have hp:=h p;simp only[Cf]at hp;cases hs:BU p y with
  |false=>rw[hs,JD,JD]at hp;exact hp
  |true =>
   have:=DS.1 hs
   have n:∀{t:Bg},EY (y.2+1) t→t.any (BU p)=false:=fun {t} ht=>by
    rw[AF];intro hx;have:=MT ht hx;omega
   rw[n f4,n g4]
theorem HU{a b:Bg}(ha:EQ a)(hb:EQ b)(h:∀p,has a p=has b p):a=b :=
 Nx ha hb fun p=>by rw[←H1 ha,←H1 hb,h]
theorem S7{a s:Bg}(ha:EQ a)(h:∀p,has a p=has s p):a=canon s :=
 HU ha (Cv s) fun p=>by rw[h,HA]
theorem JG{a:Bg}(ha:EQ a):canon a=a:=(S7 ha fun _=>rfl).symm
theorem Ms{s:Bg}{p:Int}(h:has s p=true):0≤p∧p<1000000:=by
 unfold has at h;simp only[Ah,AB]at h;exact h.1
def L4(p:Int):Bool:=decide (0≤p)&&decide (p<1000000)
theorem Lt:∀(l:Bg) {at_ lo:Int},0≤at_→EY lo l→lo≤at_+1→at_≤lo→EY at_ (Ls at_ l)∧∀p,(Ls at_ l).any (BU p)=(decide (at_≤p)&&decide (p<1000000)&&!l.any (BU p))
 | [],at_,lo,h0,_,h1,h2=>by
  unfold Ls;split
  ·exact⟨⟨AZ _,by dsimp only;omega,AZ _,trivial⟩,fun p=>by simp[BU]⟩
  ·refine⟨trivial,fun p=>?_⟩
   have:(decide (at_≤p)&&decide (p<1000000))=false:=by
    rw[AF];simp only[VX,Ah,AB];omega
   simp[this]
 |y::r,at_,lo,h0,⟨g1,g2,g3,g4⟩,h1,h2=>by
  have ih:=Lt r (at_:=y.2) (by omega) g4 (AZ _) (by omega);have key:∀p,(decide (at_≤p)&&decide (p<y.1)||(Ls y.2 r).any (BU p))=(decide (at_≤p)&&decide (p<1000000)&&!(y::r).any (BU p)):=fun p=>by
   rw[ih.2,Cf];cases hr:r.any (BU p)with
   |true =>
    have:=MT g4 hr
    have a:decide (p<y.1)=false:=Aj (by omega);simp[a]
   |false =>
    rw[B1];simp only[BU,Ah,CF,AB,Da,Bool.or_false,Bool.and_eq_false_iff,Kf,Bool.not_false,and_true];omega
  unfold Ls;split
  ·rename_i h;refine⟨⟨AZ _,h,by dsimp only;omega,ih.1 |> fun c=>?_⟩,fun p=>?_⟩
   ·dsimp only;cases e:Ls y.2 r with
    |nil=>trivial
    |cons z s =>
     rw[e]at c;exact⟨by have:=c.1;omega,c.2⟩
   ·rw[Cf,←key];rfl
  ·rename_i h;refine⟨ih.1.mono (by omega),fun p=>?_⟩;rw[←key]
   have:(decide (at_≤p)&&decide (p<y.1))=false:=by
    rw[AF];simp only[VX,Ah,AB];omega
   rw[this,JD]
theorem Hy(s:Bg):EQ (Ev s):=by
 unfold Ev;exact(Lt _ (AZ _) (Cv s) (by omega) (AZ _)).1
theorem F0(s:Bg)(p:Int):has (Ev s) p=(L4 p&&!has s p):=by
 rw[H1 (Hy s)];unfold Ev;rw[(Lt _ (AZ _) (Cv s) (by omega) (AZ _)).2,KQ];rfl
theorem aa(a b:Bg)(p:Int):has (a++b) p=(has a p||has b p):=by
 simp only[has,HQ];cases decide (0≤p)<;>cases decide (p<1000000)<;>simp
theorem Mr:∀(l:List Bg) (p:Int),has l.flatten p=l.any fun s=>has s p
 | [],p=>by simp[has]
 |s::l,p=>by rw[BJ,aa,Mr l p,Cf]
theorem TF(l:List Bg)(p:Int):has (Rc l) p=l.any fun s=>has s p:=by
 unfold Rc;rw[HA,Mr]
theorem Xq(l:List Bg):EQ (Rc l):=Cv _
theorem W7(l:List Bg):EQ (Qx l):=Hy _
theorem TE(l:List Bg)(p:Int):has (Qx l) p=(L4 p&&l.all fun s=>has s p):=by
 unfold Qx;rw[F0,Mr,List.any_map];cases h:L4 p with
 |false=>rfl
 |true =>
  rw[EP,EP,List.not_any_eq_all_not]
  congr 1
  funext s
  simp[F0,h]
theorem Zi(a b:Bg):EQ (PU a b):=Cv _
theorem RE(a b:Bg):EQ (Pv a b):=Hy _
theorem df(a b:Bg)(p:Int):has (PU a b) p=(has a p||has b p):=by
 unfold PU;rw[TF];simp
theorem VD(a b:Bg)(p:Int):has (Pv a b) p=(has a p&&has b p):=by
 unfold Pv;rw[TE];simp only[List.all_cons,List.all_nil,Bool.and_true];cases h:has a p with
 |false=>simp
 |true=>have:=Ms h;simp[L4,this]
theorem aj(s:Bg):Pv s s=canon s:=HU (RE _ _) (Cv _) fun p=>by rw[VD,HA,Bool.and_self]
theorem UT{s:Bg}:canon s=[]↔∀p,has s p=false:=by
 constructor
 ·intro h p;rw[←HA,h];simp[has]
 ·intro h;exact HU (Cv s) (b:=[]) trivial fun p=>by rw[HA,h p];simp[has]
theorem QI{s:Bg}(hs:EQ s):s=[]↔∀p,has s p=false:=by
 rw[←UT,JG hs]
def fm(l:List Bg)(p:Int):Nat:=l.countP fun s=>has s p
theorem S0:∀{l:Bg} {lo:Int},EY lo l→lo≤1000000→(l.length:Int)≤1000000-lo
 | [],lo,_,h=>by simp;omega
 |y::r,lo,⟨g1,g2,g3,g4⟩,h=>by
  by_cases h3:y.2+1≤1000000
  ·have:=S0 g4 h3
   simp only[Au];omega
  ·cases r with
   |nil=>simp;omega
   |cons z s=>have:=g4.1;have:=g4.2.1;have:=g4.2.2.1;omega
theorem Iu{l:Bg}(h:EQ l):l.length≤1000000:=by have:=S0 h (by omega);omega
structure Ver where
 (a b c:Int)
structure Rq where
 path:ByteArray
 set:List (Int×Int)
structure Rl where
 path:ByteArray
 ver:Ver
 reqs:List Rq
 (arch ifc cert:ByteArray)
 yanked:Bool
structure Sl where
 path:ByteArray
 ver:Ver
structure Tm where
 path:ByteArray
 absent:Bool
 set:List (Int×Int)
structure Nf where
 kind:Int
 path:ByteArray
 (place number left right:Int)
structure Sk where
 path:ByteArray
 (place inf:Int)
structure An where
 found:Bool
 sel:List Sl
 infs:List Nf
 skips:List Sk
instance:DecidableEq Ver:=fun x y=>decidable_of_iff (x.a=y.a∧x.b=y.b∧x.c=y.c) ⟨fun⟨h1,h2,h3⟩=>by cases x;cases y;simp_all,fun h=>by subst h;exact⟨rfl,rfl,rfl⟩⟩
instance:DecidableEq Sl:=fun x y=>decidable_of_iff (x.path=y.path∧x.ver=y.ver) ⟨fun⟨h1,h2⟩=>by cases x;cases y;simp_all,fun h=>by subst h;exact⟨rfl,rfl⟩⟩
theorem p5{x y:Tm}(h1:x.path=y.path)(h2:x.absent=y.absent)(h3:x.set=y.set):x=y:=by cases x;cases y;simp_all
def okPart(n:Int):Prop:=0≤n∧n≤999
instance (n:Int):Decidable (okPart n):=by unfold okPart;infer_instance
def Cy(v:Ver):Bool:=decide (okPart v.a)&&decide (okPart v.b)&&decide (okPart v.c)
def place(v:Ver):Int:=1000*v.b+v.c
def plc(v:Ver):Int:=if Cy v then place v else 0
def Cn(s:List Sl)(p:ByteArray):Option Sl:=s.find? fun x=>decide (x.path=p)
def G0(t:Tm)(s:List Sl):Bool :=
 match s.find? (fun x=>decide (x.path=t.path))with
 |none=>t.absent
 |some x=>Cy x.ver&&has t.set (place x.ver)
def CQ(s:List Sl)(p:ByteArray):Bool:=s.any fun x=>decide (x.path=p)
def Bp(l:List Tm)(s:List Sl):Bool:=l.all fun t=>G0 t s
def CN(l:List Tm)(s:List Sl):Bool:=Bp l s&&!l.any fun t=>!CQ s t.path
def Kz:List UInt8→List UInt8→Bool
 | [],[]=>false
 | [],_::_=>true
 |_::_,[]=>false
 |a::x,b::y=>decide (a<b)||(decide (a=b)&&Kz x y)
def EM(a b:ByteArray):Bool:=Kz a.data.toList b.data.toList
theorem RH:∀x,Kz x x=false
 | []=>rfl
 |a::x=>by
  unfold Kz;simp[RH x]
theorem T2:∀{x y z},Kz x y=true→Kz y z=true→Kz x z=true
 | [],[],_,h,_=>by simp[Kz]at h
 | [],_::_,[],_,h=>by simp[Kz]at h
 | [],_::_,_::_,_,_=>rfl
 |_::_,[],_,h,_=>by simp[Kz]at h
 |_::_,_::_,[],_,h=>by simp[Kz]at h
 |a::x,b::y,c::z,h1,h2=>by
  unfold Kz at *
  simp only[CF,Ah,AB]at *
  rcases h1 with h1 | ⟨rfl,h1⟩
  ·rcases h2 with h2 | ⟨rfl,h2⟩
   ·exact .inl (UInt8.lt_trans h1 h2)
   ·exact .inl h1
  ·rcases h2 with h2 | ⟨rfl,h2⟩
   ·exact .inl h2
   ·exact .inr ⟨rfl,T2 h1 h2⟩
theorem YI:∀{x y},Kz x y=false→Kz y x=false→x=y
 | [],[],_,_=>rfl
 | [],_::_,h,_=>by simp[Kz]at h
 |_::_,[],_,h=>by simp[Kz]at h
 |a::x,b::y,h1,h2=>by
  unfold Kz at *
  simp only[Bool.or_eq_false_iff,Bool.and_eq_false_iff,Kf]at *
  have e:a=b:=by
   have l1:=UInt8.not_lt.1 h1.1;have l2:=UInt8.not_lt.1 h2.1;exact UInt8.le_antisymm l2 l1
  subst e
  have:=YI (x:=x) (y:=y) (by simpa using h1.2) (by simpa using h2.2)
  rw[this]
theorem ve{a b:ByteArray}(h:a.data.toList=b.data.toList):a=b:=by
 cases a;cases b;simp only[ByteArray.mk.injEq];exact I0.1 h
theorem CW(a:ByteArray):EM a a=false:=RH _
theorem Ep{a b c:ByteArray}(h:EM a b=true)(k:EM b c=true):EM a c=true:=T2 h k
theorem HT{a b:ByteArray}(h:EM a b=false)(k:EM b a=false):a=b:=ve (YI h k)
theorem ZE{a b:ByteArray}(h:EM a b=true):a≠b:=fun e=>by subst e;rw[CW]at h;cases h
theorem Qi{a b:ByteArray}(h:EM a b=true):EM b a=false:=by
 rw[AF];intro k;have:=Ep h k;rw[CW]at this;cases this
def LO(t:Tm):Tm:=⟨t.path,t.absent,canon t.set⟩
def Hc(u t:Tm):Tm:=⟨u.path,u.absent&&t.absent,Pv u.set t.set⟩
def Oc(t:Tm):List Tm→List Tm
 | []=>[LO t]
 |u::r=>if EM u.path t.path then u::Oc t r else if u.path=t.path then Hc u t::r else LO t::u::r
def Fd(l:List Tm):List Tm:=l.foldl (fun acc t=>Oc t acc) []
def H8(t:Tm):Bool:=!t.absent&&t.set.isEmpty
def GT(t:Tm):Bool:=t.absent&&decide (t.set=[(0,1000000)])
def C3(l:List Tm):Option (List Tm):=if(Fd l).any H8 then none else some ((Fd l).filter fun t=>!GT t)
def QJ(l:List Tm):List Tm:=(C3 l).getD []
def DP(q:Rq):Tm:=⟨q.path,true,Ev q.set⟩
def JV(q:Rq):List Tm:=QJ [DP q]
def Eu(path:ByteArray)(pl:Int)(q:Rq):List Tm:=QJ [⟨path,false,[(pl,pl+1)]⟩,DP q]
def Ip(path:ByteArray)(qV:Bg):List Tm:=QJ [⟨path,false,Ev qV⟩]
def Dy(l:List Tm)(p:ByteArray):Option Tm:=l.find? fun t=>decide (t.path=p)
def F6(l:List Tm)(p:ByteArray):List Tm:=l.filter fun t=>!decide (t.path=p)
def Dv(a b:Tm):Tm:=⟨a.path,a.absent||b.absent,PU a.set b.set⟩
def FF(l:List Tm)(p:ByteArray):Option (Tm×List Tm):=match C3 l with
 |none=>none
 |some c=>match Dy c p with
  |none=>none
  |some t=>some (t,F6 c p)
def BH(a b:List Tm)(p:ByteArray):List Tm×Int :=
 match FF a p,FF b p with
 |some (t,r),some (u,m)=>match C3 (r++m++[Dv t u])with
  |some o=>(o,0)
  |none=>([],8)
 |_,_=>([],1)
def Cp(lo:Option ByteArray):List Tm→Prop
 | []=>True
 |t::r=>(∀p,lo=some p→EM p t.path=true)∧EQ t.set∧Cp (some t.path) r
theorem Cp.weak{lo:Option ByteArray}:∀{l:List Tm},Cp lo l→Cp none l
 | [],_=>trivial
 |_::_,⟨_,h2,h3⟩=>⟨fun _ h=>(by cases h),h2,h3⟩
theorem Cp.low{p:ByteArray}:∀{l:List Tm},Cp (some p) l→∀t∈l,EM p t.path=true
 |t::r,⟨h1,h2,h3⟩,u,hu=>by
  rcases Av.1 hu with rfl | hu
  ·exact h1 p rfl
  ·exact Ep (h1 p rfl) (h3.low u hu)
theorem Cp.canon{lo:Option ByteArray}:∀{l:List Tm},Cp lo l→∀t∈l,EQ t.set
 |t::r,⟨h1,h2,h3⟩,u,hu=>by
  rcases Av.1 hu with rfl | hu
  ·exact h2
  ·exact h3.canon u hu
theorem Cp.mono{p q:ByteArray}:∀{l:List Tm},Cp (some p) l→EM q p=true→Cp (some q) l
 | [],_,_=>trivial
 |t::r,⟨h1,h2,h3⟩,h=>⟨fun _ e=>by cases e;exact Ep h (h1 p rfl),h2,h3⟩
theorem Mx:∀{l:List Tm} {lo:Option ByteArray} (t:Tm),Cp lo l→(∀p,lo=some p→EM p t.path=true)→Cp lo (Oc t l)
 | [],lo,t,_,h=>⟨h,Cv _,trivial⟩
 |u::r,lo,t,⟨h1,h2,h3⟩,h=>by
  unfold Oc;split
  ·rename_i DF;exact⟨h1,h2,Mx t h3 fun p e=>by cases e;exact DF⟩
  ·rename_i DF;split
   ·rename_i he;exact⟨h1,RE _ _,h3⟩
   ·rename_i he;refine⟨h,Cv _,fun p e=>?_,h2,h3⟩;cases e
    have:EM u.path t.path=false:=by simpa using DF
    cases hb:EM t.path u.path with
    |true=>exact hb
    |false=>exact absurd (HT this hb) he
theorem Pk:∀(l acc:List Tm),Cp none acc→Cp none (l.foldl (fun acc t=>Oc t acc) acc)
 | [],_,h=>h
 |t::l,acc,h=>Pk l _ (Mx t h fun _ e=>by cases e)
theorem EB(l:List Tm):Cp none (Fd l):=Pk l [] trivial
theorem CX(t:Tm)(r:List Tm)(p:ByteArray):Dy (t::r) p=if t.path=p then some t else Dy r p:=by
 unfold Dy;rw[FO];by_cases h:t.path=p<;>simp[h]
theorem HW{p q:ByteArray}{l:List Tm}(h:Cp (some p) l)(hq:EM p q=false):Dy l q=none:=by
 unfold Dy;rw[D0];intro t ht
 have:=h.low t ht
 simp only[AB];intro e;subst e;rw[hq]at this;cases this
def Ot(o:Option Tm)(t:Tm):Tm:=match o with | none=>LO t | some u=>Hc u t
theorem QN(o:Option Tm)(t:Tm)(h:∀u,o=some u→u.path=t.path):(Ot o t).path=t.path:=by
 cases o with
 |none=>rfl
 |some u=>exact h u rfl
theorem Hq{l:List Tm}{p:ByteArray}{u:Tm}(h:Dy l p=some u):u.path=p:=by
 have:=FP h;simpa using this
theorem Fs{l:List Tm}{p:ByteArray}{u:Tm}(h:Dy l p=some u):u∈l:=CR h
theorem Tt:∀{l:List Tm} {lo:Option ByteArray} (t:Tm) (p:ByteArray),Cp lo l→Dy (Oc t l) p=if t.path=p then some (Ot (Dy l p) t)else Dy l p
 | [],lo,t,p,_=>by
  unfold Oc;rw[CX];show(if t.path=p then some (LO t)else none)=_
  by_cases h:t.path=p<;>simp[h,Dy,Ot]
 |u::r,lo,t,p,⟨h1,h2,h3⟩=>by
  unfold Oc;split
  ·rename_i DF;rw[CX,CX,Tt t p h3]
   by_cases hu:u.path=p
   ·have:¬t.path=p:=fun e=>ZE DF (hu.trans e.symm)
    simp[hu,this]
   ·simp[hu]
  ·rename_i DF;split
   ·rename_i he;rw[CX,CX];show(if u.path=p then some (Hc u t)else _)=_
    by_cases hu:u.path=p
    ·simp[hu,he▸hu,Ot]
    ·have:¬t.path=p:=fun e=>hu (he.trans e)
     simp[hu,this]
   ·rename_i he;rw[CX];show(if t.path=p then some (LO t)else _)=_
    by_cases ht:t.path=p
    ·have hn:Dy (u::r) p=none:=by
      rw[CX];have hu:¬u.path=p:=fun e=>he (e.trans ht.symm);simp only[hu,GJ];exact HW h3 (by subst ht;simpa using DF)
     simp[ht,hn,Ot]
    ·simp[ht]
def Kp(p:ByteArray)(o:Option Tm)(t:Tm):Option Tm:=if t.path=p then some (Ot o t)else o
theorem Rw(p:ByteArray):∀(l acc:List Tm),Cp none acc→Dy (l.foldl (fun acc t=>Oc t acc) acc) p=l.foldl (Kp p) (Dy acc p)
 | [],_,_=>rfl
 |t::l,acc,h=>by
  rw[FQ,Rw p l _ (Mx t h fun _ e=>by cases e),Tt t p h];rfl
theorem Jm(l:List Tm)(p:ByteArray):Dy (Fd l) p=l.foldl (Kp p) none:=Rw p l [] trivial
theorem MR:∀{a b:List Tm} {lo:Option ByteArray},Cp lo a→Cp lo b→(∀p,Dy a p=Dy b p)→a=b
 | [],[],_,_,_,_=>rfl
 | [],z::s,_,_,_,h=>by have:=h z.path;rw[CX,Ax rfl]at this;cases this
 |z::s,[],_,_,_,h=>by have:=h z.path;rw[CX,Ax rfl]at this;cases this
 |y::r,z::s,lo,⟨f1,f2,f3⟩,⟨g1,g2,g3⟩,h=>by
  have e:y=z:=by
   have a1:=h y.path;have a2:=h z.path;rw[CX,Ax rfl,CX]at a1;rw[CX,CX z,Ax rfl]at a2
   by_cases e:z.path=y.path
   ·rw[Ax e]at a1;exact BA a1
   ·rw[Ao e]at a1;rw[Ao (fun c=>e c.symm)]at a2;have b1:=Cp.low g3 y (Fs a1.symm);have b2:=Cp.low f3 z (Fs a2)
    have:=Ep b1 b2
    rw[CW]at this;cases this
  subst e
  congr 1
  refine MR f3 g3 fun p=>?_;have hp:=h p;rw[CX,CX]at hp
  by_cases e:y.path=p
  ·subst e;rw[HW f3 (CW _),HW g3 (CW _)]
  ·simpa[e]using hp
theorem Cp.filter(q:Tm→Bool):∀{l:List Tm} {lo:Option ByteArray},Cp lo l→Cp lo (l.filter q)
 | [],_,_=>trivial
 |t::r,lo,⟨h1,h2,h3⟩=>by
  have ih:=Cp.filter q h3;rw[ED];split
  ·exact⟨h1,h2,ih⟩
  ·cases lo with
   |none=>exact ih.weak
   |some p=>exact ih.mono (h1 p rfl)
theorem FZ{l:List Tm}{lo:Option ByteArray}{t:Tm}(h:Cp lo l):t∈l↔Dy l t.path=some t:=by
 constructor
 ·induction l generalizing lo with
  |nil=>intro h;cases h
  |cons u r ih =>
   intro ht;rw[CX];rcases Av.1 ht with rfl | ht
   ·rw[Ax rfl]
   ·have:=Cp.low h.2.2 t ht
    rw[Ao (ZE this)];exact ih h.2.2 ht
 ·exact Fs
def Dx(t:Tm)(o:Option Sl):Bool:=match o with | none=>t.absent | some x=>Cy x.ver&&has t.set (place x.ver)
theorem io(t:Tm)(s:List Sl):G0 t s=Dx t (Cn s t.path):=by
 unfold G0 Dx Cn;rfl
theorem Mm{s:List Sl}{p:ByteArray}{x:Sl}(h:Cn s p=some x):x.path=p:=by
 have:=FP h;simpa using this
theorem JI{s:List Sl}{p:ByteArray}{x:Sl}(h:Cn s p=some x):x∈s:=CR h
theorem Kh{s:List Sl}{p:ByteArray}:CQ s p=(Cn s p).isSome:=by
 unfold CQ Cn;rw[B1,List.find?_isSome,Bb]
theorem af(t:Tm)(o:Option Sl):Dx (LO t) o=Dx t o:=by
 unfold Dx LO;cases o<;>simp[HA]
theorem Yq(u t:Tm)(o:Option Sl):Dx (Hc u t) o=(Dx u o&&Dx t o):=by
 unfold Dx Hc;cases o with
 |none=>rfl
 |some x=>simp only[VD];cases Cy x.ver<;>simp
theorem NI(u t:Tm)(o:Option Sl):Dx (Dv u t) o=(Dx u o||Dx t o):=by
 unfold Dx Dv;cases o with
 |none=>rfl
 |some x=>simp only[df];cases Cy x.ver<;>simp
def UP(p:ByteArray)(o:Option Sl)(l:List Tm):Bool:=l.all fun t=>!decide (t.path=p)||Dx t o
theorem Kg(p:ByteArray)(o:Option Sl):∀(l:List Tm) (a:Option Tm),(∀u,a=some u→u.path=p) →
  (l.foldl (Kp p) a=none↔a=none∧l.all (fun t=>!decide (t.path=p))=true)∧(∀u,l.foldl (Kp p) a=some u→u.path=p∧Dx u o=((match a with | none=>true | some b=>Dx b o)&&UP p o l))
 | [],a,ha=>by
  refine⟨by simp,fun u h=>?_⟩;have h:a=some u:=h;subst h;exact⟨ha u rfl,by simp[UP]⟩
 |t::l,a,ha=>by
  rw[FQ]
  by_cases e:t.path=p
  ·have hs:Kp p a t=some (Ot a t):=by unfold Kp;rw[Ax e]
   rw[hs];have ih:=Kg p o l (some (Ot a t)) (fun u h=>by cases h;rw[QN a t fun u h=>(ha u h).trans e.symm];exact e);refine⟨⟨fun h=>?_,fun h=>?_⟩,fun u h=>?_⟩
   ·have:=ih.1.1 h;cases this.1
   ·simp[e]at h
   ·obtain⟨h1,h2⟩:=ih.2 u h;refine⟨h1,?_⟩;rw[h2]
    have:UP p o (t::l)=(Dx t o&&UP p o l):=by simp[UP,e]
    rw[this];cases a with
    |none=>simp[Ot,af]
    |some b=>simp[Ot,Yq,Bool.and_assoc]
  ·have hs:Kp p a t=a:=by unfold Kp;rw[Ao e]
   rw[hs];have ih:=Kg p o l a ha
   have:UP p o (t::l)=UP p o l:=by simp[UP,e]
   rw[this];refine⟨?_,ih.2⟩;rw[ih.1];simp[e]
theorem BL{l:List Tm}{s:List Sl}:Bp l s=true↔∀t∈l,Dx t (Cn s t.path)=true:=by
 unfold Bp;rw[AR];simp only[io]
theorem LX(l:List Tm)(s:List Sl):Bp (Fd l) s=Bp l s:=by
 rw[B1,BL,BL];constructor
 ·intro h t ht
  have:=Kg t.path (Cn s t.path) l none (fun _ e=>by cases e)
  rw[←Jm]at this;cases e:Dy (Fd l) t.path with
  |none =>
   have:=(this.1.1 e).2
   rw[AR]at this
   have:=this t ht
   simp at this
  |some u =>
   obtain⟨h1,h2⟩:=this.2 u e;have hu:=h u (Fs e);rw[h1,h2]at hu;simp only[EP,UP,AR]at hu
   have:=hu t ht
   simpa using this
 ·intro h u hu;have e:=(FZ (EB l)).1 hu
  have:=Kg u.path (Cn s u.path) l none (fun _ e=>by cases e)
  rw[←Jm]at this;obtain⟨h1,h2⟩:=this.2 u e;rw[h2];simp only[EP,UP,AR];intro t ht
  by_cases e:t.path=u.path
  ·have:=h t ht;rw[e]at this;simp[this]
  ·simp[e]
theorem ay{t:Tm}(h:H8 t=true)(o:Option Sl):Dx t o=false:=by
 unfold H8 at h;simp only[Ah,Da,Gc]at h;unfold Dx;cases o with
 |none=>exact h.1
 |some x=>dsimp only;rw[h.2];simp[has]
def Gt(s:List Sl):Prop:=∀x∈s,Cy x.ver=true
theorem Kq{v:Ver}(h:Cy v=true):0≤v.a∧v.a≤999∧0≤v.b∧v.b≤999∧0≤v.c∧v.c≤999:=by
 unfold Cy at h;simp only[Ah]at h;obtain⟨⟨a,b⟩,c⟩:=h;obtain⟨a1,a2⟩:=BD a;obtain⟨b1,b2⟩:=BD b;obtain⟨c1,c2⟩:=BD c;exact⟨a1,a2,b1,b2,c1,c2⟩
theorem JU{v:Ver}(h:Cy v=true):0≤place v∧place v<1000000:=by
 have:=Kq h;unfold place;omega
theorem UQ{t:Tm}(h:GT t=true){s:List Sl}(hs:Gt s):Dx t (Cn s t.path)=true:=by
 unfold GT at h;simp only[Ah,AB]at h;unfold Dx;cases e:Cn s t.path with
 |none=>exact h.1
 |some x =>
  have:=hs x (JI e)
  have hp:=JU this;dsimp only;rw[this,h.2];simp[has,BU,hp]
theorem Dj{l:List Tm}{s:List Sl}(hs:Gt s):Bp l s=(match C3 l with | none=>false | some c=>Bp c s):=by
 unfold C3;split
 ·rename_i h;split at h
  ·rename_i hn;rw[←LX,AF];intro hv;rw[BL]at hv;obtain⟨t,ht,hn⟩:=Bb.1 hn
   have:=hv t ht
   rw[ay hn]at this;cases this
  ·cases h
 ·rename_i c h;split at h
  ·cases h
  ·rename_i hn;cases h;rw[←LX,B1,BL,BL];constructor
   ·intro h t ht;exact h t (Bo.1 ht).1
   ·intro h t ht;cases ha:GT t with
    |true=>exact UQ ha hs
    |false=>exact h t (Bo.2 ⟨ht,by simp[ha]⟩)
theorem Hl(a b:List Tm)(s:List Sl):Bp (a++b) s=(Bp a s&&Bp b s):=by unfold Bp;rw[List.all_append]
theorem E2{l c:List Tm}(h:C3 l=some c):Cp none c:=by
 unfold C3 at h;split at h
 ·cases h
 ·cases h;exact Cp.filter _ (EB l)
theorem F5{l r:List Tm}{p:ByteArray}{t:Tm}{s:List Sl}(hs:Gt s)(h:FF l p=some (t,r)):Bp l s=(Dx t (Cn s p)&&Bp r s)∧t.path=p:=by
 unfold FF at h;cases hc:C3 l with
 |none=>rw[hc]at h;cases h
 |some c =>
  rw[hc]at h;dsimp only at h;cases hf:Dy c p with
  |none=>rw[hf]at h;cases h
  |some u =>
   rw[hf]at h;cases h;have hp:=Hq hf;refine⟨?_,hp⟩;rw[Dj hs,hc];dsimp only;rw[B1,Ah,BL,BL];constructor
   ·intro h
    have:=h t (Fs hf)
    rw[hp]at this;exact⟨this,fun v hv=>h v (Bo.1 hv).1⟩
   ·intro⟨h1,h2⟩ v hv
    by_cases e:v.path=p
    ·have:=(FZ (E2 hc)).1 hv
     rw[e,hf]at this;cases this;rw[e];exact h1
    ·exact h2 v (Bo.2 ⟨hv,by simp[e]⟩)
theorem Ut{a b o:List Tm}{p:ByteArray}{s:List Sl}(hs:Gt s)(h:BH a b p=(o,0))(hv:Bp o s=true):Bp a s=true∨Bp b s=true:=by
 unfold BH at h;cases h1:FF a p with
 |none=>rw[h1]at h;simp at h
 |some x =>
  cases h2:FF b p with
  |none=>rw[h1,h2]at h;simp at h
  |some y =>
   obtain⟨t,r⟩:=x;obtain⟨u,m⟩:=y;rw[h1,h2]at h;dsimp only at h;cases hc:C3 (r++m++[Dv t u])with
   |none=>rw[hc]at h;simp at h
   |some c =>
    rw[hc]at h
    have:c=o:=by simpa using h
    subst this;have e:=Dj (l:=r++m++[Dv t u]) hs;rw[hc]at e;dsimp only at e;rw[hv,Hl,Hl]at e;simp only[Ah]at e;obtain⟨⟨e1,e2⟩,e3⟩:=e;obtain⟨va,pa⟩:=F5 hs h1;obtain⟨vb,pb⟩:=F5 hs h2;have e3:=BL.1 e3 _ (As.2 rfl)
    have:(Dv t u).path=p:=pa
    rw[this,NI,CF]at e3;rcases e3 with e3 | e3
    ·exact .inl (by rw[va,e3,e1];rfl)
    ·exact .inr (by rw[vb,e3,e2];rfl)
theorem QK{l:List Tm}{s:List Sl}(hs:Gt s)(DL:QJ l≠[]):Bp (QJ l) s=Bp l s:=by
 have:=Dj (l:=l) hs
 unfold QJ at *
 cases h:C3 l with
 |none=>rw[h]at DL;exact absurd rfl DL
 |some c=>rw[h]at this;exact this.symm
-- paths
def EK(c:UInt8):Bool:=decide (97≤c)&&decide (c≤122)
def Me(c:UInt8):Bool:=decide (65≤c)&&decide (c≤90)
def CI(c:UInt8):Bool:=decide (48≤c)&&decide (c≤57)
def F7(c:UInt8):Bool:=EK c||Me c||CI c||decide (c=95)
def ao:List UInt8:=[32,97,110,100,32,97,110,121,32,97,115,32,98,111,111,108,32,100,101,112,114,101,99,97,116,101,100,32,101,108,115,101,32,101,120,112,111,114,116,32,102,97,108,115,101,32,102,110,32,102,111,108,100,32,102,114,111,109,32,105,102,32,105,109,112,111,114,116,32,105,110,32,105,110,116,32,108,101,110,103,116,104,32,108,101,116,32,108,105,115,116,32,109,97,116,99,104,32,109,111,100,117,108,101,32,110,111,110,101,32,110,111,116,32,111,114,32,116,101,120,116,32,116,104,101,110,32,116,114,117,101,32,116,121,112,101,32,117,115,101,32]
def Nt:List UInt8→List UInt8→Bool
 | [],_=>true
 |_::_,[]=>false
 |a::x,b::y=>decide (a=b)&&Nt x y
def iC(x:List UInt8):List UInt8→Bool
 | []=>Nt x []
 |b::y=>Nt x (b::y)||iC x y
def U4(s:List UInt8):Bool:=iC (32::(s++[32])) ao
def Gv(s:List UInt8):Bool:=!s.isEmpty&&decide (s.length≤32)&&EK (s.headD 0)&&s.all F7&&!U4 s
def Hh(s:List UInt8):Bool:=Gv s&&s.all fun c=>EK c||CI c
def D1(s:List UInt8):Int:=s.foldl (fun n c=>10*n+((c.toNat:Int)-48)) 0
def Gu(s:List UInt8):Option Int:=match s with
 |c::r=>if c=118 then(if r.isEmpty||decide (3<r.length)||(decide (1<r.length)&&decide (r.headD 0=48))||!r.all CI then none else some (D1 r))else none
 | []=>none
def CO(c:UInt8):List UInt8→List (List UInt8)
 | []=>[[]]
 |b::r=>if b=c then []::CO c r else match CO c r with
  | []=>[[b]]
  |x::l=>(b::x)::l
def QF(p:List UInt8):Option Int:=match Gu ((CO 47 p).getLastD [])with
 |none=>none
 |some n=>if 64<p.length||(CO 47 p).length<2 then none else if(CO 47 p).all Hh then some n else none
def Bi(p:ByteArray):Option Int:=QF p.data.toList
-- indexes
def Gi(before:Option ByteArray)(q:Rq):Int :=
 if(Bi q.path).isNone then 4 else if q.set.isEmpty||!decide (q.set=canon q.set)||(match before with | some b=>!EM b q.path | none=>false)then 1 else 0
def Ec(before:Option ByteArray):List Rq→Int
 | []=>0
 |q::r=>if Gi before q=0 then Ec (some q.path) r else Gi before q
def By(l:List Rq):Int:=if 16<l.length then 7 else Ec none l
def DU(s:ByteArray):Bool:=decide (s.size=0)||decide (s.size=32)
def De(r:Rl):Int:=match Bi r.path with
 |none=>4
 |some m=>if !Cy r.ver||!decide (r.ver.a=m)then 2 else if By r.reqs≠0 then By r.reqs else if DU r.arch&&DU r.ifc&&DU r.cert then 0 else 1
def Fa(a b:Int):Int:=if a<b then -1 else if b<a then 1 else 0
def Gd(a b:ByteArray):Int:=if EM a b then -1 else if EM b a then 1 else 0
def G3(a b:Ver):Int:=if Fa a.a b.a≠0 then Fa a.a b.a else if Fa a.b b.b≠0 then Fa a.b b.b else Fa a.c b.c
def IQ(a b:Rl):Int:=if Gd a.path b.path≠0 then Gd a.path b.path else G3 a.ver b.ver
def Gl(r:Rl):Sl:=⟨r.path,r.ver⟩
def Dd(before:Option Rl):List Rl→Int
 | []=>0
 |r::l=>if De r≠0 then De r else match before with
  |none=>Dd (some r) l
  |some b=>if Gl b=Gl r then 5 else if 0<IQ b r then 1 else Dd (some r) l
def A9(l:List Rl):Int:=if 256<l.length then 7 else Dd none l
def N2(x:List Rl)(y:Sl):Option Rl:=if A9 x≠0 then none else x.find? fun r=>decide (Gl r=y)
def KB(x:List Rl)(p:ByteArray):List Rl:=if A9 x≠0 then []else x.filter fun r=>decide (r.path=p)
def Ci(x:List Rl)(p:ByteArray):Bg:=canon (((KB x p).filter fun r=>!r.yanked).map fun r=>(plc r.ver,plc r.ver+1))
def Io(before:Option ByteArray):List Sl→Bool
 | []=>true
 |y::r=>(match before with |some b=>EM b y.path |none=>true)&&Io (some y.path) r
def Es(s:List Sl):Bool:=Io none s
-- solutions
-- derivations
def PK(x:List Rl)(p:ByteArray)(pl:Int):Option Rl:=x.find? fun r=>decide (r.path=p)&&decide (plc r.ver=pl)
def mt:ByteArray:=⟨#[]⟩
def JS{α:Type}(l:List α)(i:Int):Option α:=if i<0 then none else l[i.toNat]?
def dJ(l:List Tm):Option (List Tm):=if l.isEmpty then none else some l
def DY(x:List Rl)(roots:List Rq)(d:List (List Tm))(i:Nf):Option (List Tm) :=
 if i.kind=0 then
  if i.path=mt∧i.place=0∧i.left=0∧i.right=0 then(JS roots i.number).map JV else none
 else if i.kind=1 then
  if i.left=0∧i.right=0 then match PK x i.path i.place with
   |none=>none
   |some r=>match JS r.reqs i.number with
    |none=>none
    |some q=>dJ (Eu i.path i.place q)
  else none
 else if i.kind=2 then
  if i.place=0∧i.number=0∧i.left=0∧i.right=0 then dJ (Ip i.path (Ci x i.path))else none
 else if i.kind=3 then
  if i.place=0∧i.number=0 then match JS d i.left,JS d i.right with
   |some a,some b=>if(BH a b i.path).2=0 then some (BH a b i.path).1 else none
   |_,_=>none
  else none
 else none
def Ds(x:List Rl)(roots:List Rq):List Nf→List (List Tm)→Option (List (List Tm))
 | [],d=>some d
 |i::l,d=>match DY x roots d i with
  |none=>none
  |some t=>Ds x roots l (d++[t])
-- decisions
def DE(before:List Sl):List Rq→Option ByteArray→Option ByteArray
 | [],acc=>acc
 |q::l,acc=>DE before l (if CQ before q.path then acc else match acc with
  |none=>some q.path
  |some p=>if EM q.path p then some q.path else some p)
def K4(needs:List Rq)(before:List Sl):Option ByteArray:=DE before needs none
structure Vis where
 before:List Sl
 needs:List Rq
 rel:Rl
-- answers
-- the example
def bs(l:List UInt8):ByteArray:=⟨⟨l⟩⟩
-- the order of releases
theorem KR{a b:Int}(h:Fa a b=0):a=b:=by
 unfold Fa at h;split at h
 ·cases h
 ·split at h
  ·cases h
  ·omega
theorem WH{a b:Int}(h:Fa a b<0):a<b:=by
 unfold Fa at h;split at h
 ·assumption
 ·split at h<;>omega
theorem Vt{a b:ByteArray}(h:Gd a b=0):a=b:=by
 unfold Gd at h;cases h1:EM a b with
 |true=>rw[h1]at h;simp at h
 |false =>
  cases h2:EM b a with
  |true=>rw[h1,h2]at h;simp at h
  |false=>exact HT h1 h2
theorem kW{a b:ByteArray}(h:Gd a b<0):EM a b=true:=by
 unfold Gd at h;cases h1:EM a b with
 |true=>rfl
 |false=>rw[h1]at h;cases h2:EM b a<;>rw[h2]at h<;>simp at h
def fC(a b:Ver):Prop:=a.a<b.a∨(a.a=b.a∧(a.b<b.b∨(a.b=b.b∧a.c<b.c)))
def dG(a b:Rl):Prop:=EM a.path b.path=true∨(a.path=b.path∧fC a.ver b.ver)
theorem bh{a b:Ver}(h:G3 a b<0):fC a b:=by
 unfold G3 at h;split at h
 ·exact .inl (WH h)
 ·rename_i h1;have h1:=KR (B2.1 h1);split at h
  ·exact .inr ⟨h1,.inl (WH h)⟩
  ·rename_i h2;exact .inr ⟨h1,.inr ⟨KR (B2.1 h2),WH h⟩⟩
theorem Vv{a b:Ver}(h:G3 a b=0):a=b:=by
 unfold G3 at h;split at h
 ·rename_i h1;exact absurd h h1
 ·rename_i h1;have h1:=KR (B2.1 h1);split at h
  ·rename_i h2;exact absurd h h2
  ·rename_i h2;have h2:=KR (B2.1 h2);have h3:=KR h;cases a;cases b;simp_all
theorem Vu{a b:Rl}(h:IQ a b=0):Gl a=Gl b:=by
 unfold IQ at h;split at h
 ·rename_i h1;exact absurd h h1
 ·rename_i h1;have h1:=Vt (B2.1 h1);have h2:=Vv h;unfold Gl;rw[h1,h2]
theorem kX{a b:Rl}(h:IQ a b<0):dG a b:=by
 unfold IQ at h;split at h
 ·exact .inl (kW h)
 ·rename_i h1;exact .inr ⟨Vt (B2.1 h1),bh h⟩
theorem VV{a b c:Ver}(h:fC a b)(k:fC b c):fC a c:=by unfold fC at *;omega
theorem dH{a b c:Rl}(h:dG a b)(k:dG b c):dG a c:=by
 rcases h with h | ⟨h1,h2⟩
 ·rcases k with k | ⟨k1,k2⟩
  ·exact .inl (Ep h k)
  ·exact .inl (k1▸h)
 ·rcases k with k | ⟨k1,k2⟩
  ·exact .inl (h1▸k)
  ·exact .inr ⟨h1.trans k1,VV h2 k2⟩
theorem Oh{a b:Rl}(h:dG a b)(k:Gl a=Gl b):False:=by
 unfold Gl at k;simp only[Sl.mk.injEq]at k;rcases h with h | ⟨_,h⟩
 ·rw[k.1,CW]at h;cases h
 ·rw[k.2]at h;unfold fC at h;omega
-- a valid index
structure SN(r:Rl):Prop where
 maj:Bi r.path=some r.ver.a
 val:Cy r.ver=true
 reqs:By r.reqs=0
theorem ZJ{r:Rl}(h:De r=0):SN r:=by
 unfold De at h;split at h
 ·cases h
 ·rename_i m hm;split at h
  ·cases h
  ·rename_i h1;split at h
   ·rename_i h2;exact absurd h h2
   ·rename_i h2;simp only[CF,Da,Kf,not_or,B2]at h1;refine⟨by rw[hm,h1.2],by simpa using h1.1,B2.1 h2⟩
theorem Lp:∀{l:List Rl} {b:Option Rl},Dd b l=0→(∀r∈l,SN r)∧(l.Pairwise dG∧∀c,b=some c→∀r∈l,dG c r)
 | [],b,_=>⟨fun _ h=>(by cases h),.nil,fun _ _ _ h=>(by cases h)⟩
 |r::l,b,h=>by
  unfold Dd at h;split at h
  ·rename_i h1;exact absurd h h1
  ·rename_i h1;have hr:=ZJ (B2.1 h1);have go:Dd (some r) l=0→(∀c,b=some c→dG c r)→(∀z∈r::l,SN z)∧((r::l).Pairwise dG∧∀c,b=some c→∀z∈r::l,dG c z):=fun h hc=>by
    obtain⟨i1,i2,i3⟩:=Lp h;refine⟨fun z hz=>?_,.cons (i3 r rfl) i2,fun c e z hz=>?_⟩
    ·rcases Av.1 hz with rfl | hz
     ·exact hr
     ·exact i1 z hz
    ·rcases Av.1 hz with rfl | hz
     ·exact hc c e
     ·exact dH (hc c e) (i3 r rfl z hz)
   cases b with
   |none=>exact go h fun _ e=>by cases e
   |some b =>
    dsimp only at h;split at h
    ·cases h
    ·rename_i hk;split at h
     ·cases h
     ·rename_i hc;refine go h fun c e=>?_;cases e;refine kX ?_
      have:IQ b r≠0:=fun e=>hk (Vu e)
      omega
theorem Dc{l:List Rl}(h:A9 l=0):(∀r∈l,SN r)∧l.Pairwise dG:=by
 unfold A9 at h;split at h
 ·cases h
 ·exact⟨(Lp h).1,(Lp h).2.1⟩
theorem TY{l:List Rl}(h:l.Pairwise dG){a b:Rl}(ha:a∈l)(hb:b∈l)(hk:Gl a=Gl b):a=b:=by
 induction h with
 |nil=>cases ha
 |cons h1 h2 ih =>
  rcases Av.1 ha with e1 | ha
  ·rcases Av.1 hb with e2 | hb
   ·exact e1.trans e2.symm
   ·exact(Oh (e1▸h1 b hb) hk).elim
  ·rcases Av.1 hb with e2 | hb
   ·exact(Oh (e2▸h1 a ha) hk.symm).elim
   ·exact ih ha hb
theorem Xt{a b:Ver}(ha:Cy a=true)(hb:Cy b=true)(h1:a.a=b.a)(h2:place a=place b):a=b:=by
 have:=Kq ha
 have:=Kq hb
 unfold place at h2;have e1:a.b=b.b:=by omega
 have e2:a.c=b.c:=by omega
 cases a;cases b;simp_all
theorem SN.plc{r:Rl}(h:SN r):plc r.ver=place r.ver:=by unfold Go.Eng.plc;rw[h.val];rfl
theorem cd{l:List Rl}(h:(∀r∈l,SN r)∧l.Pairwise dG){a b:Rl}(ha:a∈l)(hb:b∈l)(h1:a.path=b.path)(h2:place a.ver=place b.ver):a=b:=by
 refine TY h.2 ha hb ?_
 have:=h.1 a ha
 have:=h.1 b hb
 have e:a.ver.a=b.ver.a:=by
  have e1:=(h.1 a ha).maj;rw[h1,(h.1 b hb).maj]at e1;exact(BA e1).symm
 unfold Gl;rw[h1,Xt (h.1 a ha).val (h.1 b hb).val e h2]
theorem Qr{x:List Rl}{y:Sl}{r:Rl}(h:N2 x y=some r):A9 x=0∧r∈x∧Gl r=y:=by
 unfold N2 at h;split at h
 ·cases h
 ·rename_i h1;refine⟨B2.1 h1,CR h,?_⟩
  have:=FP h;simpa using this
structure qf(x:List Rl)(roots:List Rq)(s:List Sl):Prop where
 ix:A9 x=0
 inc:Es s=true
 fnd:∀y∈s,∃r,N2 x y=some r∧r.yanked=false
 root:∀q∈roots,∃y,Cn s q.path=some y∧has q.set (place y.ver)=true
 req:∀y∈s,∀r,N2 x y=some r→∀q∈r.reqs,∃z,Cn s q.path=some z∧has q.set (place z.ver)=true
theorem TQ:∀{s:List Sl} {b:Option ByteArray},Io b s=true→s.Pairwise (fun a b=>EM a.path b.path=true)∧∀c,b=some c→∀y∈s,EM c y.path=true
 | [],_,_=>⟨.nil,fun _ _ _ h=>by cases h⟩
 |y::r,b,h=>by
  unfold Io at h;simp only[Ah]at h;obtain⟨h1,h2⟩:=h;obtain⟨i1,i2⟩:=TQ h2;refine⟨.cons (i2 _ rfl) i1,fun c e z hz=>?_⟩;subst e;rcases Av.1 hz with rfl | hz
  ·exact h1
  ·exact Ep h1 (i2 _ rfl z hz)
theorem NF{s:List Sl}(h:s.Pairwise (fun a b=>EM a.path b.path=true)){y:Sl}(hy:y∈s):Cn s y.path=some y:=by
 induction h with
 |nil=>cases hy
 |cons h1 h2 ih =>
  rename_i a l;unfold Cn;rw[FO];rcases Av.1 hy with rfl | hy
  ·simp
  ·have:=ZE (h1 y hy)
   simp only[this,decide_false];exact ih hy
theorem X5{s:List Sl}(h:Es s=true){y:Sl}(hy:y∈s):Cn s y.path=some y:=NF (TQ h).1 hy
theorem qf.valid{x:List Rl}{roots:List Rq}{s:List Sl}(h:qf x roots s):Gt s:=fun y hy=>by
 obtain⟨r,h1,_⟩:=h.fnd y hy;obtain⟨_,h2,h3⟩:=Qr h1
 have:=((Dc h.ix).1 r h2).val
 rw[←h3];exact this
-- soundness
theorem RO{q:Rq}{s:List Sl}(h:∃y,Cn s q.path=some y∧has q.set (place y.ver)=true):Dx (DP q) (Cn s q.path)=false:=by
 obtain⟨y,h1,h2⟩:=h;rw[h1];unfold Dx DP;dsimp only;rw[F0,h2];simp
theorem jk{l:List Tm}{s:List Sl}(hs:Gt s)(hn:C3 l≠none)(hv:Bp l s=false):Bp (QJ l) s=false:=by
 have:=Dj (l:=l) hs
 unfold QJ;cases h:C3 l with
 |none=>exact absurd h hn
 |some c=>rw[h,hv]at this;exact this.symm
theorem YW{l:List Tm}{s:List Sl}(hs:Gt s){o:List Tm}(h:dJ (QJ l)=some o)(hv:Bp l s=false):Bp o s=false:=by
 unfold dJ at h;split at h
 ·cases h
 ·rename_i DL;cases h;rw[QK hs (by intro e;rw[e]at DL;exact DL rfl)];exact hv
theorem aO(q:Rq):C3 [DP q]≠none:=by
 unfold C3 Fd;simp only[List.foldl,Oc]
 have:H8 (LO (DP q))=false:=by simp[H8,LO,DP]
 simp[this]
theorem PG{α:Type}{l:List α}{i:Int}{a:α}(h:JS l i=some a):a∈l:=by
 unfold JS at h;split at h
 ·cases h
 ·exact AA h
theorem W5{x:List Rl}{roots:List Rq}{s:List Sl}(hs:qf x roots s){d:List (List Tm)}(hd:∀t∈d,Bp t s=false){i:Nf}{o:List Tm}(h:DY x roots d i=some o):Bp o s=false:=by
 have hv:=hs.valid;unfold DY at h;split at h
 ·split at h
  ·rw[AY]at h;obtain⟨q,hq,rfl⟩:=h;refine jk hv (aO q) ?_;rw[AF];intro hw
   have:=BL.1 hw _ (As.2 rfl)
   rw[show(DP q).path=q.path from rfl,RO (hs.root q (PG hq))]at this;cases this
  ·cases h
 ·split at h
  ·split at h
   ·split at h
    ·cases h
    ·rename_i r hr;split at h
     ·cases h
     ·rename_i q hq;refine YW hv h ?_;rw[AF];intro hw;have h1:=BL.1 hw _ (Ac ..);have h2:=BL.1 hw (DP q) (by simp);rw[show(DP q).path=q.path from rfl]at h2;dsimp only at h1;cases hf:Cn s i.path with
      |none=>rw[hf]at h1;simp[Dx]at h1
      |some y =>
       rw[hf]at h1;unfold Dx at h1;simp only[Ah]at h1;have hp:place y.ver=i.place:=by
        have:=h1.2
        simp only[has,Cf,List.any_nil,Bool.or_false,Ah,BU,AB]at this;omega
       have hy:=JI hf;have xD:=Mm hf;obtain⟨r',e1,e2⟩:=hs.fnd y hy;obtain⟨_,m1,k1⟩:=Qr e1;have iu:r∈x:=CR hr;have qz:=FP hr;simp only[Ah,AB]at qz;have GW:=Dc hs.ix
       have:r'=r:=by
        refine cd GW m1 iu ?_ ?_
        ·rw[qz.1,←xD,←k1];rfl
        ·rw[←(GW.1 r iu).plc,qz.2,←hp,←k1];rfl
       subst this
       have:=hs.req y hy r' e1 q (PG hq)
       rw[RO this]at h2;cases h2
   ·cases h
  ·split at h
   ·split at h
    ·refine YW hv h ?_;rw[AF];intro hw;have h1:=BL.1 hw _ (As.2 rfl);dsimp only at h1;cases hf:Cn s i.path with
     |none=>rw[hf]at h1;simp[Dx]at h1
     |some y =>
      rw[hf]at h1;unfold Dx at h1;simp only[Ah]at h1;have hy:=JI hf;have xD:=Mm hf;obtain⟨r,e1,e2⟩:=hs.fnd y hy;obtain⟨_,m1,k1⟩:=Qr e1;have GW:=Dc hs.ix;have h1:=h1.2;rw[F0]at h1;have Zn:=JU (hv y hy)
      have:has (Ci x i.path) (place y.ver)=true:=by
       unfold Ci;rw[HA];unfold has;simp only[Zn,decide_true,EP,Bb,Ar,Bo];refine⟨(plc r.ver,plc r.ver+1),⟨r,⟨?_,by simp[e2]⟩,rfl⟩,?_⟩
       ·unfold KB;simp only[hs.ix,VX,not_true,GJ,Bo,m1,true_and,AB];rw[←xD,←k1];rfl
       ·rw[(GW.1 r m1).plc,←k1];rw[DS];exact⟨AZ _,by show place r.ver<place r.ver+1;omega⟩
      rw[this]at h1;simp at h1
    ·cases h
   ·split at h
    ·split at h
     ·split at h
      ·rename_i a b ha hb;split at h
       ·rename_i h0;cases h;rw[AF];intro hw;rcases Ut hv (o:=(BH a b i.path).1) (Prod.ext rfl h0) hw with hw | hw
        ·rw[hd a (PG ha)]at hw;cases hw
        ·rw[hd b (PG hb)]at hw;cases hw
       ·cases h
      ·cases h
     ·cases h
    ·cases h
theorem Mj{x:List Rl}{roots:List Rq}{s:List Sl}(hs:qf x roots s):∀{l:List Nf} {d d' : List (List Tm)},(∀t∈d,Bp t s=false)→Ds x roots l d=some d'→∀t∈d',Bp t s=false
 | [],d,d',hd,h=>by cases h;exact hd
 |i::l,d,d',hd,h=>by
  unfold Ds at h;split at h
  ·cases h
  ·rename_i o ho;refine Mj hs (fun t ht=>?_) h;rcases A6.1 ht with ht | ht
   ·exact hd t ht
   ·rw[As.1 ht];exact W5 hs hd ho
theorem IJ{α:Type}[DecidableEq α]:∀{l m:List α},l.Nodup→(∀x∈l,x∈m)→l.length≤m.length
 | [],_,_,_=>AG _
 |a::l,m,hn,hs=>by
  rw[Db]at hn;have ha:a∈m:=hs a (Ac ..)
  have:=IJ (l:=l) (m:=m.erase a) hn.2 fun x hx=>by
   have:x≠a:=fun e=>hn.1 (e▸hx)
   exact(List.mem_erase_of_ne this).2 (hs x (Af _ hx))
  rw[List.length_erase_of_mem ha]at this
  have:=List.length_pos_of_mem ha
  simp only[Au];omega
abbrev Ws(s:List Sl):Prop:=s.Pairwise (fun a b=>EM a.path b.path=true)
-- the next path
theorem Km(before:List Sl):∀{l:List Rq} {acc:Option ByteArray},(∀p,acc=some p→CQ before p=false) →
  (∀p,DE before l acc=some p→CQ before p=false∧(acc=some p∨∃q∈l,q.path=p))∧(DE before l acc=none→acc=none∧∀q∈l,CQ before q.path=true)
 | [],acc,ha=>⟨fun p h=>⟨ha p h,.inl h⟩,fun h=>⟨h,fun _ h=>(by cases h)⟩⟩
 |q::l,acc,ha=>by
  unfold DE
  have key:∀cz,(∀p,cz=some p→CQ before p=false)→(∀p,cz=some p→acc=some p∨q.path=p)→(cz=none→acc=none∧CQ before q.path=true) →
    (∀p,DE before l cz=some p→CQ before p=false∧(acc=some p∨∃q'∈q::l,q'.path=p))∧(DE before l cz=none→acc=none∧∀q'∈q::l,CQ before q'.path=true):=by
   intro cz h1 h2 h3;obtain⟨i1,i2⟩:=Km before (l:=l) h1;refine⟨fun p h=>?_,fun h=>?_⟩
   ·obtain⟨j1,j2⟩:=i1 p h;refine⟨j1,?_⟩;rcases j2 with j2 | ⟨q',j3,j4⟩
    ·rcases h2 p j2 with h2 | h2
     ·exact .inl h2
     ·exact .inr ⟨q,Ac ..,h2⟩
    ·exact .inr ⟨q',Af _ j3,j4⟩
   ·obtain⟨j1,j2⟩:=i2 h;obtain⟨k1,k2⟩:=h3 j1;refine⟨k1,fun q' hq=>?_⟩;rcases Av.1 hq with rfl | hq
    ·exact k2
    ·exact j2 q' hq
  cases hb:CQ before q.path with
  |true=>simp only[RD];exact key acc ha (fun p h=>.inl h) fun h=>⟨h,hb⟩
  |false =>
   simp only[Dz,GJ];cases acc with
   |none=>exact key _ (fun p h=>by cases h;exact hb) (fun p h=>by cases h;exact .inr rfl) fun h=>by cases h
   |some p0 =>
    dsimp only;split
    ·exact key _ (fun p h=>by cases h;exact hb) (fun p h=>by cases h;exact .inr rfl) fun h=>by cases h
    ·exact key _ (fun p h=>by cases h;exact ha _ rfl) (fun p h=>by cases h;exact .inl rfl) fun h=>by cases h
theorem Uc{needs:List Rq}{before:List Sl}{p:ByteArray}(h:K4 needs before=some p):CQ before p=false∧∃q∈needs,q.path=p:=by
 obtain⟨h1,h2⟩:=(Km before (l:=needs) (acc:=none) fun _ e=>by cases e).1 p h;rcases h2 with h2 | h2
 ·cases h2
 ·exact⟨h1,h2⟩
theorem az{needs:List Rq}{before:List Sl}(h:K4 needs before=none):∀q∈needs,CQ before q.path=true :=
 ((Km before (l:=needs) (acc:=none) fun _ e=>by cases e).2 h).2
theorem TC(a b:List Sl)(p:ByteArray):CQ (a++b) p=(CQ a p||CQ b p):=by unfold CQ;rw[HQ]
theorem Lx{s:List Sl}{p:ByteArray}:CQ s p=true↔∃y∈s,y.path=p:=by unfold CQ;simp
theorem Hz{s:List Sl}{p:ByteArray}:CQ s p=true↔p∈s.map (·.path):=by rw[Lx,Ar]
-- what is needed
-- skips
theorem WK{t:List Tm}{b s:List Sl}(hs:Es s=true)(hb:∀y∈b,y∈s)(h:CN t b=true):Bp t s=true:=by
 unfold CN at h;simp only[Ah,Da,FH]at h;obtain⟨h1,h2⟩:=h;rw[BL]at h1⊢;intro u hu
 have:=h2 u hu
 simp only[Bool.not_eq_false]at this;rw[Kh]at this;cases hf:Cn b u.path with
 |none=>rw[hf]at this;cases this
 |some y =>
  have h3:=h1 u hu;rw[hf]at h3
  have:=X5 hs (hb y (JI hf))
  rw[Mm hf]at this;rw[this];exact h3
-- right answers
-- the first decision that differs
-- prefixes
theorem Jk{x:List Rl}{roots:List Rq}:∀{l:List Nf} {d d' : List (List Tm)},Ds x roots l d=some d'→d'.length=d.length+l.length
 | [],d,d',h=>by cases h;rfl
 |i::l,d,d',h=>by
  unfold Ds at h;split at h
  ·cases h
  ·have:=Jk h
   simp only[Ad,Au,Ay]at this⊢;omega
theorem Hj{x:List Rl}{roots:List Rq}:∀(l m:List Nf) (d:List (List Tm)),Ds x roots (l++m) d=match Ds x roots l d with | none=>none | some d'=>Ds x roots m d'
 | [],_,_=>rfl
 |i::l,m,d=>by
  show(match DY x roots d i with | none=>none | some t=>Ds x roots (l++m) (d++[t]))=(match(match DY x roots d i with | none=>none | some t=>Ds x roots l (d++[t]))with | none=>none | some d'=>Ds x roots m d');cases DY x roots d i with
  |none=>rfl
  |some t=>exact Hj l m _
theorem LQ{x:List Rl}{roots:List Rq}:∀{l:List Nf} {d d' : List (List Tm)},Ds x roots l d=some d'→d <+: d'
 | [],d,d',h=>by cases h;exact List.prefix_refl _
 |i::l,d,d',h=>by
  unfold Ds at h;split at h
  ·cases h
  ·exact(OK _ _).trans (LQ h)
theorem NA{x:List Rl}{roots:List Rq}{l:List Nf}{d:List (List Tm)}(h:Ds x roots l []=some d)(k:Nat):Ds x roots (l.take k) []=some (d.take k):=by
 rw[←Gp k l,Hj]at h;cases e:Ds x roots (l.take k) []with
 |none=>rw[e]at h;cases h
 |some f =>
  rw[e]at h;dsimp only at h;have h1:=Jk e;have h2:=Jk h;have h3:=LQ h
  congr 1
  simp only[Ay,AC,Ap]at h1 h2;obtain⟨z,rfl⟩:=h3
  by_cases hk:k≤l.length
  ·rw[Ef (by omega),AJ (by omega)]
  ·rw[Ad]at h2
   have:z=[]:=Az (by omega)
   subst this;rw[BE,AJ (by omega)]
def Lk(l:List Tm):Prop:=C3 l=some l
theorem eH{l:List Tm}:∀(l2:List Tm),Cp none (l2++l)→l.foldl (fun acc t=>Oc t acc) l2=l2++l:=by
 induction l with
 |nil=>intro l2 _;simp
 |cons t r ih =>
  intro l2 h;have hi:Oc t l2=l2++[t]:=by
   have:∀(m:List Tm) (lo:Option ByteArray),Cp lo (m++t::r)→Oc t m=m++[t]:=by
    intro m
    induction m with
    |nil =>
     intro lo hm;have hc:EQ t.set:=hm.2.1;unfold Oc;rw[show LO t=t from p5 rfl rfl (JG hc)];rfl
    |cons u m ihm =>
     intro lo hm;have hm:Cp lo (u::(m++t::r)):=hm;have DF:=Cp.low hm.2.2 t (by simp);unfold Oc;rw[Ax DF,ihm _ hm.2.2];rfl
   exact this l2 none h
  rw[FQ,hi]
  have:=ih (l2++[t]) (by rw[AM];exact h)
  rw[this,AM];rfl
theorem QG{l:List Tm}(h:Cp none l):Fd l=l:=by
 have:=eH (l:=l) [] h
 simpa[Fd]using this
theorem Rs{l c:List Tm}(h:C3 l=some c):Lk c:=by
 have hs:=E2 h;unfold Lk;unfold C3 at h⊢;rw[QG hs];split at h
 ·cases h
 ·rename_i hn;cases h;rw[Ao]
  ·congr 1
   rw[List.filter_filter];simp
  ·rw[Bool.not_eq_true,FH]at hn⊢;intro t ht;exact hn t (Bo.1 ht).1
theorem Pl:Lk []:=rfl
theorem MH(l:List Tm):Lk (QJ l):=by
 unfold QJ;cases h:C3 l with
 |none=>exact Pl
 |some c=>exact Rs h
theorem NR(a b:List Tm)(p:ByteArray):Lk (BH a b p).1:=by
 unfold BH;split
 ·split
  ·rename_i h;exact Rs h
  ·exact Pl
 ·exact Pl
theorem YV{l o:List Tm}(h:dJ l=some o):o=l:=by unfold dJ at h;split at h<;>cases h;rfl
theorem Yw{x:List Rl}{roots:List Rq}{d:List (List Tm)}{i:Nf}{o:List Tm}(h:DY x roots d i=some o):Lk o:=by
 unfold DY at h;split at h
 ·split at h
  ·rw[AY]at h;obtain⟨q,_,rfl⟩:=h;exact MH _
  ·cases h
 ·split at h
  ·split at h
   ·split at h
    ·cases h
    ·split at h
     ·cases h
     ·rw[YV h];exact MH _
   ·cases h
  ·split at h
   ·split at h
    ·rw[YV h];exact MH _
    ·cases h
   ·split at h
    ·split at h
     ·split at h
      ·split at h
       ·cases h;exact NR _ _ _
       ·cases h
      ·cases h
     ·cases h
    ·cases h
theorem Ny{x:List Rl}{roots:List Rq}:∀{l:List Nf} {d d' : List (List Tm)},(∀t∈d,Lk t)→Ds x roots l d=some d'→∀t∈d',Lk t
 | [],d,d',hd,h=>by cases h;exact hd
 |i::l,d,d',hd,h=>by
  unfold Ds at h;split at h
  ·cases h
  ·rename_i o ho;refine Ny (fun t ht=>?_) h;rcases A6.1 ht with ht | ht
   ·exact hd t ht
   ·rw[As.1 ht];exact Yw ho
-- tampering
end Go.Eng
