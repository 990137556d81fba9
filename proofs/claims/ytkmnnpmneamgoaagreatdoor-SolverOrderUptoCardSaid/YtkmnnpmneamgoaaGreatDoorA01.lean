/- Lemmas for the claims of this seat, without a condition: part 1 (P1, P2, P3, P4, P5, P6, P7). -/
import Derived.Test.YtkmnnpmneamgoaaGreatDoorA00
namespace Go.Eng
def BN(p:Int)(s:Int×Int):Bool:=decide (s.1≤p)&&decide (p<s.2)
def has(s:List (Int×Int))(p:Int):Bool:=decide (0≤p)&&decide (p<1000000)&&s.any (BN p)
abbrev Bj:=List (Int×Int)
def EF(lo:Int):Bj→Prop
 | []=>True
 |y::r=>lo≤y.1∧y.1<y.2∧y.2≤1000000∧EF (y.2+1) r
abbrev Ey(l:Bj):Prop:=EF 0 l
def Vr(x:Int×Int):Bj→Bj
 | []=>[x]
 |y::r=>if x.2<y.1 then x::y::r else if y.2<x.1 then y::Vr x r else Vr (min x.1 y.1,max x.2 y.2) r
def Hi(x:Int×Int):Int×Int:=(max x.1 0,min x.2 1000000)
def canon:Bj→Bj
 | []=>[]
 |x::r=>if(Hi x).1<(Hi x).2 then Vr (Hi x) (canon r)else canon r
def KX(at_:Int):Bj→Bj
 | []=>if at_<1000000 then [(at_,1000000)]else []
 |y::r=>if at_<y.1 then(at_,y.1)::KX y.2 r else KX y.2 r
def Ec(s:Bj):Bj:=KX 0 (canon s)
def PX(l:List Bj):Bj:=canon l.flatten
def Pw(l:List Bj):Bj:=Ec (l.map Ec).flatten
def OZ(a b:Bj):Bj:=PX [a,b]
def OA(a b:Bj):Bj:=Pw [a,b]

theorem EF.mono{lo Hy : Int}:∀{l:Bj},EF lo l→Hy≤lo→EF Hy l
 | [],_,_=>trivial
 |_::_,⟨h1,h2,h3,h4⟩,h=>⟨Int.le_trans h h1,h2,h3,h4⟩
theorem EF.low{lo:Int}:∀{l:Bj},EF lo l→∀y∈l,lo≤y.1∧y.1<y.2∧y.2≤1000000
 |y::r,⟨h1,h2,h3,h4⟩,z,hz=>by
  rcases AF.1 hz with rfl | hz
  ·exact⟨h1,h2,h3⟩
  ·have:=h4.low z hz
   exact⟨by omega,this.2.1,this.2.2⟩
theorem DC{p:Int}{s:Int×Int}:BN p s=true↔s.1≤p∧p<s.2:=by simp[BN]
theorem Mp{lo:Int}{l:Bj}(h:EF lo l){p:Int}(hp:l.any (BN p)=true):lo≤p:=by
 obtain⟨y,hy,h2⟩:=Bf.1 hp
 have:=h.low y hy
 have:=DC.1 h2
 omega
theorem dL{lo:Int}{l:Bj}(h:EF lo l){p:Int}(hp:l.any (BN p)=true):p<1000000:=by
 obtain⟨y,hy,h2⟩:=Bf.1 hp
 have:=h.low y hy
 have:=DC.1 h2
 omega
theorem Nk:∀(l:Bj) {lo:Int} {x:Int×Int},EF lo l→lo≤x.1→x.1<x.2→x.2≤1000000→EF lo (Vr x l)
 | [],lo,x,_,h1,h2,h3=>⟨h1,h2,h3,trivial⟩
 |y::r,lo,x,⟨g1,g2,g3,g4⟩,h1,h2,h3=>by
  unfold Vr;split
  ·exact⟨h1,h2,h3,by omega,g2,g3,g4⟩
  ·split
   ·exact⟨g1,g2,g3,Nk r g4 (by omega) h2 h3⟩
   ·refine Nk r (g4.mono (by omega)) ?_ ?_ ?_<;>dsimp only<;>omega
theorem N4:∀(l:Bj) {lo:Int} {x:Int×Int} (p:Int),EF lo l→x.1<x.2→(Vr x l).any (BN p)=(BN p x||l.any (BN p))
 | [],lo,x,p,_,_=>by simp[Vr]
 |y::r,lo,x,p,⟨g1,g2,g3,g4⟩,h2=>by
  unfold Vr;split
  ·simp
  ·split
   ·rw[Cf,N4 r p g4 h2,Cf,←Bool.or_assoc,←Bool.or_assoc,Bool.or_comm (BN p y)]
   ·rw[N4 r p g4 (by dsimp only;omega),Cf,←Bool.or_assoc]
    congr 1
    simp only[BN];rw[BX];simp only[Af,CO,Az];omega
theorem Ci:∀s:Bj,Ey (canon s)
 | []=>trivial
 |x::r=>by
  unfold canon;split
  ·rename_i h;refine Nk _ (Ci r) ?_ h ?_<;>simp only[Hi]<;>omega
  ·exact Ci r
theorem Km:∀(s:Bj) (p:Int),(canon s).any (BN p)=has s p
 | [],p=>by simp[has,canon]
 |x::r,p=>by
  have ih:=Km r p;unfold canon;have hx:BN p (Hi x)=(decide (0≤p)&&decide (p<1000000)&&BN p x):=by
   simp only[BN,Hi];rw[BX];simp only[Af,Az,Int.max_le,Int.lt_min];omega
  split
  ·rename_i h;rw[N4 _ p (Ci r) h,ih,hx];simp only[has,Cf];cases decide (0≤p)<;>cases decide (p<1000000)<;>simp
  ·rename_i h;rw[ih];simp only[has,Cf]
   have:BN p (Hi x)=false:=by
    rw[AL];intro h3
    have:=DC.1 h3
    omega
   rw[this]at hx;cases h1:decide (0≤p)<;>cases h2:decide (p<1000000)<;>simp_all
theorem Hu{l:Bj}(h:Ey l)(p:Int):has l p=l.any (BN p):=by
 unfold has;cases e:l.any (BN p)with
 |false=>simp
 |true=>have h1:0≤p:=Mp h e;have h2:=dL h e;simp[h1,h2]
theorem G9(s:Bj)(p:Int):has (canon s) p=has s p:=by
 rw[Hu (Ci s),Km]
theorem MY:∀{a b:Bj} {lo:Int},EF lo a→EF lo b→(∀p,a.any (BN p)=b.any (BN p))→a=b
 | [],[],_,_,_,_=>rfl
 | [],z::s,_,_,⟨g1,g2,g3,g4⟩,h=>by
  have:=h z.1
  rw[Cf,DC.2 ⟨BP _,g2⟩]at this;simp at this
 |y::r,[],_,⟨g1,g2,g3,g4⟩,_,h=>by
  have:=h y.1
  rw[Cf,DC.2 ⟨BP _,g2⟩]at this;simp at this
 |y::r,z::s,lo,⟨f1,f2,f3,f4⟩,⟨g1,g2,g3,g4⟩,h=>by
  have below:∀{x:Int×Int} {t:Bj} {p:Int},EF (x.2+1) t→(x::t).any (BN p)=true→p≤x.2→x.1≤p∧p<x.2:=fun {x t p} ht hp HI=>by
   rw[Cf,CO]at hp;rcases hp with hp | hp
   ·exact DC.1 hp
   ·have:=Mp ht hp;omega
  have low:∀{x:Int×Int} {t:Bj} {p:Int},x.1<x.2→EF (x.2+1) t→(x::t).any (BN p)=true→x.1≤p:=fun {x t p} hx ht hp=>by
   rw[Cf,CO]at hp;rcases hp with hp | hp
   ·exact(DC.1 hp).1
   ·have:=Mp ht hp;omega
  have cov:∀{x:Int×Int} {t:Bj} {p:Int},x.1≤p→p<x.2→(x::t).any (BN p)=true:=fun {x t p} h1 h2=>by
   rw[Cf,DC.2 ⟨h1,h2⟩,Bool.true_or]
  have e1:y.1=z.1:=by
   have a1:=low f2 f4 ((h z.1).trans (cov (BP _) g2));have a2:=low g2 g4 ((h y.1).symm.trans (cov (BP _) f2));omega
  have e2:y.2=z.2:=by
   rcases Int.lt_trichotomy y.2 z.2 with hl | he | hl
   ·have:=below f4 ((h y.2).trans (cov (by omega) hl)) (BP _);omega
   ·exact he
   ·have:=below g4 ((h z.2).symm.trans (cov (by omega) hl)) (BP _);omega
  have e:y=z:=Prod.ext e1 e2;subst e
  congr 1
  refine MY f4 g4 fun p=>?_;have hp:=h p;simp only[Cf]at hp;cases hs:BN p y with
  |false=>rw[hs,LG,LG]at hp;exact hp
  |true =>
   have:=DC.1 hs
   have n:∀{t:Bj},EF (y.2+1) t→t.any (BN p)=false:=fun {t} ht=>by
    rw[AL];intro hx;have:=Mp ht hx;omega
   rw[n f4,n g4]
theorem Hm{a b:Bj}(ha:Ey a)(hb:Ey b)(h:∀p,has a p=has b p):a=b :=
 MY ha hb fun p=>by rw[←Hu ha,←Hu hb,h]
theorem RV{a s:Bj}(ha:Ey a)(h:∀p,has a p=has s p):a=canon s :=
 Hm ha (Ci s) fun p=>by rw[h,G9]
theorem I9{a:Bj}(ha:Ey a):canon a=a:=(RV ha fun _=>rfl).symm
theorem L3{s:Bj}{p:Int}(h:has s p=true):0≤p∧p<1000000:=by
 unfold has at h;simp only[Af,Az]at h;exact h.1
def LB(p:Int):Bool:=decide (0≤p)&&decide (p<1000000)
theorem KY:∀(l:Bj) {at_ lo:Int},0≤at_→EF lo l→lo≤at_+1→at_≤lo→EF at_ (KX at_ l)∧∀p,(KX at_ l).any (BN p)=(decide (at_≤p)&&decide (p<1000000)&&!l.any (BN p))
 | [],at_,lo,h0,_,h1,h2=>by
  unfold KX;split
  ·exact⟨⟨BP _,by dsimp only;omega,BP _,trivial⟩,fun p=>by simp[BN]⟩
  ·refine⟨trivial,fun p=>?_⟩
   have:(decide (at_≤p)&&decide (p<1000000))=false:=by
    rw[AL];simp only[UU,Af,Az];omega
   simp[this]
 |y::r,at_,lo,h0,⟨g1,g2,g3,g4⟩,h1,h2=>by
  have ih:=KY r (at_:=y.2) (by omega) g4 (BP _) (by omega);have key:∀p,(decide (at_≤p)&&decide (p<y.1)||(KX y.2 r).any (BN p))=(decide (at_≤p)&&decide (p<1000000)&&!(y::r).any (BN p)):=fun p=>by
   rw[ih.2,Cf];cases hr:r.any (BN p)with
   |true =>
    have:=Mp g4 hr
    have a:decide (p<y.1)=false:=AD (by omega);simp[a]
   |false =>
    rw[BX];simp only[BN,Af,CO,Az,CN,QP,Bool.and_eq_false_iff,JF,Bool.not_false,RL];omega
  unfold KX;split
  ·rename_i h;refine⟨⟨BP _,h,by dsimp only;omega,ih.1 |> fun c=>?_⟩,fun p=>?_⟩
   ·dsimp only;cases e:KX y.2 r with
    |nil=>trivial
    |cons z s =>
     rw[e]at c;exact⟨by have:=c.1;omega,c.2⟩
   ·rw[Cf,←key];rfl
  ·rename_i h;refine⟨ih.1.mono (by omega),fun p=>?_⟩;rw[←key]
   have:(decide (at_≤p)&&decide (p<y.1))=false:=by
    rw[AL];simp only[UU,Af,Az];omega
   rw[this,LG]
theorem G8(s:Bj):Ey (Ec s):=by
 unfold Ec;exact(KY _ (BP _) (Ci s) (by omega) (BP _)).1
theorem FJ(s:Bj)(p:Int):has (Ec s) p=(LB p&&!has s p):=by
 rw[Hu (G8 s)];unfold Ec;rw[(KY _ (BP _) (Ci s) (by omega) (BP _)).2,Km];rfl
theorem YN(a b:Bj)(p:Int):has (a++b) p=(has a p||has b p):=by
 simp only[has,Gj];cases decide (0≤p)<;>cases decide (p<1000000)<;>simp
theorem L1:∀(l:List Bj) (p:Int),has l.flatten p=l.any fun s=>has s p
 | [],p=>by simp[has]
 |s::l,p=>by rw[BL,YN,L1 l p,Cf]
theorem SA(l:List Bj)(p:Int):has (PX l) p=l.any fun s=>has s p:=by
 unfold PX;rw[G9,L1]
theorem Wg(l:List Bj):Ey (PX l):=Ci _
theorem VZ(l:List Bj):Ey (Pw l):=G8 _
theorem Sz(l:List Bj)(p:Int):has (Pw l) p=(LB p&&l.all fun s=>has s p):=by
 unfold Pw;rw[FJ,L1,List.any_map];cases h:LB p with
 |false=>rfl
 |true =>
  rw[Ev,Ev,List.not_any_eq_all_not]
  congr 1
  funext s
  simp[FJ,h]
theorem X7(a b:Bj):Ey (OZ a b):=Ci _
theorem Qw(a b:Bj):Ey (OA a b):=G8 _
theorem bJ(a b:Bj)(p:Int):has (OZ a b) p=(has a p||has b p):=by
 unfold OZ;rw[SA];simp
theorem UH(a b:Bj)(p:Int):has (OA a b) p=(has a p&&has b p):=by
 unfold OA;rw[Sz];simp only[List.all_cons,List.all_nil,Bool.and_true];cases h:has a p with
 |false=>simp
 |true=>have:=L3 h;simp[LB,this]
theorem YY(s:Bj):OA s s=canon s:=Hm (Qw _ _) (Ci _) fun p=>by rw[UH,G9,Bool.and_self]
theorem TT{s:Bj}:canon s=[]↔∀p,has s p=false:=by
 constructor
 ·intro h p;rw[←G9,h];simp[has]
 ·intro h;exact Hm (Ci s) (b:=[]) trivial fun p=>by rw[G9,h p];simp[has]
theorem PE{s:Bj}(hs:Ey s):s=[]↔∀p,has s p=false:=by
 rw[←TT,I9 hs]
def dq(l:List Bj)(p:Int):Nat:=l.countP fun s=>has s p
theorem RU:∀{l:Bj} {lo:Int},EF lo l→lo≤1000000→(l.length:Int)≤1000000-lo
 | [],lo,_,h=>by simp;omega
 |y::r,lo,⟨g1,g2,g3,g4⟩,h=>by
  by_cases h3:y.2+1≤1000000
  ·have:=RU g4 h3
   simp only[Al];omega
  ·cases r with
   |nil=>simp;omega
   |cons z s=>have:=g4.1;have:=g4.2.1;have:=g4.2.2.1;omega
theorem HS{l:Bj}(h:Ey l):l.length≤1000000:=by have:=RU h (by omega);omega
end Go.Eng

namespace Go.Eng
structure Ver where
 (a b c:Int)
structure Rq where
 path:ByteArray
 set:List (Int×Int)
structure Rl where
 path:ByteArray
 ver:Ver
 reqs:List Rq
 (arch ifc cert:ByteArray)
 yanked:Bool
structure Sl where
 path:ByteArray
 ver:Ver
structure Tm where
 path:ByteArray
 absent:Bool
 set:List (Int×Int)
structure Nf where
 kind:Int
 path:ByteArray
 (place number left right:Int)
structure Sk where
 path:ByteArray
 (place inf:Int)
structure An where
 found:Bool
 sel:List Sl
 infs:List Nf
 skips:List Sk
instance:DecidableEq Ver:=fun x y=>decidable_of_iff (x.a=y.a∧x.b=y.b∧x.c=y.c) ⟨fun⟨h1,h2,h3⟩=>by cases x;cases y;simp_all,fun h=>by subst h;exact⟨rfl,rfl,rfl⟩⟩
instance:DecidableEq Sl:=fun x y=>decidable_of_iff (x.path=y.path∧x.ver=y.ver) ⟨fun⟨h1,h2⟩=>by cases x;cases y;simp_all,fun h=>by subst h;exact⟨rfl,rfl⟩⟩
theorem n6{x y:Tm}(h1:x.path=y.path)(h2:x.absent=y.absent)(h3:x.set=y.set):x=y:=by cases x;cases y;simp_all
def okPart(n:Int):Prop:=0≤n∧n≤999
instance (n:Int):Decidable (okPart n):=by unfold okPart;infer_instance
def CL(v:Ver):Bool:=decide (okPart v.a)&&decide (okPart v.b)&&decide (okPart v.c)
def place(v:Ver):Int:=1000*v.b+v.c
def plc(v:Ver):Int:=if CL v then place v else 0
def BV(s:List Sl)(p:ByteArray):Option Sl:=s.find? fun x=>decide (x.path=p)
def GI(t:Tm)(s:List Sl):Bool :=
 match s.find? (fun x=>decide (x.path=t.path))with
 |none=>t.absent
 |some x=>CL x.ver&&has t.set (place x.ver)
def Co(s:List Sl)(p:ByteArray):Bool:=s.any fun x=>decide (x.path=p)
def Bg(l:List Tm)(s:List Sl):Bool:=l.all fun t=>GI t s
def Cr(l:List Tm)(s:List Sl):Bool:=Bg l s&&!l.any fun t=>!Co s t.path

def J4:List UInt8→List UInt8→Bool
 | [],[]=>false
 | [],_::_=>true
 |_::_,[]=>false
 |a::x,b::y=>decide (a<b)||(decide (a=b)&&J4 x y)
def FV(a b:ByteArray):Bool:=J4 a.data.toList b.data.toList
theorem QA:∀x,J4 x x=false
 | []=>rfl
 |a::x=>by
  unfold J4;simp[QA x]
theorem ST:∀{x y z},J4 x y=true→J4 y z=true→J4 x z=true
 | [],[],_,h,_=>by simp[J4]at h
 | [],_::_,[],_,h=>by simp[J4]at h
 | [],_::_,_::_,_,_=>rfl
 |_::_,[],_,h,_=>by simp[J4]at h
 |_::_,_::_,[],_,h=>by simp[J4]at h
 |a::x,b::y,c::z,h1,h2=>by
  unfold J4 at *
  simp only[CO,Af,Az]at *
  rcases h1 with h1 | ⟨rfl,h1⟩
  ·rcases h2 with h2 | ⟨rfl,h2⟩
   ·exact .inl (UInt8.lt_trans h1 h2)
   ·exact .inl h1
  ·rcases h2 with h2 | ⟨rfl,h2⟩
   ·exact .inl h2
   ·exact .inr ⟨rfl,ST h1 h2⟩
theorem XA:∀{x y},J4 x y=false→J4 y x=false→x=y
 | [],[],_,_=>rfl
 | [],_::_,h,_=>by simp[J4]at h
 |_::_,[],_,h=>by simp[J4]at h
 |a::x,b::y,h1,h2=>by
  unfold J4 at *
  simp only[Bool.or_eq_false_iff,Bool.and_eq_false_iff,JF]at *
  have e:a=b:=by
   have l1:=UInt8.not_lt.1 h1.1;have l2:=UInt8.not_lt.1 h2.1;exact UInt8.le_antisymm l2 l1
  subst e
  have:=XA (x:=x) (y:=y) (by simpa using h1.2) (by simpa using h2.2)
  rw[this]
theorem sH{a b:ByteArray}(h:a.data.toList=b.data.toList):a=b:=by
 cases a;cases b;simp only[ByteArray.mk.injEq];exact Lv.1 h
theorem DM(a:ByteArray):FV a a=false:=QA _
theorem EN{a b c:ByteArray}(h:FV a b=true)(k:FV b c=true):FV a c=true:=ST h k
theorem JC{a b:ByteArray}(h:FV a b=false)(k:FV b a=false):a=b:=sH (XA h k)
theorem Ys{a b:ByteArray}(h:FV a b=true):a≠b:=fun e=>by subst e;rw[DM]at h;cases h
theorem Pc{a b:ByteArray}(h:FV a b=true):FV b a=false:=by
 rw[AL];intro k;have:=EN h k;rw[DM]at this;cases this

def Lp(t:Tm):Tm:=⟨t.path,t.absent,canon t.set⟩
def GT(u t:Tm):Tm:=⟨u.path,u.absent&&t.absent,OA u.set t.set⟩
def Ny(t:Tm):List Tm→List Tm
 | []=>[Lp t]
 |u::r=>if FV u.path t.path then u::Ny t r else if u.path=t.path then GT u t::r else Lp t::u::r
def EV(l:List Tm):List Tm:=l.foldl (fun acc t=>Ny t acc) []
def HA(t:Tm):Bool:=!t.absent&&t.set.isEmpty
def GB(t:Tm):Bool:=t.absent&&decide (t.set=[(0,1000000)])
def CJ(l:List Tm):Option (List Tm):=if(EV l).any HA then none else some ((EV l).filter fun t=>!GB t)
def PF(l:List Tm):List Tm:=(CJ l).getD []
def Dy(q:Rq):Tm:=⟨q.path,true,Ec q.set⟩
def GJ(q:Rq):List Tm:=PF [Dy q]
def C0(path:ByteArray)(pl:Int)(q:Rq):List Tm:=PF [⟨path,false,[(pl,pl+1)]⟩,Dy q]
def E5(path:ByteArray)(o9:Bj):List Tm:=PF [⟨path,false,Ec o9⟩]
def Dg(l:List Tm)(p:ByteArray):Option Tm:=l.find? fun t=>decide (t.path=p)
def FO(l:List Tm)(p:ByteArray):List Tm:=l.filter fun t=>!decide (t.path=p)
def De(a b:Tm):Tm:=⟨a.path,a.absent||b.absent,OZ a.set b.set⟩
def Fw(l:List Tm)(p:ByteArray):Option (Tm×List Tm):=match CJ l with
 |none=>none
 |some c=>match Dg c p with
  |none=>none
  |some t=>some (t,FO c p)
def A7(a b:List Tm)(p:ByteArray):List Tm×Int :=
 match Fw a p,Fw b p with
 |some (t,r),some (u,m)=>match CJ (r++m++[De t u])with
  |some o=>(o,0)
  |none=>([],8)
 |_,_=>([],1)

def Ce(lo:Option ByteArray):List Tm→Prop
 | []=>True
 |t::r=>(∀p,lo=some p→FV p t.path=true)∧Ey t.set∧Ce (some t.path) r
theorem Ce.weak{lo:Option ByteArray}:∀{l:List Tm},Ce lo l→Ce none l
 | [],_=>trivial
 |_::_,⟨_,h2,h3⟩=>⟨fun _ h=>(by cases h),h2,h3⟩
theorem Ce.low{p:ByteArray}:∀{l:List Tm},Ce (some p) l→∀t∈l,FV p t.path=true
 |t::r,⟨h1,h2,h3⟩,u,hu=>by
  rcases AF.1 hu with rfl | hu
  ·exact h1 p rfl
  ·exact EN (h1 p rfl) (h3.low u hu)
theorem Ce.canon{lo:Option ByteArray}:∀{l:List Tm},Ce lo l→∀t∈l,Ey t.set
 |t::r,⟨h1,h2,h3⟩,u,hu=>by
  rcases AF.1 hu with rfl | hu
  ·exact h2
  ·exact h3.canon u hu
theorem Ce.mono{p q:ByteArray}:∀{l:List Tm},Ce (some p) l→FV q p=true→Ce (some q) l
 | [],_,_=>trivial
 |t::r,⟨h1,h2,h3⟩,h=>⟨fun _ e=>by cases e;exact EN h (h1 p rfl),h2,h3⟩
theorem L9:∀{l:List Tm} {lo:Option ByteArray} (t:Tm),Ce lo l→(∀p,lo=some p→FV p t.path=true)→Ce lo (Ny t l)
 | [],lo,t,_,h=>⟨h,Ci _,trivial⟩
 |u::r,lo,t,⟨h1,h2,h3⟩,h=>by
  unfold Ny;split
  ·rename_i Dt;exact⟨h1,h2,L9 t h3 fun p e=>by cases e;exact Dt⟩
  ·rename_i Dt;split
   ·rename_i he;exact⟨h1,Qw _ _,h3⟩
   ·rename_i he;refine⟨h,Ci _,fun p e=>?_,h2,h3⟩;cases e
    have:FV u.path t.path=false:=by simpa using Dt
    cases hb:FV t.path u.path with
    |true=>exact hb
    |false=>exact absurd (JC this hb) he
theorem Oo:∀(l acc:List Tm),Ce none acc→Ce none (l.foldl (fun acc t=>Ny t acc) acc)
 | [],_,h=>h
 |t::l,acc,h=>Oo l _ (L9 t h fun _ e=>by cases e)
theorem Ed(l:List Tm):Ce none (EV l):=Oo l [] trivial
theorem CF(t:Tm)(r:List Tm)(p:ByteArray):Dg (t::r) p=if t.path=p then some t else Dg r p:=by
 unfold Dg;rw[FG];by_cases h:t.path=p<;>simp[h]
theorem Hq{p q:ByteArray}{l:List Tm}(h:Ce (some p) l)(hq:FV p q=false):Dg l q=none:=by
 unfold Dg;rw[DO];intro t ht
 have:=h.low t ht
 simp only[Az];intro e;subst e;rw[hq]at this;cases this
def NL(o:Option Tm)(t:Tm):Tm:=match o with | none=>Lp t | some u=>GT u t
theorem PI(o:Option Tm)(t:Tm)(h:∀u,o=some u→u.path=t.path):(NL o t).path=t.path:=by
 cases o with
 |none=>rfl
 |some u=>exact h u rfl
theorem G3{l:List Tm}{p:ByteArray}{u:Tm}(h:Dg l p=some u):u.path=p:=by
 have:=D7 h;simpa using this
theorem Fb{l:List Tm}{p:ByteArray}{u:Tm}(h:Dg l p=some u):u∈l:=B6 h
theorem Sn:∀{l:List Tm} {lo:Option ByteArray} (t:Tm) (p:ByteArray),Ce lo l→Dg (Ny t l) p=if t.path=p then some (NL (Dg l p) t)else Dg l p
 | [],lo,t,p,_=>by
  unfold Ny;rw[CF];show(if t.path=p then some (Lp t)else none)=_
  by_cases h:t.path=p<;>simp[h,Dg,NL]
 |u::r,lo,t,p,⟨h1,h2,h3⟩=>by
  unfold Ny;split
  ·rename_i Dt;rw[CF,CF,Sn t p h3]
   by_cases hu:u.path=p
   ·have:¬t.path=p:=fun e=>Ys Dt (hu.trans e.symm)
    simp[hu,this]
   ·simp[hu]
  ·rename_i Dt;split
   ·rename_i he;rw[CF,CF];show(if u.path=p then some (GT u t)else _)=_
    by_cases hu:u.path=p
    ·simp[hu,he▸hu,NL]
    ·have:¬t.path=p:=fun e=>hu (he.trans e)
     simp[hu,this]
   ·rename_i he;rw[CF];show(if t.path=p then some (Lp t)else _)=_
    by_cases ht:t.path=p
    ·have hn:Dg (u::r) p=none:=by
      rw[CF];have hu:¬u.path=p:=fun e=>he (e.trans ht.symm);simp only[hu,FL];exact Hq h3 (by subst ht;simpa using Dt)
     simp[ht,hn,NL]
    ·simp[ht]
def JV(p:ByteArray)(o:Option Tm)(t:Tm):Option Tm:=if t.path=p then some (NL o t)else o
theorem Qo(p:ByteArray):∀(l acc:List Tm),Ce none acc→Dg (l.foldl (fun acc t=>Ny t acc) acc) p=l.foldl (JV p) (Dg acc p)
 | [],_,_=>rfl
 |t::l,acc,h=>by
  rw[EI,Qo p l _ (L9 t h fun _ e=>by cases e),Sn t p h];rfl
theorem IT(l:List Tm)(p:ByteArray):Dg (EV l) p=l.foldl (JV p) none:=Qo p l [] trivial
theorem Mm:∀{a b:List Tm} {lo:Option ByteArray},Ce lo a→Ce lo b→(∀p,Dg a p=Dg b p)→a=b
 | [],[],_,_,_,_=>rfl
 | [],z::s,_,_,_,h=>by have:=h z.path;rw[CF,Aw rfl]at this;cases this
 |z::s,[],_,_,_,h=>by have:=h z.path;rw[CF,Aw rfl]at this;cases this
 |y::r,z::s,lo,⟨f1,f2,f3⟩,⟨g1,g2,g3⟩,h=>by
  have e:y=z:=by
   have a1:=h y.path;have a2:=h z.path;rw[CF,Aw rfl,CF]at a1;rw[CF,CF z,Aw rfl]at a2
   by_cases e:z.path=y.path
   ·rw[Aw e]at a1;exact CC a1
   ·rw[Am e]at a1;rw[Am (fun c=>e c.symm)]at a2;have b1:=Ce.low g3 y (Fb a1.symm);have b2:=Ce.low f3 z (Fb a2)
    have:=EN b1 b2
    rw[DM]at this;cases this
  subst e
  congr 1
  refine Mm f3 g3 fun p=>?_;have hp:=h p;rw[CF,CF]at hp
  by_cases e:y.path=p
  ·subst e;rw[Hq f3 (DM _),Hq g3 (DM _)]
  ·simpa[e]using hp
theorem Ce.filter(q:Tm→Bool):∀{l:List Tm} {lo:Option ByteArray},Ce lo l→Ce lo (l.filter q)
 | [],_,_=>trivial
 |t::r,lo,⟨h1,h2,h3⟩=>by
  have ih:=Ce.filter q h3;rw[Dp];split
  ·exact⟨h1,h2,ih⟩
  ·cases lo with
   |none=>exact ih.weak
   |some p=>exact ih.mono (h1 p rfl)
theorem FI{l:List Tm}{lo:Option ByteArray}{t:Tm}(h:Ce lo l):t∈l↔Dg l t.path=some t:=by
 constructor
 ·induction l generalizing lo with
  |nil=>intro h;cases h
  |cons u r ih =>
   intro ht;rw[CF];rcases AF.1 ht with rfl | ht
   ·rw[Aw rfl]
   ·have:=Ce.low h.2.2 t ht
    rw[Am (Ys this)];exact ih h.2.2 ht
 ·exact Fb
end Go.Eng

namespace Go.Eng
def Df(t:Tm)(o:Option Sl):Bool:=match o with | none=>t.absent | some x=>CL x.ver&&has t.set (place x.ver)
theorem fH(t:Tm)(s:List Sl):GI t s=Df t (BV s t.path):=by
 unfold GI Df BV;rfl
theorem JG{s:List Sl}{p:ByteArray}{x:Sl}(h:BV s p=some x):x.path=p:=by
 have:=D7 h;simpa using this
theorem HU{s:List Sl}{p:ByteArray}{x:Sl}(h:BV s p=some x):x∈s:=B6 h
theorem JJ{s:List Sl}{p:ByteArray}:Co s p=(BV s p).isSome:=by
 unfold Co BV;rw[BX,List.find?_isSome,Bf]
theorem YV(t:Tm)(o:Option Sl):Df (Lp t) o=Df t o:=by
 unfold Df Lp;cases o<;>simp[G9]
theorem Xl(u t:Tm)(o:Option Sl):Df (GT u t) o=(Df u o&&Df t o):=by
 unfold Df GT;cases o with
 |none=>rfl
 |some x=>simp only[UH];cases CL x.ver<;>simp
theorem M8(u t:Tm)(o:Option Sl):Df (De u t) o=(Df u o||Df t o):=by
 unfold Df De;cases o with
 |none=>rfl
 |some x=>simp only[bJ];cases CL x.ver<;>simp
def TQ(p:ByteArray)(o:Option Sl)(l:List Tm):Bool:=l.all fun t=>!decide (t.path=p)||Df t o
theorem JH(p:ByteArray)(o:Option Sl):∀(l:List Tm) (a:Option Tm),(∀u,a=some u→u.path=p) →
  (l.foldl (JV p) a=none↔a=none∧l.all (fun t=>!decide (t.path=p))=true)∧(∀u,l.foldl (JV p) a=some u→u.path=p∧Df u o=((match a with | none=>true | some b=>Df b o)&&TQ p o l))
 | [],a,ha=>by
  refine⟨by simp,fun u h=>?_⟩;have h:a=some u:=h;subst h;exact⟨ha u rfl,by simp[TQ]⟩
 |t::l,a,ha=>by
  rw[EI]
  by_cases e:t.path=p
  ·have hs:JV p a t=some (NL a t):=by unfold JV;rw[Aw e]
   rw[hs];have ih:=JH p o l (some (NL a t)) (fun u h=>by cases h;rw[PI a t fun u h=>(ha u h).trans e.symm];exact e);refine⟨⟨fun h=>?_,fun h=>?_⟩,fun u h=>?_⟩
   ·have:=ih.1.1 h;cases this.1
   ·simp[e]at h
   ·obtain⟨h1,h2⟩:=ih.2 u h;refine⟨h1,?_⟩;rw[h2]
    have:TQ p o (t::l)=(Df t o&&TQ p o l):=by simp[TQ,e]
    rw[this];cases a with
    |none=>simp[NL,YV]
    |some b=>simp[NL,Xl,Bool.and_assoc]
  ·have hs:JV p a t=a:=by unfold JV;rw[Am e]
   rw[hs];have ih:=JH p o l a ha
   have:TQ p o (t::l)=TQ p o l:=by simp[TQ,e]
   rw[this];refine⟨?_,ih.2⟩;rw[ih.1];simp[e]
theorem BG{l:List Tm}{s:List Sl}:Bg l s=true↔∀t∈l,Df t (BV s t.path)=true:=by
 unfold Bg;rw[BB];simp only[fH]
theorem Lu(l:List Tm)(s:List Sl):Bg (EV l) s=Bg l s:=by
 rw[BX,BG,BG];constructor
 ·intro h t ht
  have:=JH t.path (BV s t.path) l none (fun _ e=>by cases e)
  rw[←IT]at this;cases e:Dg (EV l) t.path with
  |none =>
   have:=(this.1.1 e).2
   rw[BB]at this
   have:=this t ht
   simp at this
  |some u =>
   obtain⟨h1,h2⟩:=this.2 u e;have hu:=h u (Fb e);rw[h1,h2]at hu;simp only[Ev,TQ,BB]at hu
   have:=hu t ht
   simpa using this
 ·intro h u hu;have e:=(FI (Ed l)).1 hu
  have:=JH u.path (BV s u.path) l none (fun _ e=>by cases e)
  rw[←IT]at this;obtain⟨h1,h2⟩:=this.2 u e;rw[h2];simp only[Ev,TQ,BB];intro t ht
  by_cases e:t.path=u.path
  ·have:=h t ht;rw[e]at this;simp[this]
  ·simp[e]
theorem Y7{t:Tm}(h:HA t=true)(o:Option Sl):Df t o=false:=by
 unfold HA at h;simp only[Af,CN,GR]at h;unfold Df;cases o with
 |none=>exact h.1
 |some x=>dsimp only;rw[h.2];simp[has]
def Gc(s:List Sl):Prop:=∀x∈s,CL x.ver=true
theorem He{v:Ver}(h:CL v=true):0≤v.a∧v.a≤999∧0≤v.b∧v.b≤999∧0≤v.c∧v.c≤999:=by
 unfold CL at h;simp only[Af]at h;obtain⟨⟨a,b⟩,c⟩:=h;obtain⟨a1,a2⟩:=CB a;obtain⟨b1,b2⟩:=CB b;obtain⟨c1,c2⟩:=CB c;exact⟨a1,a2,b1,b2,c1,c2⟩
theorem Jl{v:Ver}(h:CL v=true):0≤place v∧place v<1000000:=by
 have:=He h;unfold place;omega
theorem TR{t:Tm}(h:GB t=true){s:List Sl}(hs:Gc s):Df t (BV s t.path)=true:=by
 unfold GB at h;simp only[Af,Az]at h;unfold Df;cases e:BV s t.path with
 |none=>exact h.1
 |some x =>
  have:=hs x (HU e)
  have hp:=Jl this;dsimp only;rw[this,h.2];simp[has,BN,hp]
theorem CX{l:List Tm}{s:List Sl}(hs:Gc s):Bg l s=(match CJ l with | none=>false | some c=>Bg c s):=by
 unfold CJ;split
 ·rename_i h;split at h
  ·rename_i hn;rw[←Lu,AL];intro hv;rw[BG]at hv;obtain⟨t,ht,hn⟩:=Bf.1 hn
   have:=hv t ht
   rw[Y7 hn]at this;cases this
  ·cases h
 ·rename_i c h;split at h
  ·cases h
  ·rename_i hn;cases h;rw[←Lu,BX,BG,BG];constructor
   ·intro h t ht;exact h t (BA.1 ht).1
   ·intro h t ht;cases ha:GB t with
    |true=>exact TR ha hs
    |false=>exact h t (BA.2 ⟨ht,by simp[ha]⟩)
theorem G0(a b:List Tm)(s:List Sl):Bg (a++b) s=(Bg a s&&Bg b s):=by unfold Bg;rw[List.all_append]
theorem EJ{l c:List Tm}(h:CJ l=some c):Ce none c:=by
 unfold CJ at h;split at h
 ·cases h
 ·cases h;exact Ce.filter _ (Ed l)
theorem FN{l r:List Tm}{p:ByteArray}{t:Tm}{s:List Sl}(hs:Gc s)(h:Fw l p=some (t,r)):Bg l s=(Df t (BV s p)&&Bg r s)∧t.path=p:=by
 unfold Fw at h;cases hc:CJ l with
 |none=>rw[hc]at h;cases h
 |some c =>
  rw[hc]at h;dsimp only at h;cases hf:Dg c p with
  |none=>rw[hf]at h;cases h
  |some u =>
   rw[hf]at h;cases h;have hp:=G3 hf;refine⟨?_,hp⟩;rw[CX hs,hc];dsimp only;rw[BX,Af,BG,BG];constructor
   ·intro h
    have:=h t (Fb hf)
    rw[hp]at this;exact⟨this,fun v hv=>h v (BA.1 hv).1⟩
   ·intro⟨h1,h2⟩ v hv
    by_cases e:v.path=p
    ·have:=(FI (EJ hc)).1 hv
     rw[e,hf]at this;cases this;rw[e];exact h1
    ·exact h2 v (BA.2 ⟨hv,by simp[e]⟩)
theorem Tr{a b o:List Tm}{p:ByteArray}{s:List Sl}(hs:Gc s)(h:A7 a b p=(o,0))(hv:Bg o s=true):Bg a s=true∨Bg b s=true:=by
 unfold A7 at h;cases h1:Fw a p with
 |none=>rw[h1]at h;simp at h
 |some x =>
  cases h2:Fw b p with
  |none=>rw[h1,h2]at h;simp at h
  |some y =>
   obtain⟨t,r⟩:=x;obtain⟨u,m⟩:=y;rw[h1,h2]at h;dsimp only at h;cases hc:CJ (r++m++[De t u])with
   |none=>rw[hc]at h;simp at h
   |some c =>
    rw[hc]at h
    have:c=o:=by simpa using h
    subst this;have e:=CX (l:=r++m++[De t u]) hs;rw[hc]at e;dsimp only at e;rw[hv,G0,G0]at e;simp only[Af]at e;obtain⟨⟨e1,e2⟩,e3⟩:=e;obtain⟨va,pa⟩:=FN hs h1;obtain⟨vb,pb⟩:=FN hs h2;have e3:=BG.1 e3 _ (Ai.2 rfl)
    have:(De t u).path=p:=pa
    rw[this,M8,CO]at e3;rcases e3 with e3 | e3
    ·exact .inl (by rw[va,e3,e1];rfl)
    ·exact .inr (by rw[vb,e3,e2];rfl)
theorem PG{l:List Tm}{s:List Sl}(hs:Gc s)(Dn:PF l≠[]):Bg (PF l) s=Bg l s:=by
 have:=CX (l:=l) hs
 unfold PF at *
 cases h:CJ l with
 |none=>rw[h]at Dn;exact absurd rfl Dn
 |some c=>rw[h]at this;exact this.symm
end Go.Eng

namespace Go.Eng
-- paths
def G5(c:UInt8):Bool:=decide (97≤c)&&decide (c≤122)
def Vx(c:UInt8):Bool:=decide (65≤c)&&decide (c≤90)
def ET(c:UInt8):Bool:=decide (48≤c)&&decide (c≤57)
def Mn(c:UInt8):Bool:=G5 c||Vx c||ET c||decide (c=95)
def fZ:List UInt8:=[32,97,110,100,32,97,110,121,32,97,115,32,98,111,111,108,32,100,101,112,114,101,99,97,116,101,100,32,101,108,115,101,32,101,120,112,111,114,116,32,102,97,108,115,101,32,102,110,32,102,111,108,100,32,102,114,111,109,32,105,102,32,105,109,112,111,114,116,32,105,110,32,105,110,116,32,108,101,110,103,116,104,32,108,101,116,32,108,105,115,116,32,109,97,116,99,104,32,109,111,100,117,108,101,32,110,111,110,101,32,110,111,116,32,111,114,32,116,101,120,116,32,116,104,101,110,32,116,114,117,101,32,116,121,112,101,32,117,115,101,32]
def cV:List UInt8→List UInt8→Bool
 | [],_=>true
 |_::_,[]=>false
 |a::x,b::y=>decide (a=b)&&cV x y
def sj(x:List UInt8):List UInt8→Bool
 | []=>cV x []
 |b::y=>cV x (b::y)||sj x y
def YZ(s:List UInt8):Bool:=sj (32::(s++[32])) fZ
def H3(s:List UInt8):Bool:=!s.isEmpty&&decide (s.length≤32)&&G5 (s.headD 0)&&s.all Mn&&!YZ s
def Mj(s:List UInt8):Bool:=H3 s&&s.all fun c=>G5 c||ET c
def GF(s:List UInt8):Int:=s.foldl (fun n c=>10*n+((c.toNat:Int)-48)) 0
def LF(s:List UInt8):Option Int:=match s with
 |c::r=>if c=118 then(if r.isEmpty||decide (3<r.length)||(decide (1<r.length)&&decide (r.headD 0=48))||!r.all ET then none else some (GF r))else none
 | []=>none
def Fv(c:UInt8):List UInt8→List (List UInt8)
 | []=>[[]]
 |b::r=>if b=c then []::Fv c r else match Fv c r with
  | []=>[[b]]
  |x::l=>(b::x)::l
def Y4(p:List UInt8):Option Int:=match LF ((Fv 47 p).getLastD [])with
 |none=>none
 |some n=>if 64<p.length||(Fv 47 p).length<2 then none else if(Fv 47 p).all Mj then some n else none
def CI(p:ByteArray):Option Int:=Y4 p.data.toList
-- indexes
def GN(before:Option ByteArray)(q:Rq):Int :=
 if(CI q.path).isNone then 4 else if q.set.isEmpty||!decide (q.set=canon q.set)||(match before with | some b=>!FV b q.path | none=>false)then 1 else 0
def FW(before:Option ByteArray):List Rq→Int
 | []=>0
 |q::r=>if GN before q=0 then FW (some q.path) r else GN before q
def BE(l:List Rq):Int:=if 16<l.length then 7 else FW none l
def ES(s:ByteArray):Bool:=decide (s.size=0)||decide (s.size=32)
def DS(r:Rl):Int:=match CI r.path with
 |none=>4
 |some m=>if !CL r.ver||!decide (r.ver.a=m)then 2 else if BE r.reqs≠0 then BE r.reqs else if ES r.arch&&ES r.ifc&&ES r.cert then 0 else 1
def Gn(a b:Int):Int:=if a<b then -1 else if b<a then 1 else 0
def Od(a b:ByteArray):Int:=if FV a b then -1 else if FV b a then 1 else 0
def RY(a b:Ver):Int:=if Gn a.a b.a≠0 then Gn a.a b.a else if Gn a.b b.b≠0 then Gn a.b b.b else Gn a.c b.c
def RX(a b:Rl):Int:=if Od a.path b.path≠0 then Od a.path b.path else RY a.ver b.ver
def Gi(r:Rl):Sl:=⟨r.path,r.ver⟩
def Eo(before:Option Rl):List Rl→Int
 | []=>0
 |r::l=>if DS r≠0 then DS r else match before with
  |none=>Eo (some r) l
  |some b=>if Gi b=Gi r then 5 else if 0<RX b r then 1 else Eo (some r) l
def A6(l:List Rl):Int:=if 256<l.length then 7 else Eo none l
def Ej(x:List Rl)(y:Sl):Option Rl:=if A6 x≠0 then none else x.find? fun r=>decide (Gi r=y)
def J6(x:List Rl)(p:ByteArray):List Rl:=if A6 x≠0 then []else x.filter fun r=>decide (r.path=p)
def BM(x:List Rl)(p:ByteArray):Bj:=canon (((J6 x p).filter fun r=>!r.yanked).map fun r=>(plc r.ver,plc r.ver+1))
def L8(before:Option ByteArray):List Sl→Bool
 | []=>true
 |y::r=>(match before with |some b=>FV b y.path |none=>true)&&L8 (some y.path) r
def Et(s:List Sl):Bool:=L8 none s
-- solutions
-- derivations
def FM(x:List Rl)(p:ByteArray)(pl:Int):Option Rl:=x.find? fun r=>decide (r.path=p)&&decide (plc r.ver=pl)
def mt:ByteArray:=⟨#[]⟩
def Fr{α:Type}(l:List α)(i:Int):Option α:=if i<0 then none else l[i.toNat]?
def Ro(l:List Tm):Option (List Tm):=if l.isEmpty then none else some l
def BO(x:List Rl)(roots:List Rq)(d:List (List Tm))(i:Nf):Option (List Tm) :=
 if i.kind=0 then
  if i.path=mt∧i.place=0∧i.left=0∧i.right=0 then(Fr roots i.number).map GJ else none
 else if i.kind=1 then
  if i.left=0∧i.right=0 then match FM x i.path i.place with
   |none=>none
   |some r=>match Fr r.reqs i.number with
    |none=>none
    |some q=>Ro (C0 i.path i.place q)
  else none
 else if i.kind=2 then
  if i.place=0∧i.number=0∧i.left=0∧i.right=0 then Ro (E5 i.path (BM x i.path))else none
 else if i.kind=3 then
  if i.place=0∧i.number=0 then match Fr d i.left,Fr d i.right with
   |some a,some b=>if(A7 a b i.path).2=0 then some (A7 a b i.path).1 else none
   |_,_=>none
  else none
 else none
def B8(x:List Rl)(roots:List Rq):List Nf→List (List Tm)→Option (List (List Tm))
 | [],d=>some d
 |i::l,d=>match BO x roots d i with
  |none=>none
  |some t=>B8 x roots l (d++[t])
def Hp(x:List Rl)(roots:List Rq)(l:List Nf):List (List Tm)×Int :=
 if A6 x≠0∨BE roots≠0 then([],1)else if 65536<l.length then([],7)else match B8 x roots l []with
  |none=>([],18)
  |some d=>(d,0)
-- decisions
def CG(before:List Sl):List Rq→Option ByteArray→Option ByteArray
 | [],acc=>acc
 |q::l,acc=>CG before l (if Co before q.path then acc else match acc with
  |none=>some q.path
  |some p=>if FV q.path p then some q.path else some p)
def Gt(needs:List Rq)(before:List Sl):Option ByteArray:=CG before needs none
structure lZ where
 before:List Sl
 needs:List Rq
 rel:Rl
def GZ(x:List Rl)(s:List Sl):Nat→List Sl→List Rq→List lZ×Bool
 |0,_,_=>([],true)
 |n+1,before,needs=>match Gt needs before with
  |none=>([],true)
  |some p=>match BV s p with
   |none=>([],false)
   |some y=>match Ej x y with
    |none=>([],false)
    |some r=>(⟨before,needs,r⟩::(GZ x s n (before++[y]) (needs++r.reqs)).1,(GZ x s n (before++[y]) (needs++r.reqs)).2)
def visits(x:List Rl)(roots:List Rq)(s:List Sl):List lZ×Bool:=GZ x s (s.length+1) [] roots
def FX(x:List Rl)(roots:List Rq)(s:List Sl):List ByteArray×Int :=
 if A6 x≠0∨BE roots≠0∨Et s=false then([],1)else if(visits x roots s).2 then((visits x roots s).1.map fun v=>v.rel.path,0)else([],6)
-- answers
-- the example
end Go.Eng

namespace Go.Eng
-- the order of releases
theorem Ko{a b:Int}(h:Gn a b=0):a=b:=by
 unfold Gn at h;split at h
 ·cases h
 ·split at h
  ·cases h
  ·omega
theorem VA{a b:Int}(h:Gn a b<0):a<b:=by
 unfold Gn at h;split at h
 ·assumption
 ·split at h<;>omega
theorem Uz{a b:ByteArray}(h:Od a b=0):a=b:=by
 unfold Od at h;cases h1:FV a b with
 |true=>rw[h1]at h;simp at h
 |false =>
  cases h2:FV b a with
  |true=>rw[h1,h2]at h;simp at h
  |false=>exact JC h1 h2
theorem ju{a b:ByteArray}(h:Od a b<0):FV a b=true:=by
 unfold Od at h;cases h1:FV a b with
 |true=>rfl
 |false=>rw[h1]at h;cases h2:FV b a<;>rw[h2]at h<;>simp at h
def lM(a b:Ver):Prop:=a.a<b.a∨(a.a=b.a∧(a.b<b.b∨(a.b=b.b∧a.c<b.c)))
def cj(a b:Rl):Prop:=FV a.path b.path=true∨(a.path=b.path∧lM a.ver b.ver)
theorem jw{a b:Ver}(h:RY a b<0):lM a b:=by
 unfold RY at h;split at h
 ·exact .inl (VA h)
 ·rename_i h1;have h1:=Ko (BZ.1 h1);split at h
  ·exact .inr ⟨h1,.inl (VA h)⟩
  ·rename_i h2;exact .inr ⟨h1,.inr ⟨Ko (BZ.1 h2),VA h⟩⟩
theorem bp{a b:Ver}(h:RY a b=0):a=b:=by
 unfold RY at h;split at h
 ·rename_i h1;exact absurd h h1
 ·rename_i h1;have h1:=Ko (BZ.1 h1);split at h
  ·rename_i h2;exact absurd h h2
  ·rename_i h2;have h2:=Ko (BZ.1 h2);have h3:=Ko h;cases a;cases b;simp_all
theorem bo{a b:Rl}(h:RX a b=0):Gi a=Gi b:=by
 unfold RX at h;split at h
 ·rename_i h1;exact absurd h h1
 ·rename_i h1;have h1:=Uz (BZ.1 h1);have h2:=bp h;unfold Gi;rw[h1,h2]
theorem jv{a b:Rl}(h:RX a b<0):cj a b:=by
 unfold RX at h;split at h
 ·exact .inl (ju h)
 ·rename_i h1;exact .inr ⟨Uz (BZ.1 h1),jw h⟩
theorem cn{a b c:Ver}(h:lM a b)(k:lM b c):lM a c:=by unfold lM at *;omega
theorem cl{a b c:Rl}(h:cj a b)(k:cj b c):cj a c:=by
 rcases h with h | ⟨h1,h2⟩
 ·rcases k with k | ⟨k1,k2⟩
  ·exact .inl (EN h k)
  ·exact .inl (k1▸h)
 ·rcases k with k | ⟨k1,k2⟩
  ·exact .inl (h1▸k)
  ·exact .inr ⟨h1.trans k1,cn h2 k2⟩
theorem Ji{a b:Rl}(h:cj a b)(k:Gi a=Gi b):False:=by
 unfold Gi at k;simp only[Sl.mk.injEq]at k;rcases h with h | ⟨_,h⟩
 ·rw[k.1,DM]at h;cases h
 ·rw[k.2]at h;unfold lM at h;omega
-- a valid index
structure RI(r:Rl):Prop where
 maj:CI r.path=some r.ver.a
 val:CL r.ver=true
 reqs:BE r.reqs=0
theorem Yx{r:Rl}(h:DS r=0):RI r:=by
 unfold DS at h;split at h
 ·cases h
 ·rename_i m hm;split at h
  ·cases h
  ·rename_i h1;split at h
   ·rename_i h2;exact absurd h h2
   ·rename_i h2;simp only[CO,CN,JF,not_or,BZ]at h1;refine⟨by rw[hm,h1.2],by simpa using h1.1,BZ.1 h2⟩
theorem KU:∀{l:List Rl} {b:Option Rl},Eo b l=0→(∀r∈l,RI r)∧(l.Pairwise cj∧∀c,b=some c→∀r∈l,cj c r)
 | [],b,_=>⟨fun _ h=>(by cases h),.nil,fun _ _ _ h=>(by cases h)⟩
 |r::l,b,h=>by
  unfold Eo at h;split at h
  ·rename_i h1;exact absurd h h1
  ·rename_i h1;have hr:=Yx (BZ.1 h1);have go:Eo (some r) l=0→(∀c,b=some c→cj c r)→(∀z∈r::l,RI z)∧((r::l).Pairwise cj∧∀c,b=some c→∀z∈r::l,cj c z):=fun h hc=>by
    obtain⟨i1,i2,i3⟩:=KU h;refine⟨fun z hz=>?_,.cons (i3 r rfl) i2,fun c e z hz=>?_⟩
    ·rcases AF.1 hz with rfl | hz
     ·exact hr
     ·exact i1 z hz
    ·rcases AF.1 hz with rfl | hz
     ·exact hc c e
     ·exact cl (hc c e) (i3 r rfl z hz)
   cases b with
   |none=>exact go h fun _ e=>by cases e
   |some b =>
    dsimp only at h;split at h
    ·cases h
    ·rename_i hk;split at h
     ·cases h
     ·rename_i hc;refine go h fun c e=>?_;cases e;refine jv ?_
      have:RX b r≠0:=fun e=>hk (bo e)
      omega
theorem Cj{l:List Rl}(h:A6 l=0):(∀r∈l,RI r)∧l.Pairwise cj:=by
 unfold A6 at h;split at h
 ·cases h
 ·exact⟨(KU h).1,(KU h).2.1⟩
theorem SL{l:List Rl}(h:l.Pairwise cj){a b:Rl}(ha:a∈l)(hb:b∈l)(hk:Gi a=Gi b):a=b:=by
 induction h with
 |nil=>cases ha
 |cons h1 h2 ih =>
  rcases AF.1 ha with e1 | ha
  ·rcases AF.1 hb with e2 | hb
   ·exact e1.trans e2.symm
   ·exact(Ji (e1▸h1 b hb) hk).elim
  ·rcases AF.1 hb with e2 | hb
   ·exact(Ji (e2▸h1 a ha) hk.symm).elim
   ·exact ih ha hb
theorem Wj{a b:Ver}(ha:CL a=true)(hb:CL b=true)(h1:a.a=b.a)(h2:place a=place b):a=b:=by
 have:=He ha
 have:=He hb
 unfold place at h2;have e1:a.b=b.b:=by omega
 have e2:a.c=b.c:=by omega
 cases a;cases b;simp_all
theorem RI.plc{r:Rl}(h:RI r):plc r.ver=place r.ver:=by unfold Go.Eng.plc;rw[h.val];rfl
theorem az{l:List Rl}(h:(∀r∈l,RI r)∧l.Pairwise cj){a b:Rl}(ha:a∈l)(hb:b∈l)(h1:a.path=b.path)(h2:place a.ver=place b.ver):a=b:=by
 refine SL h.2 ha hb ?_
 have:=h.1 a ha
 have:=h.1 b hb
 have e:a.ver.a=b.ver.a:=by
  have e1:=(h.1 a ha).maj;rw[h1,(h.1 b hb).maj]at e1;exact(CC e1).symm
 unfold Gi;rw[h1,Wj (h.1 a ha).val (h.1 b hb).val e h2]
theorem Kt{x:List Rl}{y:Sl}{r:Rl}(h:Ej x y=some r):A6 x=0∧r∈x∧Gi r=y:=by
 unfold Ej at h;split at h
 ·cases h
 ·rename_i h1;refine⟨BZ.1 h1,B6 h,?_⟩
  have:=D7 h;simpa using this
structure lX(x:List Rl)(roots:List Rq)(s:List Sl):Prop where
 ix:A6 x=0
 inc:Et s=true
 fnd:∀y∈s,∃r,Ej x y=some r∧r.yanked=false
 root:∀q∈roots,∃y,BV s q.path=some y∧has q.set (place y.ver)=true
 req:∀y∈s,∀r,Ej x y=some r→∀q∈r.reqs,∃z,BV s q.path=some z∧has q.set (place z.ver)=true
theorem SI:∀{s:List Sl} {b:Option ByteArray},L8 b s=true→s.Pairwise (fun a b=>FV a.path b.path=true)∧∀c,b=some c→∀y∈s,FV c y.path=true
 | [],_,_=>⟨.nil,fun _ _ _ h=>by cases h⟩
 |y::r,b,h=>by
  unfold L8 at h;simp only[Af]at h;obtain⟨h1,h2⟩:=h;obtain⟨i1,i2⟩:=SI h2;refine⟨.cons (i2 _ rfl) i1,fun c e z hz=>?_⟩;subst e;rcases AF.1 hz with rfl | hz
  ·exact h1
  ·exact EN h1 (i2 _ rfl z hz)
theorem M5{s:List Sl}(h:s.Pairwise (fun a b=>FV a.path b.path=true)){y:Sl}(hy:y∈s):BV s y.path=some y:=by
 induction h with
 |nil=>cases hy
 |cons h1 h2 ih =>
  rename_i a l;unfold BV;rw[FG];rcases AF.1 hy with rfl | hy
  ·simp
  ·have:=Ys (h1 y hy)
   simp only[this,decide_false];exact ih hy
theorem WV{s:List Sl}(h:Et s=true){y:Sl}(hy:y∈s):BV s y.path=some y:=M5 (SI h).1 hy
theorem lX.valid{x:List Rl}{roots:List Rq}{s:List Sl}(h:lX x roots s):Gc s:=fun y hy=>by
 obtain⟨r,h1,_⟩:=h.fnd y hy;obtain⟨_,h2,h3⟩:=Kt h1
 have:=((Cj h.ix).1 r h2).val
 rw[←h3];exact this
-- soundness
theorem QI{q:Rq}{s:List Sl}(h:∃y,BV s q.path=some y∧has q.set (place y.ver)=true):Df (Dy q) (BV s q.path)=false:=by
 obtain⟨y,h1,h2⟩:=h;rw[h1];unfold Df Dy;dsimp only;rw[FJ,h2];simp
theorem gG{l:List Tm}{s:List Sl}(hs:Gc s)(hn:CJ l≠none)(hv:Bg l s=false):Bg (PF l) s=false:=by
 have:=CX (l:=l) hs
 unfold PF;cases h:CJ l with
 |none=>exact absurd h hn
 |some c=>rw[h,hv]at this;exact this.symm
theorem XL{l:List Tm}{s:List Sl}(hs:Gc s){o:List Tm}(h:Ro (PF l)=some o)(hv:Bg l s=false):Bg o s=false:=by
 unfold Ro at h;split at h
 ·cases h
 ·rename_i Dn;cases h;rw[PG hs (by intro e;rw[e]at Dn;exact Dn rfl)];exact hv
theorem Zo(q:Rq):CJ [Dy q]≠none:=by
 unfold CJ EV;simp only[List.foldl,Ny]
 have:HA (Lp (Dy q))=false:=by simp[HA,Lp,Dy]
 simp[this]
theorem OL{α:Type}{l:List α}{i:Int}{a:α}(h:Fr l i=some a):a∈l:=by
 unfold Fr at h;split at h
 ·cases h
 ·exact Av h
theorem VX{x:List Rl}{roots:List Rq}{s:List Sl}(hs:lX x roots s){d:List (List Tm)}(hd:∀t∈d,Bg t s=false){i:Nf}{o:List Tm}(h:BO x roots d i=some o):Bg o s=false:=by
 have hv:=hs.valid;unfold BO at h;split at h
 ·split at h
  ·rw[AW]at h;obtain⟨q,hq,rfl⟩:=h;refine gG hv (Zo q) ?_;rw[AL];intro hw
   have:=BG.1 hw _ (Ai.2 rfl)
   rw[show(Dy q).path=q.path from rfl,QI (hs.root q (OL hq))]at this;cases this
  ·cases h
 ·split at h
  ·split at h
   ·split at h
    ·cases h
    ·rename_i r hr;split at h
     ·cases h
     ·rename_i q hq;refine XL hv h ?_;rw[AL];intro hw;have h1:=BG.1 hw _ (Ab ..);have h2:=BG.1 hw (Dy q) (by simp);rw[show(Dy q).path=q.path from rfl]at h2;dsimp only at h1;cases hf:BV s i.path with
      |none=>rw[hf]at h1;simp[Df]at h1
      |some y =>
       rw[hf]at h1;unfold Df at h1;simp only[Af]at h1;have hp:place y.ver=i.place:=by
        have:=h1.2
        simp only[has,Cf,List.any_nil,QP,Af,BN,Az]at this;omega
       have hy:=HU hf;have qQ:=JG hf;obtain⟨r',e1,e2⟩:=hs.fnd y hy;obtain⟨_,m1,k1⟩:=Kt e1;have Xn:r∈x:=B6 hr;have oE:=D7 hr;simp only[Af,Az]at oE;have F3:=Cj hs.ix
       have:r'=r:=by
        refine az F3 m1 Xn ?_ ?_
        ·rw[oE.1,←qQ,←k1];rfl
        ·rw[←(F3.1 r Xn).plc,oE.2,←hp,←k1];rfl
       subst this
       have:=hs.req y hy r' e1 q (OL hq)
       rw[QI this]at h2;cases h2
   ·cases h
  ·split at h
   ·split at h
    ·refine XL hv h ?_;rw[AL];intro hw;have h1:=BG.1 hw _ (Ai.2 rfl);dsimp only at h1;cases hf:BV s i.path with
     |none=>rw[hf]at h1;simp[Df]at h1
     |some y =>
      rw[hf]at h1;unfold Df at h1;simp only[Af]at h1;have hy:=HU hf;have qQ:=JG hf;obtain⟨r,e1,e2⟩:=hs.fnd y hy;obtain⟨_,m1,k1⟩:=Kt e1;have F3:=Cj hs.ix;have h1:=h1.2;rw[FJ]at h1;have dx:=Jl (hv y hy)
      have:has (BM x i.path) (place y.ver)=true:=by
       unfold BM;rw[G9];unfold has;simp only[dx,decide_true,Ev,Bf,Ao,BA];refine⟨(plc r.ver,plc r.ver+1),⟨r,⟨?_,by simp[e2]⟩,rfl⟩,?_⟩
       ·unfold J6;simp only[hs.ix,UU,not_true,FL,BA,m1,true_and,Az];rw[←qQ,←k1];rfl
       ·rw[(F3.1 r m1).plc,←k1];rw[DC];exact⟨BP _,by show place r.ver<place r.ver+1;omega⟩
      rw[this]at h1;simp at h1
    ·cases h
   ·split at h
    ·split at h
     ·split at h
      ·rename_i a b ha hb;split at h
       ·rename_i h0;cases h;rw[AL];intro hw;rcases Tr hv (o:=(A7 a b i.path).1) (Prod.ext rfl h0) hw with hw | hw
        ·rw[hd a (OL ha)]at hw;cases hw
        ·rw[hd b (OL hb)]at hw;cases hw
       ·cases h
      ·cases h
     ·cases h
    ·cases h
theorem Ja{x:List Rl}{roots:List Rq}{s:List Sl}(hs:lX x roots s):∀{l:List Nf} {d d' : List (List Tm)},(∀t∈d,Bg t s=false)→B8 x roots l d=some d'→∀t∈d',Bg t s=false
 | [],d,d',hd,h=>by cases h;exact hd
 |i::l,d,d',hd,h=>by
  unfold B8 at h;split at h
  ·cases h
  ·rename_i o ho;refine Ja hs (fun t ht=>?_) h;rcases A2.1 ht with ht | ht
   ·exact hd t ht
   ·rw[Ai.1 ht];exact VX hs hd ho
end Go.Eng

namespace Go.Eng
theorem GV{α:Type}[DecidableEq α]:∀{l m:List α},l.Nodup→(∀x∈l,x∈m)→l.length≤m.length
 | [],_,_,_=>AS _
 |a::l,m,hn,hs=>by
  rw[CQ]at hn;have ha:a∈m:=hs a (Ab ..)
  have:=GV (l:=l) (m:=m.erase a) hn.2 fun x hx=>by
   have:x≠a:=fun e=>hn.1 (e▸hx)
   exact(List.mem_erase_of_ne this).2 (hs x (Ag _ hx))
  rw[List.length_erase_of_mem ha]at this
  have:=List.length_pos_of_mem ha
  simp only[Al];omega
abbrev Vm(s:List Sl):Prop:=s.Pairwise (fun a b=>FV a.path b.path=true)
-- the next path
theorem JQ(before:List Sl):∀{l:List Rq} {acc:Option ByteArray},(∀p,acc=some p→Co before p=false) →
  (∀p,CG before l acc=some p→Co before p=false∧(acc=some p∨∃q∈l,q.path=p))∧(CG before l acc=none→acc=none∧∀q∈l,Co before q.path=true)
 | [],acc,ha=>⟨fun p h=>⟨ha p h,.inl h⟩,fun h=>⟨h,fun _ h=>(by cases h)⟩⟩
 |q::l,acc,ha=>by
  unfold CG
  have key:∀aS,(∀p,aS=some p→Co before p=false)→(∀p,aS=some p→acc=some p∨q.path=p)→(aS=none→acc=none∧Co before q.path=true) →
    (∀p,CG before l aS=some p→Co before p=false∧(acc=some p∨∃q'∈q::l,q'.path=p))∧(CG before l aS=none→acc=none∧∀q'∈q::l,Co before q'.path=true):=by
   intro aS h1 h2 h3;obtain⟨i1,i2⟩:=JQ before (l:=l) h1;refine⟨fun p h=>?_,fun h=>?_⟩
   ·obtain⟨j1,j2⟩:=i1 p h;refine⟨j1,?_⟩;rcases j2 with j2 | ⟨q',j3,j4⟩
    ·rcases h2 p j2 with h2 | h2
     ·exact .inl h2
     ·exact .inr ⟨q,Ab ..,h2⟩
    ·exact .inr ⟨q',Ag _ j3,j4⟩
   ·obtain⟨j1,j2⟩:=i2 h;obtain⟨k1,k2⟩:=h3 j1;refine⟨k1,fun q' hq=>?_⟩;rcases AF.1 hq with rfl | hq
    ·exact k2
    ·exact j2 q' hq
  cases hb:Co before q.path with
  |true=>simp only[LI];exact key acc ha (fun p h=>.inl h) fun h=>⟨h,hb⟩
  |false =>
   simp only[CT,FL];cases acc with
   |none=>exact key _ (fun p h=>by cases h;exact hb) (fun p h=>by cases h;exact .inr rfl) fun h=>by cases h
   |some p0 =>
    dsimp only;split
    ·exact key _ (fun p h=>by cases h;exact hb) (fun p h=>by cases h;exact .inr rfl) fun h=>by cases h
    ·exact key _ (fun p h=>by cases h;exact ha _ rfl) (fun p h=>by cases h;exact .inl rfl) fun h=>by cases h
theorem NJ{needs:List Rq}{before:List Sl}{p:ByteArray}(h:Gt needs before=some p):Co before p=false∧∃q∈needs,q.path=p:=by
 obtain⟨h1,h2⟩:=(JQ before (l:=needs) (acc:=none) fun _ e=>by cases e).1 p h;rcases h2 with h2 | h2
 ·cases h2
 ·exact⟨h1,h2⟩
theorem Y8{needs:List Rq}{before:List Sl}(h:Gt needs before=none):∀q∈needs,Co before q.path=true :=
 ((JQ before (l:=needs) (acc:=none) fun _ e=>by cases e).2 h).2
theorem Sy(a b:List Sl)(p:ByteArray):Co (a++b) p=(Co a p||Co b p):=by unfold Co;rw[Gj]
theorem K5{s:List Sl}{p:ByteArray}:Co s p=true↔∃y∈s,y.path=p:=by unfold Co;simp
theorem Gq{s:List Sl}{p:ByteArray}:Co s p=true↔p∈s.map (·.path):=by rw[K5,Ao]
-- what is needed
-- skips
theorem VC{t:List Tm}{b s:List Sl}(hs:Et s=true)(hb:∀y∈b,y∈s)(h:Cr t b=true):Bg t s=true:=by
 unfold Cr at h;simp only[Af,CN,Fy]at h;obtain⟨h1,h2⟩:=h;rw[BG]at h1⊢;intro u hu
 have:=h2 u hu
 simp only[Bool.not_eq_false]at this;rw[JJ]at this;cases hf:BV b u.path with
 |none=>rw[hf]at this;cases this
 |some y =>
  have h3:=h1 u hu;rw[hf]at h3
  have:=WV hs (hb y (HU hf))
  rw[JG hf]at this;rw[this];exact h3
end Go.Eng

namespace Go.Eng
-- right answers
-- the first decision that differs
-- prefixes
theorem IQ{x:List Rl}{roots:List Rq}:∀{l:List Nf} {d d' : List (List Tm)},B8 x roots l d=some d'→d'.length=d.length+l.length
 | [],d,d',h=>by cases h;rfl
 |i::l,d,d',h=>by
  unfold B8 at h;split at h
  ·cases h
  ·have:=IQ h
   simp only[Ac,Al,Ar]at this⊢;omega
theorem E9{x:List Rl}{roots:List Rq}:∀(l m:List Nf) (d:List (List Tm)),B8 x roots (l++m) d=match B8 x roots l d with | none=>none | some d'=>B8 x roots m d'
 | [],_,_=>rfl
 |i::l,m,d=>by
  show(match BO x roots d i with | none=>none | some t=>B8 x roots (l++m) (d++[t]))=(match(match BO x roots d i with | none=>none | some t=>B8 x roots l (d++[t]))with | none=>none | some d'=>B8 x roots m d');cases BO x roots d i with
  |none=>rfl
  |some t=>exact E9 l m _
theorem Lq{x:List Rl}{roots:List Rq}:∀{l:List Nf} {d d' : List (List Tm)},B8 x roots l d=some d'→d <+: d'
 | [],d,d',h=>by cases h;exact List.prefix_refl _
 |i::l,d,d',h=>by
  unfold B8 at h;split at h
  ·cases h
  ·exact(N0 _ _).trans (Lq h)
theorem M1{x:List Rl}{roots:List Rq}{l:List Nf}{d:List (List Tm)}(h:B8 x roots l []=some d)(k:Nat):B8 x roots (l.take k) []=some (d.take k):=by
 rw[←EQ k l,E9]at h;cases e:B8 x roots (l.take k) []with
 |none=>rw[e]at h;cases h
 |some f =>
  rw[e]at h;dsimp only at h;have h1:=IQ e;have h2:=IQ h;have h3:=Lq h
  congr 1
  simp only[Ar,AN,Da]at h1 h2;obtain⟨z,rfl⟩:=h3
  by_cases hk:k≤l.length
  ·rw[Fe (by omega),AI (by omega)]
  ·rw[Ac]at h2
   have:z=[]:=AJ (by omega)
   subst this;rw[CP,AI (by omega)]
def KP(l:List Tm):Prop:=CJ l=some l
theorem cW{l:List Tm}:∀(l2:List Tm),Ce none (l2++l)→l.foldl (fun acc t=>Ny t acc) l2=l2++l:=by
 induction l with
 |nil=>intro l2 _;simp
 |cons t r ih =>
  intro l2 h;have hi:Ny t l2=l2++[t]:=by
   have:∀(m:List Tm) (lo:Option ByteArray),Ce lo (m++t::r)→Ny t m=m++[t]:=by
    intro m
    induction m with
    |nil =>
     intro lo hm;have hc:Ey t.set:=hm.2.1;unfold Ny;rw[show Lp t=t from n6 rfl rfl (I9 hc)];rfl
    |cons u m ihm =>
     intro lo hm;have hm:Ce lo (u::(m++t::r)):=hm;have Dt:=Ce.low hm.2.2 t (by simp);unfold Ny;rw[Aw Dt,ihm _ hm.2.2];rfl
   exact this l2 none h
  rw[EI,hi]
  have:=ih (l2++[t]) (by rw[BU];exact h)
  rw[this,BU];rfl
theorem PA{l:List Tm}(h:Ce none l):EV l=l:=by
 have:=cW (l:=l) [] h
 simpa[EV]using this
theorem Qk{l c:List Tm}(h:CJ l=some c):KP c:=by
 have hs:=EJ h;unfold KP;unfold CJ at h⊢;rw[PA hs];split at h
 ·cases h
 ·rename_i hn;cases h;rw[Am]
  ·congr 1
   rw[List.filter_filter];simp
  ·rw[Bool.not_eq_true,Fy]at hn⊢;intro t ht;exact hn t (BA.1 ht).1
theorem Oq:KP []:=rfl
theorem Mf(l:List Tm):KP (PF l):=by
 unfold PF;cases h:CJ l with
 |none=>exact Oq
 |some c=>exact Qk h
theorem Nh(a b:List Tm)(p:ByteArray):KP (A7 a b p).1:=by
 unfold A7;split
 ·split
  ·rename_i h;exact Qk h
  ·exact Oq
 ·exact Oq
theorem XK{l o:List Tm}(h:Ro l=some o):o=l:=by unfold Ro at h;split at h<;>cases h;rfl
theorem Xr{x:List Rl}{roots:List Rq}{d:List (List Tm)}{i:Nf}{o:List Tm}(h:BO x roots d i=some o):KP o:=by
 unfold BO at h;split at h
 ·split at h
  ·rw[AW]at h;obtain⟨q,_,rfl⟩:=h;exact Mf _
  ·cases h
 ·split at h
  ·split at h
   ·split at h
    ·cases h
    ·split at h
     ·cases h
     ·rw[XK h];exact Mf _
   ·cases h
  ·split at h
   ·split at h
    ·rw[XK h];exact Mf _
    ·cases h
   ·split at h
    ·split at h
     ·split at h
      ·split at h
       ·cases h;exact Nh _ _ _
       ·cases h
      ·cases h
     ·cases h
    ·cases h
theorem M0{x:List Rl}{roots:List Rq}:∀{l:List Nf} {d d' : List (List Tm)},(∀t∈d,KP t)→B8 x roots l d=some d'→∀t∈d',KP t
 | [],d,d',hd,h=>by cases h;exact hd
 |i::l,d,d',hd,h=>by
  unfold B8 at h;split at h
  ·cases h
  ·rename_i o ho;refine M0 (fun t ht=>?_) h;rcases A2.1 ht with ht | ht
   ·exact hd t ht
   ·rw[Ai.1 ht];exact Xr ho
-- tampering
end Go.Eng
