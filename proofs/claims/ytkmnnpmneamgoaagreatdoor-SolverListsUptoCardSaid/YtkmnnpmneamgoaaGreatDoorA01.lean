/- Lemmas for the claims of this seat, without a condition: part 1 (P1, P2, P3, P4, P5, P6, P7). -/
import Derived.Test.YtkmnnpmneamgoaaGreatDoorA00
namespace Go.Eng
def BR(p:Int)(s:Int×Int):Bool:=decide (s.1≤p)&&decide (p<s.2)
def has(s:List (Int×Int))(p:Int):Bool:=decide (0≤p)&&decide (p<1000000)&&s.any (BR p)
abbrev A9:=List (Int×Int)
def ER(lo:Int):A9→Prop
 | []=>True
 |y::r=>lo≤y.1∧y.1<y.2∧y.2≤1000000∧ER (y.2+1) r
abbrev EJ(l:A9):Prop:=ER 0 l
def VS(x:Int×Int):A9→A9
 | []=>[x]
 |y::r=>if x.2<y.1 then x::y::r else if y.2<x.1 then y::VS x r else VS (min x.1 y.1,max x.2 y.2) r
def D6(x:Int×Int):Int×Int:=(max x.1 0,min x.2 1000000)
def canon:A9→A9
 | []=>[]
 |x::r=>if(D6 x).1<(D6 x).2 then VS (D6 x) (canon r)else canon r
def La(at_:Int):A9→A9
 | []=>if at_<1000000 then [(at_,1000000)]else []
 |y::r=>if at_<y.1 then(at_,y.1)::La y.2 r else La y.2 r
def En(s:A9):A9:=La 0 (canon s)
def Qq(l:List A9):A9:=canon l.flatten
def PO(l:List A9):A9:=En (l.map En).flatten
def Ph(a b:A9):A9:=Qq [a,b]
def OQ(a b:A9):A9:=PO [a,b]

theorem ER.mono{lo HG : Int}:∀{l:A9},ER lo l→HG≤lo→ER HG l
 | [],_,_=>trivial
 |_::_,⟨h1,h2,h3,h4⟩,h=>⟨Int.le_trans h h1,h2,h3,h4⟩
theorem ER.low{lo:Int}:∀{l:A9},ER lo l→∀y∈l,lo≤y.1∧y.1<y.2∧y.2≤1000000
 |y::r,⟨h1,h2,h3,h4⟩,z,hz=>by
  rcases AF.1 hz with rfl | hz
  ·exact⟨h1,h2,h3⟩
  ·have:=h4.low z hz
   exact⟨by omega,this.2.1,this.2.2⟩
theorem DJ{p:Int}{s:Int×Int}:BR p s=true↔s.1≤p∧p<s.2:=by simp[BR]
theorem MA{lo:Int}{l:A9}(h:ER lo l){p:Int}(hp:l.any (BR p)=true):lo≤p:=by
 obtain⟨y,hy,h2⟩:=A3.1 hp
 have:=h.low y hy
 have:=DJ.1 h2
 omega
theorem eG{lo:Int}{l:A9}(h:ER lo l){p:Int}(hp:l.any (BR p)=true):p<1000000:=by
 obtain⟨y,hy,h2⟩:=A3.1 hp
 have:=h.low y hy
 have:=DJ.1 h2
 omega
theorem NA:∀(l:A9) {lo:Int} {x:Int×Int},ER lo l→lo≤x.1→x.1<x.2→x.2≤1000000→ER lo (VS x l)
 | [],lo,x,_,h1,h2,h3=>⟨h1,h2,h3,trivial⟩
 |y::r,lo,x,⟨g1,g2,g3,g4⟩,h1,h2,h3=>by
  unfold VS;split
  ·exact⟨h1,h2,h3,by omega,g2,g3,g4⟩
  ·split
   ·exact⟨g1,g2,g3,NA r g4 (by omega) h2 h3⟩
   ·refine NA r (g4.mono (by omega)) ?_ ?_ ?_<;>dsimp only<;>omega
theorem Oi:∀(l:A9) {lo:Int} {x:Int×Int} (p:Int),ER lo l→x.1<x.2→(VS x l).any (BR p)=(BR p x||l.any (BR p))
 | [],lo,x,p,_,_=>by simp[VS]
 |y::r,lo,x,p,⟨g1,g2,g3,g4⟩,h2=>by
  unfold VS;split
  ·simp
  ·split
   ·rw[BW,Oi r p g4 h2,BW,←Bool.or_assoc,←Bool.or_assoc,Bool.or_comm (BR p y)]
   ·rw[Oi r p g4 (by dsimp only;omega),BW,←Bool.or_assoc]
    congr 1
    simp only[BR];rw[B2];simp only[Ag,CQ,AE];omega
theorem Cq:∀s:A9,EJ (canon s)
 | []=>trivial
 |x::r=>by
  unfold canon;split
  ·rename_i h;refine NA _ (Cq r) ?_ h ?_<;>simp only[D6]<;>omega
  ·exact Cq r
theorem Ky:∀(s:A9) (p:Int),(canon s).any (BR p)=has s p
 | [],p=>by simp[has,canon]
 |x::r,p=>by
  have ih:=Ky r p;unfold canon;have hx:BR p (D6 x)=(decide (0≤p)&&decide (p<1000000)&&BR p x):=by
   simp only[BR,D6];rw[B2];simp only[Ag,AE,Int.max_le,Int.lt_min];omega
  split
  ·rename_i h;rw[Oi _ p (Cq r) h,ih,hx];simp only[has,BW];cases decide (0≤p)<;>cases decide (p<1000000)<;>simp
  ·rename_i h;rw[ih];simp only[has,BW]
   have:BR p (D6 x)=false:=by
    rw[AH];intro h3
    have:=DJ.1 h3
    omega
   rw[this]at hx;cases h1:decide (0≤p)<;>cases h2:decide (p<1000000)<;>simp_all
theorem HD{l:A9}(h:EJ l)(p:Int):has l p=l.any (BR p):=by
 unfold has;cases e:l.any (BR p)with
 |false=>simp
 |true=>have h1:0≤p:=MA h e;have h2:=eG h e;simp[h1,h2]
theorem Hh(s:A9)(p:Int):has (canon s) p=has s p:=by
 rw[HD (Cq s),Ky]
theorem Nb:∀{a b:A9} {lo:Int},ER lo a→ER lo b→(∀p,a.any (BR p)=b.any (BR p))→a=b
 | [],[],_,_,_,_=>rfl
 | [],z::s,_,_,⟨g1,g2,g3,g4⟩,h=>by
  have:=h z.1
  rw[BW,DJ.2 ⟨BQ _,g2⟩]at this;simp at this
 |y::r,[],_,⟨g1,g2,g3,g4⟩,_,h=>by
  have:=h y.1
  rw[BW,DJ.2 ⟨BQ _,g2⟩]at this;simp at this
 |y::r,z::s,lo,⟨f1,f2,f3,f4⟩,⟨g1,g2,g3,g4⟩,h=>by
  have below:∀{x:Int×Int} {t:A9} {p:Int},ER (x.2+1) t→(x::t).any (BR p)=true→p≤x.2→x.1≤p∧p<x.2:=fun {x t p} ht hp Hs=>by
   rw[BW,CQ]at hp;rcases hp with hp | hp
   ·exact DJ.1 hp
   ·have:=MA ht hp;omega
  have low:∀{x:Int×Int} {t:A9} {p:Int},x.1<x.2→ER (x.2+1) t→(x::t).any (BR p)=true→x.1≤p:=fun {x t p} hx ht hp=>by
   rw[BW,CQ]at hp;rcases hp with hp | hp
   ·exact(DJ.1 hp).1
   ·have:=MA ht hp;omega
  have cov:∀{x:Int×Int} {t:A9} {p:Int},x.1≤p→p<x.2→(x::t).any (BR p)=true:=fun {x t p} h1 h2=>by
   rw[BW,DJ.2 ⟨h1,h2⟩,Bool.true_or]
  have e1:y.1=z.1:=by
   have a1:=low f2 f4 ((h z.1).trans (cov (BQ _) g2));have a2:=low g2 g4 ((h y.1).symm.trans (cov (BQ _) f2));omega
  have e2:y.2=z.2:=by
   rcases Int.lt_trichotomy y.2 z.2 with hl | he | hl
   ·have:=below f4 ((h y.2).trans (cov (by omega) hl)) (BQ _);omega
   ·exact he
   ·have:=below g4 ((h z.2).symm.trans (cov (by omega) hl)) (BQ _);omega
  have e:y=z:=Prod.ext e1 e2;subst e
  congr 1
  refine Nb f4 g4 fun p=>?_;have hp:=h p;simp only[BW]at hp;cases hs:BR p y with
  |false=>rw[hs,Jl,Jl]at hp;exact hp
  |true =>
   have:=DJ.1 hs
   have n:∀{t:A9},ER (y.2+1) t→t.any (BR p)=false:=fun {t} ht=>by
    rw[AH];intro hx;have:=MA ht hx;omega
   rw[n f4,n g4]
theorem Hx{a b:A9}(ha:EJ a)(hb:EJ b)(h:∀p,has a p=has b p):a=b :=
 Nb ha hb fun p=>by rw[←HD ha,←HD hb,h]
theorem Si{a s:A9}(ha:EJ a)(h:∀p,has a p=has s p):a=canon s :=
 Hx ha (Cq s) fun p=>by rw[h,Hh]
theorem Jn{a:A9}(ha:EJ a):canon a=a:=(Si ha fun _=>rfl).symm
theorem Mh{s:A9}{p:Int}(h:has s p=true):0≤p∧p<1000000:=by
 unfold has at h;simp only[Ag,AE]at h;exact h.1
def LT(p:Int):Bool:=decide (0≤p)&&decide (p<1000000)
theorem Lb:∀(l:A9) {at_ lo:Int},0≤at_→ER lo l→lo≤at_+1→at_≤lo→ER at_ (La at_ l)∧∀p,(La at_ l).any (BR p)=(decide (at_≤p)&&decide (p<1000000)&&!l.any (BR p))
 | [],at_,lo,h0,_,h1,h2=>by
  unfold La;split
  ·exact⟨⟨BQ _,by dsimp only;omega,BQ _,trivial⟩,fun p=>by simp[BR]⟩
  ·refine⟨trivial,fun p=>?_⟩
   have:(decide (at_≤p)&&decide (p<1000000))=false:=by
    rw[AH];simp only[Vf,Ag,AE];omega
   simp[this]
 |y::r,at_,lo,h0,⟨g1,g2,g3,g4⟩,h1,h2=>by
  have ih:=Lb r (at_:=y.2) (by omega) g4 (BQ _) (by omega);have key:∀p,(decide (at_≤p)&&decide (p<y.1)||(La y.2 r).any (BR p))=(decide (at_≤p)&&decide (p<1000000)&&!(y::r).any (BR p)):=fun p=>by
   rw[ih.2,BW];cases hr:r.any (BR p)with
   |true =>
    have:=MA g4 hr
    have a:decide (p<y.1)=false:=At (by omega);simp[a]
   |false =>
    rw[B2];simp only[BR,Ag,CQ,AE,CX,Bool.or_false,Bool.and_eq_false_iff,JQ,Bool.not_false,RY];omega
  unfold La;split
  ·rename_i h;refine⟨⟨BQ _,h,by dsimp only;omega,ih.1 |> fun c=>?_⟩,fun p=>?_⟩
   ·dsimp only;cases e:La y.2 r with
    |nil=>trivial
    |cons z s =>
     rw[e]at c;exact⟨by have:=c.1;omega,c.2⟩
   ·rw[BW,←key];rfl
  ·rename_i h;refine⟨ih.1.mono (by omega),fun p=>?_⟩;rw[←key]
   have:(decide (at_≤p)&&decide (p<y.1))=false:=by
    rw[AH];simp only[Vf,Ag,AE];omega
   rw[this,Jl]
theorem Hf(s:A9):EJ (En s):=by
 unfold En;exact(Lb _ (BQ _) (Cq s) (by omega) (BQ _)).1
theorem FN(s:A9)(p:Int):has (En s) p=(LT p&&!has s p):=by
 rw[HD (Hf s)];unfold En;rw[(Lb _ (BQ _) (Cq s) (by omega) (BQ _)).2,Ky];rfl
theorem Zg(a b:A9)(p:Int):has (a++b) p=(has a p||has b p):=by
 simp only[has,Hu];cases decide (0≤p)<;>cases decide (p<1000000)<;>simp
theorem Mg:∀(l:List A9) (p:Int),has l.flatten p=l.any fun s=>has s p
 | [],p=>by simp[has]
 |s::l,p=>by rw[Bq,Zg,Mg l p,BW]
theorem SO(l:List A9)(p:Int):has (Qq l) p=l.any fun s=>has s p:=by
 unfold Qq;rw[Hh,Mg]
theorem WI(l:List A9):EJ (Qq l):=Cq _
theorem Wp(l:List A9):EJ (PO l):=Hf _
theorem SN(l:List A9)(p:Int):has (PO l) p=(LT p&&l.all fun s=>has s p):=by
 unfold PO;rw[FN,Mg,List.any_map];cases h:LT p with
 |false=>rfl
 |true =>
  rw[Ef,Ef,List.not_any_eq_all_not]
  congr 1
  funext s
  simp[FN,h]
theorem Yz(a b:A9):EJ (Ph a b):=Cq _
theorem QQ(a b:A9):EJ (OQ a b):=Hf _
theorem cg(a b:A9)(p:Int):has (Ph a b) p=(has a p||has b p):=by
 unfold Ph;rw[SO];simp
theorem UZ(a b:A9)(p:Int):has (OQ a b) p=(has a p&&has b p):=by
 unfold OQ;rw[SN];simp only[List.all_cons,List.all_nil,Bool.and_true];cases h:has a p with
 |false=>simp
 |true=>have:=Mh h;simp[LT,this]
theorem Zt(s:A9):OQ s s=canon s:=Hx (QQ _ _) (Cq _) fun p=>by rw[UZ,Hh,Bool.and_self]
theorem Ud{s:A9}:canon s=[]↔∀p,has s p=false:=by
 constructor
 ·intro h p;rw[←Hh,h];simp[has]
 ·intro h;exact Hx (Cq s) (b:=[]) trivial fun p=>by rw[Hh,h p];simp[has]
theorem PY{s:A9}(hs:EJ s):s=[]↔∀p,has s p=false:=by
 rw[←Ud,Jn hs]
def dV(l:List A9)(p:Int):Nat:=l.countP fun s=>has s p
theorem Sh:∀{l:A9} {lo:Int},ER lo l→lo≤1000000→(l.length:Int)≤1000000-lo
 | [],lo,_,h=>by simp;omega
 |y::r,lo,⟨g1,g2,g3,g4⟩,h=>by
  by_cases h3:y.2+1≤1000000
  ·have:=Sh g4 h3
   simp only[Ak];omega
  ·cases r with
   |nil=>simp;omega
   |cons z s=>have:=g4.1;have:=g4.2.1;have:=g4.2.2.1;omega
theorem H8{l:A9}(h:EJ l):l.length≤1000000:=by have:=Sh h (by omega);omega
end Go.Eng

namespace Go.Eng
structure Ver where
 (a b c:Int)
structure Rq where
 path:ByteArray
 set:List (Int×Int)
structure Rl where
 path:ByteArray
 ver:Ver
 reqs:List Rq
 (arch ifc cert:ByteArray)
 yanked:Bool
structure Sl where
 path:ByteArray
 ver:Ver
structure Tm where
 path:ByteArray
 absent:Bool
 set:List (Int×Int)
structure Nf where
 kind:Int
 path:ByteArray
 (place number left right:Int)
structure Sk where
 path:ByteArray
 (place inf:Int)
structure An where
 found:Bool
 sel:List Sl
 infs:List Nf
 skips:List Sk
instance:DecidableEq Ver:=fun x y=>decidable_of_iff (x.a=y.a∧x.b=y.b∧x.c=y.c) ⟨fun⟨h1,h2,h3⟩=>by cases x;cases y;simp_all,fun h=>by subst h;exact⟨rfl,rfl,rfl⟩⟩
instance:DecidableEq Sl:=fun x y=>decidable_of_iff (x.path=y.path∧x.ver=y.ver) ⟨fun⟨h1,h2⟩=>by cases x;cases y;simp_all,fun h=>by subst h;exact⟨rfl,rfl⟩⟩
theorem o8{x y:Tm}(h1:x.path=y.path)(h2:x.absent=y.absent)(h3:x.set=y.set):x=y:=by cases x;cases y;simp_all
def okPart(n:Int):Prop:=0≤n∧n≤999
instance (n:Int):Decidable (okPart n):=by unfold okPart;infer_instance
def CH(v:Ver):Bool:=decide (okPart v.a)&&decide (okPart v.b)&&decide (okPart v.c)
def place(v:Ver):Int:=1000*v.b+v.c
def plc(v:Ver):Int:=if CH v then place v else 0
def o6:Sl:=⟨⟨#[]⟩,⟨0,0,0⟩⟩
def BC(s:List Sl)(p:ByteArray):Option Sl:=s.find? fun x=>decide (x.path=p)
def GP(t:Tm)(s:List Sl):Bool :=
 match s.find? (fun x=>decide (x.path=t.path))with
 |none=>t.absent
 |some x=>CH x.ver&&has t.set (place x.ver)
def Cv(s:List Sl)(p:ByteArray):Bool:=s.any fun x=>decide (x.path=p)
def Bi(l:List Tm)(s:List Sl):Bool:=l.all fun t=>GP t s
def Cz(l:List Tm)(s:List Sl):Bool:=Bi l s&&!l.any fun t=>!Cv s t.path

def Kf:List UInt8→List UInt8→Bool
 | [],[]=>false
 | [],_::_=>true
 |_::_,[]=>false
 |a::x,b::y=>decide (a<b)||(decide (a=b)&&Kf x y)
def EH(a b:ByteArray):Bool:=Kf a.data.toList b.data.toList
theorem QS:∀x,Kf x x=false
 | []=>rfl
 |a::x=>by
  unfold Kf;simp[QS x]
theorem Tl:∀{x y z},Kf x y=true→Kf y z=true→Kf x z=true
 | [],[],_,h,_=>by simp[Kf]at h
 | [],_::_,[],_,h=>by simp[Kf]at h
 | [],_::_,_::_,_,_=>rfl
 |_::_,[],_,h,_=>by simp[Kf]at h
 |_::_,_::_,[],_,h=>by simp[Kf]at h
 |a::x,b::y,c::z,h1,h2=>by
  unfold Kf at *
  simp only[CQ,Ag,AE]at *
  rcases h1 with h1 | ⟨rfl,h1⟩
  ·rcases h2 with h2 | ⟨rfl,h2⟩
   ·exact .inl (UInt8.lt_trans h1 h2)
   ·exact .inl h1
  ·rcases h2 with h2 | ⟨rfl,h2⟩
   ·exact .inl h2
   ·exact .inr ⟨rfl,Tl h1 h2⟩
theorem X2:∀{x y},Kf x y=false→Kf y x=false→x=y
 | [],[],_,_=>rfl
 | [],_::_,h,_=>by simp[Kf]at h
 |_::_,[],_,h=>by simp[Kf]at h
 |a::x,b::y,h1,h2=>by
  unfold Kf at *
  simp only[Bool.or_eq_false_iff,Bool.and_eq_false_iff,JQ]at *
  have e:a=b:=by
   have l1:=UInt8.not_lt.1 h1.1;have l2:=UInt8.not_lt.1 h2.1;exact UInt8.le_antisymm l2 l1
  subst e
  have:=X2 (x:=x) (y:=y) (by simpa using h1.2) (by simpa using h2.2)
  rw[this]
theorem t8{a b:ByteArray}(h:a.data.toList=b.data.toList):a=b:=by
 cases a;cases b;simp only[ByteArray.mk.injEq];exact LK.1 h
theorem DR(a:ByteArray):EH a a=false:=QS _
theorem Ej{a b c:ByteArray}(h:EH a b=true)(k:EH b c=true):EH a c=true:=Tl h k
theorem IV{a b:ByteArray}(h:EH a b=false)(k:EH b a=false):a=b:=t8 (X2 h k)
theorem YW{a b:ByteArray}(h:EH a b=true):a≠b:=fun e=>by subst e;rw[DR]at h;cases h
theorem Pv{a b:ByteArray}(h:EH a b=true):EH b a=false:=by
 rw[AH];intro k;have:=Ej h k;rw[DR]at this;cases this

def LC(t:Tm):Tm:=⟨t.path,t.absent,canon t.set⟩
def GZ(u t:Tm):Tm:=⟨u.path,u.absent&&t.absent,OQ u.set t.set⟩
def NN(t:Tm):List Tm→List Tm
 | []=>[LC t]
 |u::r=>if EH u.path t.path then u::NN t r else if u.path=t.path then GZ u t::r else LC t::u::r
def E3(l:List Tm):List Tm:=l.foldl (fun acc t=>NN t acc) []
def HI(t:Tm):Bool:=!t.absent&&t.set.isEmpty
def GH(t:Tm):Bool:=t.absent&&decide (t.set=[(0,1000000)])
def CV(l:List Tm):Option (List Tm):=if(E3 l).any HI then none else some ((E3 l).filter fun t=>!GH t)
def PZ(l:List Tm):List Tm:=(CV l).getD []
def DG(q:Rq):Tm:=⟨q.path,true,En q.set⟩
def JC(q:Rq):List Tm:=PZ [DG q]
def El(path:ByteArray)(pl:Int)(q:Rq):List Tm:=PZ [⟨path,false,[(pl,pl+1)]⟩,DG q]
def H1(path:ByteArray)(qa:A9):List Tm:=PZ [⟨path,false,En qa⟩]
def Du(l:List Tm)(p:ByteArray):Option Tm:=l.find? fun t=>decide (t.path=p)
def FR(l:List Tm)(p:ByteArray):List Tm:=l.filter fun t=>!decide (t.path=p)
def Ds(a b:Tm):Tm:=⟨a.path,a.absent||b.absent,Ph a.set b.set⟩
def FB(l:List Tm)(p:ByteArray):Option (Tm×List Tm):=match CV l with
 |none=>none
 |some c=>match Du c p with
  |none=>none
  |some t=>some (t,FR c p)
def BE(a b:List Tm)(p:ByteArray):List Tm×Int :=
 match FB a p,FB b p with
 |some (t,r),some (u,m)=>match CV (r++m++[Ds t u])with
  |some o=>(o,0)
  |none=>([],8)
 |_,_=>([],1)

def Cj(lo:Option ByteArray):List Tm→Prop
 | []=>True
 |t::r=>(∀p,lo=some p→EH p t.path=true)∧EJ t.set∧Cj (some t.path) r
theorem Cj.weak{lo:Option ByteArray}:∀{l:List Tm},Cj lo l→Cj none l
 | [],_=>trivial
 |_::_,⟨_,h2,h3⟩=>⟨fun _ h=>(by cases h),h2,h3⟩
theorem Cj.low{p:ByteArray}:∀{l:List Tm},Cj (some p) l→∀t∈l,EH p t.path=true
 |t::r,⟨h1,h2,h3⟩,u,hu=>by
  rcases AF.1 hu with rfl | hu
  ·exact h1 p rfl
  ·exact Ej (h1 p rfl) (h3.low u hu)
theorem Cj.canon{lo:Option ByteArray}:∀{l:List Tm},Cj lo l→∀t∈l,EJ t.set
 |t::r,⟨h1,h2,h3⟩,u,hu=>by
  rcases AF.1 hu with rfl | hu
  ·exact h2
  ·exact h3.canon u hu
theorem Cj.mono{p q:ByteArray}:∀{l:List Tm},Cj (some p) l→EH q p=true→Cj (some q) l
 | [],_,_=>trivial
 |t::r,⟨h1,h2,h3⟩,h=>⟨fun _ e=>by cases e;exact Ej h (h1 p rfl),h2,h3⟩
theorem Ml:∀{l:List Tm} {lo:Option ByteArray} (t:Tm),Cj lo l→(∀p,lo=some p→EH p t.path=true)→Cj lo (NN t l)
 | [],lo,t,_,h=>⟨h,Cq _,trivial⟩
 |u::r,lo,t,⟨h1,h2,h3⟩,h=>by
  unfold NN;split
  ·rename_i Dz;exact⟨h1,h2,Ml t h3 fun p e=>by cases e;exact Dz⟩
  ·rename_i Dz;split
   ·rename_i he;exact⟨h1,QQ _ _,h3⟩
   ·rename_i he;refine⟨h,Cq _,fun p e=>?_,h2,h3⟩;cases e
    have:EH u.path t.path=false:=by simpa using Dz
    cases hb:EH t.path u.path with
    |true=>exact hb
    |false=>exact absurd (IV this hb) he
theorem OG:∀(l acc:List Tm),Cj none acc→Cj none (l.foldl (fun acc t=>NN t acc) acc)
 | [],_,h=>h
 |t::l,acc,h=>OG l _ (Ml t h fun _ e=>by cases e)
theorem Er(l:List Tm):Cj none (E3 l):=OG l [] trivial
theorem CU(t:Tm)(r:List Tm)(p:ByteArray):Du (t::r) p=if t.path=p then some t else Du r p:=by
 unfold Du;rw[ET];by_cases h:t.path=p<;>simp[h]
theorem Hz{p q:ByteArray}{l:List Tm}(h:Cj (some p) l)(hq:EH p q=false):Du l q=none:=by
 unfold Du;rw[Ep];intro t ht
 have:=h.low t ht
 simp only[AE];intro e;subst e;rw[hq]at this;cases this
def NX(o:Option Tm)(t:Tm):Tm:=match o with | none=>LC t | some u=>GZ u t
theorem Qc(o:Option Tm)(t:Tm)(h:∀u,o=some u→u.path=t.path):(NX o t).path=t.path:=by
 cases o with
 |none=>rfl
 |some u=>exact h u rfl
theorem G9{l:List Tm}{p:ByteArray}{u:Tm}(h:Du l p=some u):u.path=p:=by
 have:=FG h;simpa using this
theorem Fl{l:List Tm}{p:ByteArray}{u:Tm}(h:Du l p=some u):u∈l:=CR h
theorem SC:∀{l:List Tm} {lo:Option ByteArray} (t:Tm) (p:ByteArray),Cj lo l→Du (NN t l) p=if t.path=p then some (NX (Du l p) t)else Du l p
 | [],lo,t,p,_=>by
  unfold NN;rw[CU];show(if t.path=p then some (LC t)else none)=_
  by_cases h:t.path=p<;>simp[h,Du,NX]
 |u::r,lo,t,p,⟨h1,h2,h3⟩=>by
  unfold NN;split
  ·rename_i Dz;rw[CU,CU,SC t p h3]
   by_cases hu:u.path=p
   ·have:¬t.path=p:=fun e=>YW Dz (hu.trans e.symm)
    simp[hu,this]
   ·simp[hu]
  ·rename_i Dz;split
   ·rename_i he;rw[CU,CU];show(if u.path=p then some (GZ u t)else _)=_
    by_cases hu:u.path=p
    ·simp[hu,he▸hu,NX]
    ·have:¬t.path=p:=fun e=>hu (he.trans e)
     simp[hu,this]
   ·rename_i he;rw[CU];show(if t.path=p then some (LC t)else _)=_
    by_cases ht:t.path=p
    ·have hn:Du (u::r) p=none:=by
      rw[CU];have hu:¬u.path=p:=fun e=>he (e.trans ht.symm);simp only[hu,Ga];exact Hz h3 (by subst ht;simpa using Dz)
     simp[ht,hn,NX]
    ·simp[ht]
def J5(p:ByteArray)(o:Option Tm)(t:Tm):Option Tm:=if t.path=p then some (NX o t)else o
theorem QI(p:ByteArray):∀(l acc:List Tm),Cj none acc→Du (l.foldl (fun acc t=>NN t acc) acc) p=l.foldl (J5 p) (Du acc p)
 | [],_,_=>rfl
 |t::l,acc,h=>by
  rw[FH,QI p l _ (Ml t h fun _ e=>by cases e),SC t p h];rfl
theorem I1(l:List Tm)(p:ByteArray):Du (E3 l) p=l.foldl (J5 p) none:=QI p l [] trivial
theorem Mx:∀{a b:List Tm} {lo:Option ByteArray},Cj lo a→Cj lo b→(∀p,Du a p=Du b p)→a=b
 | [],[],_,_,_,_=>rfl
 | [],z::s,_,_,_,h=>by have:=h z.path;rw[CU,AB rfl]at this;cases this
 |z::s,[],_,_,_,h=>by have:=h z.path;rw[CU,AB rfl]at this;cases this
 |y::r,z::s,lo,⟨f1,f2,f3⟩,⟨g1,g2,g3⟩,h=>by
  have e:y=z:=by
   have a1:=h y.path;have a2:=h z.path;rw[CU,AB rfl,CU]at a1;rw[CU,CU z,AB rfl]at a2
   by_cases e:z.path=y.path
   ·rw[AB e]at a1;exact Ch a1
   ·rw[Ar e]at a1;rw[Ar (fun c=>e c.symm)]at a2;have b1:=Cj.low g3 y (Fl a1.symm);have b2:=Cj.low f3 z (Fl a2)
    have:=Ej b1 b2
    rw[DR]at this;cases this
  subst e
  congr 1
  refine Mx f3 g3 fun p=>?_;have hp:=h p;rw[CU,CU]at hp
  by_cases e:y.path=p
  ·subst e;rw[Hz f3 (DR _),Hz g3 (DR _)]
  ·simpa[e]using hp
theorem Cj.filter(q:Tm→Bool):∀{l:List Tm} {lo:Option ByteArray},Cj lo l→Cj lo (l.filter q)
 | [],_,_=>trivial
 |t::r,lo,⟨h1,h2,h3⟩=>by
  have ih:=Cj.filter q h3;rw[Et];split
  ·exact⟨h1,h2,ih⟩
  ·cases lo with
   |none=>exact ih.weak
   |some p=>exact ih.mono (h1 p rfl)
theorem FM{l:List Tm}{lo:Option ByteArray}{t:Tm}(h:Cj lo l):t∈l↔Du l t.path=some t:=by
 constructor
 ·induction l generalizing lo with
  |nil=>intro h;cases h
  |cons u r ih =>
   intro ht;rw[CU];rcases AF.1 ht with rfl | ht
   ·rw[AB rfl]
   ·have:=Cj.low h.2.2 t ht
    rw[Ar (YW this)];exact ih h.2.2 ht
 ·exact Fl
end Go.Eng

namespace Go.Eng
def Dt(t:Tm)(o:Option Sl):Bool:=match o with | none=>t.absent | some x=>CH x.ver&&has t.set (place x.ver)
theorem gC(t:Tm)(s:List Sl):GP t s=Dt t (BC s t.path):=by
 unfold GP Dt BC;rfl
theorem Mc{s:List Sl}{p:ByteArray}{x:Sl}(h:BC s p=some x):x.path=p:=by
 have:=FG h;simpa using this
theorem Jp{s:List Sl}{p:ByteArray}{x:Sl}(h:BC s p=some x):x∈s:=CR h
theorem JT{s:List Sl}{p:ByteArray}:Cv s p=(BC s p).isSome:=by
 unfold Cv BC;rw[B2,List.find?_isSome,A3]
theorem Zo(t:Tm)(o:Option Sl):Dt (LC t) o=Dt t o:=by
 unfold Dt LC;cases o<;>simp[Hh]
theorem XK(u t:Tm)(o:Option Sl):Dt (GZ u t) o=(Dt u o&&Dt t o):=by
 unfold Dt GZ;cases o with
 |none=>rfl
 |some x=>simp only[UZ];cases CH x.ver<;>simp
theorem No(u t:Tm)(o:Option Sl):Dt (Ds u t) o=(Dt u o||Dt t o):=by
 unfold Dt Ds;cases o with
 |none=>rfl
 |some x=>simp only[cg];cases CH x.ver<;>simp
def Ua(p:ByteArray)(o:Option Sl)(l:List Tm):Bool:=l.all fun t=>!decide (t.path=p)||Dt t o
theorem JR(p:ByteArray)(o:Option Sl):∀(l:List Tm) (a:Option Tm),(∀u,a=some u→u.path=p) →
  (l.foldl (J5 p) a=none↔a=none∧l.all (fun t=>!decide (t.path=p))=true)∧(∀u,l.foldl (J5 p) a=some u→u.path=p∧Dt u o=((match a with | none=>true | some b=>Dt b o)&&Ua p o l))
 | [],a,ha=>by
  refine⟨by simp,fun u h=>?_⟩;have h:a=some u:=h;subst h;exact⟨ha u rfl,by simp[Ua]⟩
 |t::l,a,ha=>by
  rw[FH]
  by_cases e:t.path=p
  ·have hs:J5 p a t=some (NX a t):=by unfold J5;rw[AB e]
   rw[hs];have ih:=JR p o l (some (NX a t)) (fun u h=>by cases h;rw[Qc a t fun u h=>(ha u h).trans e.symm];exact e);refine⟨⟨fun h=>?_,fun h=>?_⟩,fun u h=>?_⟩
   ·have:=ih.1.1 h;cases this.1
   ·simp[e]at h
   ·obtain⟨h1,h2⟩:=ih.2 u h;refine⟨h1,?_⟩;rw[h2]
    have:Ua p o (t::l)=(Dt t o&&Ua p o l):=by simp[Ua,e]
    rw[this];cases a with
    |none=>simp[NX,Zo]
    |some b=>simp[NX,XK,Bool.and_assoc]
  ·have hs:J5 p a t=a:=by unfold J5;rw[Ar e]
   rw[hs];have ih:=JR p o l a ha
   have:Ua p o (t::l)=Ua p o l:=by simp[Ua,e]
   rw[this];refine⟨?_,ih.2⟩;rw[ih.1];simp[e]
theorem BJ{l:List Tm}{s:List Sl}:Bi l s=true↔∀t∈l,Dt t (BC s t.path)=true:=by
 unfold Bi;rw[AX];simp only[gC]
theorem LJ(l:List Tm)(s:List Sl):Bi (E3 l) s=Bi l s:=by
 rw[B2,BJ,BJ];constructor
 ·intro h t ht
  have:=JR t.path (BC s t.path) l none (fun _ e=>by cases e)
  rw[←I1]at this;cases e:Du (E3 l) t.path with
  |none =>
   have:=(this.1.1 e).2
   rw[AX]at this
   have:=this t ht
   simp at this
  |some u =>
   obtain⟨h1,h2⟩:=this.2 u e;have hu:=h u (Fl e);rw[h1,h2]at hu;simp only[Ef,Ua,AX]at hu
   have:=hu t ht
   simpa using this
 ·intro h u hu;have e:=(FM (Er l)).1 hu
  have:=JR u.path (BC s u.path) l none (fun _ e=>by cases e)
  rw[←I1]at this;obtain⟨h1,h2⟩:=this.2 u e;rw[h2];simp only[Ef,Ua,AX];intro t ht
  by_cases e:t.path=u.path
  ·have:=h t ht;rw[e]at this;simp[this]
  ·simp[e]
theorem ZF{t:Tm}(h:HI t=true)(o:Option Sl):Dt t o=false:=by
 unfold HI at h;simp only[Ag,CX,F0]at h;unfold Dt;cases o with
 |none=>exact h.1
 |some x=>dsimp only;rw[h.2];simp[has]
def Gg(s:List Sl):Prop:=∀x∈s,CH x.ver=true
theorem Iz{v:Ver}(h:CH v=true):0≤v.a∧v.a≤999∧0≤v.b∧v.b≤999∧0≤v.c∧v.c≤999:=by
 unfold CH at h;simp only[Ag]at h;obtain⟨⟨a,b⟩,c⟩:=h;obtain⟨a1,a2⟩:=Cm a;obtain⟨b1,b2⟩:=Cm b;obtain⟨c1,c2⟩:=Cm c;exact⟨a1,a2,b1,b2,c1,c2⟩
theorem JA{v:Ver}(h:CH v=true):0≤place v∧place v<1000000:=by
 have:=Iz h;unfold place;omega
theorem Ub{t:Tm}(h:GH t=true){s:List Sl}(hs:Gg s):Dt t (BC s t.path)=true:=by
 unfold GH at h;simp only[Ag,AE]at h;unfold Dt;cases e:BC s t.path with
 |none=>exact h.1
 |some x =>
  have:=hs x (Jp e)
  have hp:=JA this;dsimp only;rw[this,h.2];simp[has,BR,hp]
theorem Dh{l:List Tm}{s:List Sl}(hs:Gg s):Bi l s=(match CV l with | none=>false | some c=>Bi c s):=by
 unfold CV;split
 ·rename_i h;split at h
  ·rename_i hn;rw[←LJ,AH];intro hv;rw[BJ]at hv;obtain⟨t,ht,hn⟩:=A3.1 hn
   have:=hv t ht
   rw[ZF hn]at this;cases this
  ·cases h
 ·rename_i c h;split at h
  ·cases h
  ·rename_i hn;cases h;rw[←LJ,B2,BJ,BJ];constructor
   ·intro h t ht;exact h t (BL.1 ht).1
   ·intro h t ht;cases ha:GH t with
    |true=>exact Ub ha hs
    |false=>exact h t (BL.2 ⟨ht,by simp[ha]⟩)
theorem G6(a b:List Tm)(s:List Sl):Bi (a++b) s=(Bi a s&&Bi b s):=by unfold Bi;rw[List.all_append]
theorem EV{l c:List Tm}(h:CV l=some c):Cj none c:=by
 unfold CV at h;split at h
 ·cases h
 ·cases h;exact Cj.filter _ (Er l)
theorem FQ{l r:List Tm}{p:ByteArray}{t:Tm}{s:List Sl}(hs:Gg s)(h:FB l p=some (t,r)):Bi l s=(Dt t (BC s p)&&Bi r s)∧t.path=p:=by
 unfold FB at h;cases hc:CV l with
 |none=>rw[hc]at h;cases h
 |some c =>
  rw[hc]at h;dsimp only at h;cases hf:Du c p with
  |none=>rw[hf]at h;cases h
  |some u =>
   rw[hf]at h;cases h;have hp:=G9 hf;refine⟨?_,hp⟩;rw[Dh hs,hc];dsimp only;rw[B2,Ag,BJ,BJ];constructor
   ·intro h
    have:=h t (Fl hf)
    rw[hp]at this;exact⟨this,fun v hv=>h v (BL.1 hv).1⟩
   ·intro⟨h1,h2⟩ v hv
    by_cases e:v.path=p
    ·have:=(FM (EV hc)).1 hv
     rw[e,hf]at this;cases this;rw[e];exact h1
    ·exact h2 v (BL.2 ⟨hv,by simp[e]⟩)
theorem TQ{a b o:List Tm}{p:ByteArray}{s:List Sl}(hs:Gg s)(h:BE a b p=(o,0))(hv:Bi o s=true):Bi a s=true∨Bi b s=true:=by
 unfold BE at h;cases h1:FB a p with
 |none=>rw[h1]at h;simp at h
 |some x =>
  cases h2:FB b p with
  |none=>rw[h1,h2]at h;simp at h
  |some y =>
   obtain⟨t,r⟩:=x;obtain⟨u,m⟩:=y;rw[h1,h2]at h;dsimp only at h;cases hc:CV (r++m++[Ds t u])with
   |none=>rw[hc]at h;simp at h
   |some c =>
    rw[hc]at h
    have:c=o:=by simpa using h
    subst this;have e:=Dh (l:=r++m++[Ds t u]) hs;rw[hc]at e;dsimp only at e;rw[hv,G6,G6]at e;simp only[Ag]at e;obtain⟨⟨e1,e2⟩,e3⟩:=e;obtain⟨va,pa⟩:=FQ hs h1;obtain⟨vb,pb⟩:=FQ hs h2;have e3:=BJ.1 e3 _ (Au.2 rfl)
    have:(Ds t u).path=p:=pa
    rw[this,No,CQ]at e3;rcases e3 with e3 | e3
    ·exact .inl (by rw[va,e3,e1];rfl)
    ·exact .inr (by rw[vb,e3,e2];rfl)
theorem P0{l:List Tm}{s:List Sl}(hs:Gg s)(Dy:PZ l≠[]):Bi (PZ l) s=Bi l s:=by
 have:=Dh (l:=l) hs
 unfold PZ at *
 cases h:CV l with
 |none=>rw[h]at Dy;exact absurd rfl Dy
 |some c=>rw[h]at this;exact this.symm
end Go.Eng

namespace Go.Eng
-- paths
def ED(c:UInt8):Bool:=decide (97≤c)&&decide (c≤122)
def L1(c:UInt8):Bool:=decide (65≤c)&&decide (c≤90)
def CC(c:UInt8):Bool:=decide (48≤c)&&decide (c≤57)
def FS(c:UInt8):Bool:=ED c||L1 c||CC c||decide (c=95)
def Zv:List UInt8:=[32,97,110,100,32,97,110,121,32,97,115,32,98,111,111,108,32,100,101,112,114,101,99,97,116,101,100,32,101,108,115,101,32,101,120,112,111,114,116,32,102,97,108,115,101,32,102,110,32,102,111,108,100,32,102,114,111,109,32,105,102,32,105,109,112,111,114,116,32,105,110,32,105,110,116,32,108,101,110,103,116,104,32,108,101,116,32,108,105,115,116,32,109,97,116,99,104,32,109,111,100,117,108,101,32,110,111,110,101,32,110,111,116,32,111,114,32,116,101,120,116,32,116,104,101,110,32,116,114,117,101,32,116,121,112,101,32,117,115,101,32]
def M5:List UInt8→List UInt8→Bool
 | [],_=>true
 |_::_,[]=>false
 |a::x,b::y=>decide (a=b)&&M5 x y
def gN(x:List UInt8):List UInt8→Bool
 | []=>M5 x []
 |b::y=>M5 x (b::y)||gN x y
def Us(s:List UInt8):Bool:=gN (32::(s++[32])) Zv
def Gk(s:List UInt8):Bool:=!s.isEmpty&&decide (s.length≤32)&&ED (s.headD 0)&&s.all FS&&!Us s
def G2(s:List UInt8):Bool:=Gk s&&s.all fun c=>ED c||CC c
def DV(s:List UInt8):Int:=s.foldl (fun n c=>10*n+((c.toNat:Int)-48)) 0
def Gj(s:List UInt8):Option Int:=match s with
 |c::r=>if c=118 then(if r.isEmpty||decide (3<r.length)||(decide (1<r.length)&&decide (r.headD 0=48))||!r.all CC then none else some (DV r))else none
 | []=>none
def CP(c:UInt8):List UInt8→List (List UInt8)
 | []=>[[]]
 |b::r=>if b=c then []::CP c r else match CP c r with
  | []=>[[b]]
  |x::l=>(b::x)::l
def PU(p:List UInt8):Option Int:=match Gj ((CP 47 p).getLastD [])with
 |none=>none
 |some n=>if 64<p.length||(CP 47 p).length<2 then none else if(CP 47 p).all G2 then some n else none
def Bw(p:ByteArray):Option Int:=PU p.data.toList
-- indexes
def F3(before:Option ByteArray)(q:Rq):Int :=
 if(Bw q.path).isNone then 4 else if q.set.isEmpty||!decide (q.set=canon q.set)||(match before with | some b=>!EH b q.path | none=>false)then 1 else 0
def D2(before:Option ByteArray):List Rq→Int
 | []=>0
 |q::r=>if F3 before q=0 then D2 (some q.path) r else F3 before q
def Bm(l:List Rq):Int:=if 16<l.length then 7 else D2 none l
def DK(s:ByteArray):Bool:=decide (s.size=0)||decide (s.size=32)
def C3(r:Rl):Int:=match Bw r.path with
 |none=>4
 |some m=>if !CH r.ver||!decide (r.ver.a=m)then 2 else if Bm r.reqs≠0 then Bm r.reqs else if DK r.arch&&DK r.ifc&&DK r.cert then 0 else 1
def Fx(a b:Int):Int:=if a<b then -1 else if b<a then 1 else 0
def LQ(a b:ByteArray):Int:=if EH a b then -1 else if EH b a then 1 else 0
def IW(a b:Ver):Int:=if Fx a.a b.a≠0 then Fx a.a b.a else if Fx a.b b.b≠0 then Fx a.b b.b else Fx a.c b.c
def Iq(a b:Rl):Int:=if LQ a.path b.path≠0 then LQ a.path b.path else IW a.ver b.ver
def Fz(r:Rl):Sl:=⟨r.path,r.ver⟩
def C0(before:Option Rl):List Rl→Int
 | []=>0
 |r::l=>if C3 r≠0 then C3 r else match before with
  |none=>C0 (some r) l
  |some b=>if Fz b=Fz r then 5 else if 0<Iq b r then 1 else C0 (some r) l
def A7(l:List Rl):Int:=if 256<l.length then 7 else C0 none l
def FL(x:List Rl)(y:Sl):Option Rl:=if A7 x≠0 then none else x.find? fun r=>decide (Fz r=y)
def Kh(x:List Rl)(p:ByteArray):List Rl:=if A7 x≠0 then []else x.filter fun r=>decide (r.path=p)
def Ce(x:List Rl)(p:ByteArray):A9:=canon (((Kh x p).filter fun r=>!r.yanked).map fun r=>(plc r.ver,plc r.ver+1))
def SZ(before:Option ByteArray):List Sl→Bool
 | []=>true
 |y::r=>(match before with |some b=>EH b y.path |none=>true)&&SZ (some y.path) r
def Lk(s:List Sl):Bool:=SZ none s
-- solutions
-- derivations
def O6(x:List Rl)(p:ByteArray)(pl:Int):Option Rl:=x.find? fun r=>decide (r.path=p)&&decide (plc r.ver=pl)
def mt:ByteArray:=⟨#[]⟩
def Jz{α:Type}(l:List α)(i:Int):Option α:=if i<0 then none else l[i.toNat]?
def cQ(l:List Tm):Option (List Tm):=if l.isEmpty then none else some l
def DS(x:List Rl)(roots:List Rq)(d:List (List Tm))(i:Nf):Option (List Tm) :=
 if i.kind=0 then
  if i.path=mt∧i.place=0∧i.left=0∧i.right=0 then(Jz roots i.number).map JC else none
 else if i.kind=1 then
  if i.left=0∧i.right=0 then match O6 x i.path i.place with
   |none=>none
   |some r=>match Jz r.reqs i.number with
    |none=>none
    |some q=>cQ (El i.path i.place q)
  else none
 else if i.kind=2 then
  if i.place=0∧i.number=0∧i.left=0∧i.right=0 then cQ (H1 i.path (Ce x i.path))else none
 else if i.kind=3 then
  if i.place=0∧i.number=0 then match Jz d i.left,Jz d i.right with
   |some a,some b=>if(BE a b i.path).2=0 then some (BE a b i.path).1 else none
   |_,_=>none
  else none
 else none
def Dr(x:List Rl)(roots:List Rq):List Nf→List (List Tm)→Option (List (List Tm))
 | [],d=>some d
 |i::l,d=>match DS x roots d i with
  |none=>none
  |some t=>Dr x roots l (d++[t])
-- decisions
def CA(before:List Sl):List Rq→Option ByteArray→Option ByteArray
 | [],acc=>acc
 |q::l,acc=>CA before l (if Cv before q.path then acc else match acc with
  |none=>some q.path
  |some p=>if EH q.path p then some q.path else some p)
def HJ(needs:List Rq)(before:List Sl):Option ByteArray:=CA before needs none
structure z7 where
 before:List Sl
 needs:List Rq
 rel:Rl
-- answers
-- the example
def bs(l:List UInt8):ByteArray:=⟨⟨l⟩⟩
end Go.Eng

namespace Go.Eng
-- the order of releases
theorem Kz{a b:Int}(h:Fx a b=0):a=b:=by
 unfold Fx at h;split at h
 ·cases h
 ·split at h
  ·cases h
  ·omega
theorem V0{a b:Int}(h:Fx a b<0):a<b:=by
 unfold Fx at h;split at h
 ·assumption
 ·split at h<;>omega
theorem UQ{a b:ByteArray}(h:LQ a b=0):a=b:=by
 unfold LQ at h;cases h1:EH a b with
 |true=>rw[h1]at h;simp at h
 |false =>
  cases h2:EH b a with
  |true=>rw[h1,h2]at h;simp at h
  |false=>exact IV h1 h2
theorem kc{a b:ByteArray}(h:LQ a b<0):EH a b=true:=by
 unfold LQ at h;cases h1:EH a b with
 |true=>rfl
 |false=>rw[h1]at h;cases h2:EH b a<;>rw[h2]at h<;>simp at h
def oD(a b:Ver):Prop:=a.a<b.a∨(a.a=b.a∧(a.b<b.b∨(a.b=b.b∧a.c<b.c)))
def cM(a b:Rl):Prop:=EH a.path b.path=true∨(a.path=b.path∧oD a.ver b.ver)
theorem kf{a b:Ver}(h:IW a b<0):oD a b:=by
 unfold IW at h;split at h
 ·exact .inl (V0 h)
 ·rename_i h1;have h1:=Kz (B3.1 h1);split at h
  ·exact .inr ⟨h1,.inl (V0 h)⟩
  ·rename_i h2;exact .inr ⟨h1,.inr ⟨Kz (B3.1 h2),V0 h⟩⟩
theorem bQ{a b:Ver}(h:IW a b=0):a=b:=by
 unfold IW at h;split at h
 ·rename_i h1;exact absurd h h1
 ·rename_i h1;have h1:=Kz (B3.1 h1);split at h
  ·rename_i h2;exact absurd h h2
  ·rename_i h2;have h2:=Kz (B3.1 h2);have h3:=Kz h;cases a;cases b;simp_all
theorem UR{a b:Rl}(h:Iq a b=0):Fz a=Fz b:=by
 unfold Iq at h;split at h
 ·rename_i h1;exact absurd h h1
 ·rename_i h1;have h1:=UQ (B3.1 h1);have h2:=bQ h;unfold Fz;rw[h1,h2]
theorem kd{a b:Rl}(h:Iq a b<0):cM a b:=by
 unfold Iq at h;split at h
 ·exact .inl (kc h)
 ·rename_i h1;exact .inr ⟨UQ (B3.1 h1),kf h⟩
theorem cO{a b c:Ver}(h:oD a b)(k:oD b c):oD a c:=by unfold oD at *;omega
theorem cN{a b c:Rl}(h:cM a b)(k:cM b c):cM a c:=by
 rcases h with h | ⟨h1,h2⟩
 ·rcases k with k | ⟨k1,k2⟩
  ·exact .inl (Ej h k)
  ·exact .inl (k1▸h)
 ·rcases k with k | ⟨k1,k2⟩
  ·exact .inl (h1▸k)
  ·exact .inr ⟨h1.trans k1,cO h2 k2⟩
theorem NP{a b:Rl}(h:cM a b)(k:Fz a=Fz b):False:=by
 unfold Fz at k;simp only[Sl.mk.injEq]at k;rcases h with h | ⟨_,h⟩
 ·rw[k.1,DR]at h;cases h
 ·rw[k.2]at h;unfold oD at h;omega
-- a valid index
structure RV(r:Rl):Prop where
 maj:Bw r.path=some r.ver.a
 val:CH r.ver=true
 reqs:Bm r.reqs=0
theorem Y2{r:Rl}(h:C3 r=0):RV r:=by
 unfold C3 at h;split at h
 ·cases h
 ·rename_i m hm;split at h
  ·cases h
  ·rename_i h1;split at h
   ·rename_i h2;exact absurd h h2
   ·rename_i h2;simp only[CQ,CX,JQ,not_or,B3]at h1;refine⟨by rw[hm,h1.2],by simpa using h1.1,B3.1 h2⟩
theorem K7:∀{l:List Rl} {b:Option Rl},C0 b l=0→(∀r∈l,RV r)∧(l.Pairwise cM∧∀c,b=some c→∀r∈l,cM c r)
 | [],b,_=>⟨fun _ h=>(by cases h),.nil,fun _ _ _ h=>(by cases h)⟩
 |r::l,b,h=>by
  unfold C0 at h;split at h
  ·rename_i h1;exact absurd h h1
  ·rename_i h1;have hr:=Y2 (B3.1 h1);have go:C0 (some r) l=0→(∀c,b=some c→cM c r)→(∀z∈r::l,RV z)∧((r::l).Pairwise cM∧∀c,b=some c→∀z∈r::l,cM c z):=fun h hc=>by
    obtain⟨i1,i2,i3⟩:=K7 h;refine⟨fun z hz=>?_,.cons (i3 r rfl) i2,fun c e z hz=>?_⟩
    ·rcases AF.1 hz with rfl | hz
     ·exact hr
     ·exact i1 z hz
    ·rcases AF.1 hz with rfl | hz
     ·exact hc c e
     ·exact cN (hc c e) (i3 r rfl z hz)
   cases b with
   |none=>exact go h fun _ e=>by cases e
   |some b =>
    dsimp only at h;split at h
    ·cases h
    ·rename_i hk;split at h
     ·cases h
     ·rename_i hc;refine go h fun c e=>?_;cases e;refine kd ?_
      have:Iq b r≠0:=fun e=>hk (UR e)
      omega
theorem CN{l:List Rl}(h:A7 l=0):(∀r∈l,RV r)∧l.Pairwise cM:=by
 unfold A7 at h;split at h
 ·cases h
 ·exact⟨(K7 h).1,(K7 h).2.1⟩
theorem Tf{l:List Rl}(h:l.Pairwise cM){a b:Rl}(ha:a∈l)(hb:b∈l)(hk:Fz a=Fz b):a=b:=by
 induction h with
 |nil=>cases ha
 |cons h1 h2 ih =>
  rcases AF.1 ha with e1 | ha
  ·rcases AF.1 hb with e2 | hb
   ·exact e1.trans e2.symm
   ·exact(NP (e1▸h1 b hb) hk).elim
  ·rcases AF.1 hb with e2 | hb
   ·exact(NP (e2▸h1 a ha) hk.symm).elim
   ·exact ih ha hb
theorem WL{a b:Ver}(ha:CH a=true)(hb:CH b=true)(h1:a.a=b.a)(h2:place a=place b):a=b:=by
 have:=Iz ha
 have:=Iz hb
 unfold place at h2;have e1:a.b=b.b:=by omega
 have e2:a.c=b.c:=by omega
 cases a;cases b;simp_all
theorem RV.plc{r:Rl}(h:RV r):plc r.ver=place r.ver:=by unfold Go.Eng.plc;rw[h.val];rfl
theorem bi{l:List Rl}(h:(∀r∈l,RV r)∧l.Pairwise cM){a b:Rl}(ha:a∈l)(hb:b∈l)(h1:a.path=b.path)(h2:place a.ver=place b.ver):a=b:=by
 refine Tf h.2 ha hb ?_
 have:=h.1 a ha
 have:=h.1 b hb
 have e:a.ver.a=b.ver.a:=by
  have e1:=(h.1 a ha).maj;rw[h1,(h.1 b hb).maj]at e1;exact(Ch e1).symm
 unfold Fz;rw[h1,WL (h.1 a ha).val (h.1 b hb).val e h2]
theorem I9{x:List Rl}{y:Sl}{r:Rl}(h:FL x y=some r):A7 x=0∧r∈x∧Fz r=y:=by
 unfold FL at h;split at h
 ·cases h
 ·rename_i h1;refine⟨B3.1 h1,CR h,?_⟩
  have:=FG h;simpa using this
structure pi(x:List Rl)(roots:List Rq)(s:List Sl):Prop where
 ix:A7 x=0
 inc:Lk s=true
 fnd:∀y∈s,∃r,FL x y=some r∧r.yanked=false
 root:∀q∈roots,∃y,BC s q.path=some y∧has q.set (place y.ver)=true
 req:∀y∈s,∀r,FL x y=some r→∀q∈r.reqs,∃z,BC s q.path=some z∧has q.set (place z.ver)=true
theorem S8:∀{s:List Sl} {b:Option ByteArray},SZ b s=true→s.Pairwise (fun a b=>EH a.path b.path=true)∧∀c,b=some c→∀y∈s,EH c y.path=true
 | [],_,_=>⟨.nil,fun _ _ _ h=>by cases h⟩
 |y::r,b,h=>by
  unfold SZ at h;simp only[Ag]at h;obtain⟨h1,h2⟩:=h;obtain⟨i1,i2⟩:=S8 h2;refine⟨.cons (i2 _ rfl) i1,fun c e z hz=>?_⟩;subst e;rcases AF.1 hz with rfl | hz
  ·exact h1
  ·exact Ej h1 (i2 _ rfl z hz)
theorem Nk{s:List Sl}(h:s.Pairwise (fun a b=>EH a.path b.path=true)){y:Sl}(hy:y∈s):BC s y.path=some y:=by
 induction h with
 |nil=>cases hy
 |cons h1 h2 ih =>
  rename_i a l;unfold BC;rw[ET];rcases AF.1 hy with rfl | hy
  ·simp
  ·have:=YW (h1 y hy)
   simp only[this,decide_false];exact ih hy
theorem Xl{s:List Sl}(h:Lk s=true){y:Sl}(hy:y∈s):BC s y.path=some y:=Nk (S8 h).1 hy
theorem pi.valid{x:List Rl}{roots:List Rq}{s:List Sl}(h:pi x roots s):Gg s:=fun y hy=>by
 obtain⟨r,h1,_⟩:=h.fnd y hy;obtain⟨_,h2,h3⟩:=I9 h1
 have:=((CN h.ix).1 r h2).val
 rw[←h3];exact this
-- soundness
theorem Q0{q:Rq}{s:List Sl}(h:∃y,BC s q.path=some y∧has q.set (place y.ver)=true):Dt (DG q) (BC s q.path)=false:=by
 obtain⟨y,h1,h2⟩:=h;rw[h1];unfold Dt DG;dsimp only;rw[FN,h2];simp
theorem iz{l:List Tm}{s:List Sl}(hs:Gg s)(hn:CV l≠none)(hv:Bi l s=false):Bi (PZ l) s=false:=by
 have:=Dh (l:=l) hs
 unfold PZ;cases h:CV l with
 |none=>exact absurd h hn
 |some c=>rw[h,hv]at this;exact this.symm
theorem Yc{l:List Tm}{s:List Sl}(hs:Gg s){o:List Tm}(h:cQ (PZ l)=some o)(hv:Bi l s=false):Bi o s=false:=by
 unfold cQ at h;split at h
 ·cases h
 ·rename_i Dy;cases h;rw[P0 hs (by intro e;rw[e]at Dy;exact Dy rfl)];exact hv
theorem ZZ(q:Rq):CV [DG q]≠none:=by
 unfold CV E3;simp only[List.foldl,NN]
 have:HI (LC (DG q))=false:=by simp[HI,LC,DG]
 simp[this]
theorem O2{α:Type}{l:List α}{i:Int}{a:α}(h:Jz l i=some a):a∈l:=by
 unfold Jz at h;split at h
 ·cases h
 ·exact Ay h
theorem Wn{x:List Rl}{roots:List Rq}{s:List Sl}(hs:pi x roots s){d:List (List Tm)}(hd:∀t∈d,Bi t s=false){i:Nf}{o:List Tm}(h:DS x roots d i=some o):Bi o s=false:=by
 have hv:=hs.valid;unfold DS at h;split at h
 ·split at h
  ·rw[AQ]at h;obtain⟨q,hq,rfl⟩:=h;refine iz hv (ZZ q) ?_;rw[AH];intro hw
   have:=BJ.1 hw _ (Au.2 rfl)
   rw[show(DG q).path=q.path from rfl,Q0 (hs.root q (O2 hq))]at this;cases this
  ·cases h
 ·split at h
  ·split at h
   ·split at h
    ·cases h
    ·rename_i r hr;split at h
     ·cases h
     ·rename_i q hq;refine Yc hv h ?_;rw[AH];intro hw;have h1:=BJ.1 hw _ (Ab ..);have h2:=BJ.1 hw (DG q) (by simp);rw[show(DG q).path=q.path from rfl]at h2;dsimp only at h1;cases hf:BC s i.path with
      |none=>rw[hf]at h1;simp[Dt]at h1
      |some y =>
       rw[hf]at h1;unfold Dt at h1;simp only[Ag]at h1;have hp:place y.ver=i.place:=by
        have:=h1.2
        simp only[has,BW,List.any_nil,Bool.or_false,Ag,BR,AE]at this;omega
       have hy:=Jp hf;have w7:=Mc hf;obtain⟨r',e1,e2⟩:=hs.fnd y hy;obtain⟨_,m1,k1⟩:=I9 e1;have XM:r∈x:=CR hr;have pE:=FG hr;simp only[Ag,AE]at pE;have FO:=CN hs.ix
       have:r'=r:=by
        refine bi FO m1 XM ?_ ?_
        ·rw[pE.1,←w7,←k1];rfl
        ·rw[←(FO.1 r XM).plc,pE.2,←hp,←k1];rfl
       subst this
       have:=hs.req y hy r' e1 q (O2 hq)
       rw[Q0 this]at h2;cases h2
   ·cases h
  ·split at h
   ·split at h
    ·refine Yc hv h ?_;rw[AH];intro hw;have h1:=BJ.1 hw _ (Au.2 rfl);dsimp only at h1;cases hf:BC s i.path with
     |none=>rw[hf]at h1;simp[Dt]at h1
     |some y =>
      rw[hf]at h1;unfold Dt at h1;simp only[Ag]at h1;have hy:=Jp hf;have w7:=Mc hf;obtain⟨r,e1,e2⟩:=hs.fnd y hy;obtain⟨_,m1,k1⟩:=I9 e1;have FO:=CN hs.ix;have h1:=h1.2;rw[FN]at h1;have YF:=JA (hv y hy)
      have:has (Ce x i.path) (place y.ver)=true:=by
       unfold Ce;rw[Hh];unfold has;simp only[YF,decide_true,Ef,A3,Aq,BL];refine⟨(plc r.ver,plc r.ver+1),⟨r,⟨?_,by simp[e2]⟩,rfl⟩,?_⟩
       ·unfold Kh;simp only[hs.ix,Vf,not_true,Ga,BL,m1,true_and,AE];rw[←w7,←k1];rfl
       ·rw[(FO.1 r m1).plc,←k1];rw[DJ];exact⟨BQ _,by show place r.ver<place r.ver+1;omega⟩
      rw[this]at h1;simp at h1
    ·cases h
   ·split at h
    ·split at h
     ·split at h
      ·rename_i a b ha hb;split at h
       ·rename_i h0;cases h;rw[AH];intro hw;rcases TQ hv (o:=(BE a b i.path).1) (Prod.ext rfl h0) hw with hw | hw
        ·rw[hd a (O2 ha)]at hw;cases hw
        ·rw[hd b (O2 hb)]at hw;cases hw
       ·cases h
      ·cases h
     ·cases h
    ·cases h
theorem L8{x:List Rl}{roots:List Rq}{s:List Sl}(hs:pi x roots s):∀{l:List Nf} {d d' : List (List Tm)},(∀t∈d,Bi t s=false)→Dr x roots l d=some d'→∀t∈d',Bi t s=false
 | [],d,d',hd,h=>by cases h;exact hd
 |i::l,d,d',hd,h=>by
  unfold Dr at h;split at h
  ·cases h
  ·rename_i o ho;refine L8 hs (fun t ht=>?_) h;rcases A5.1 ht with ht | ht
   ·exact hd t ht
   ·rw[Au.1 ht];exact Wn hs hd ho
end Go.Eng

namespace Go.Eng
theorem Ij{α:Type}[DecidableEq α]:∀{l m:List α},l.Nodup→(∀x∈l,x∈m)→l.length≤m.length
 | [],_,_,_=>AL _
 |a::l,m,hn,hs=>by
  rw[CZ]at hn;have ha:a∈m:=hs a (Ab ..)
  have:=Ij (l:=l) (m:=m.erase a) hn.2 fun x hx=>by
   have:x≠a:=fun e=>hn.1 (e▸hx)
   exact(List.mem_erase_of_ne this).2 (hs x (Ai _ hx))
  rw[List.length_erase_of_mem ha]at this
  have:=List.length_pos_of_mem ha
  simp only[Ak];omega
abbrev Po(s:List Sl):Prop:=s.Pairwise (fun a b=>EH a.path b.path=true)
-- the next path
theorem JY(before:List Sl):∀{l:List Rq} {acc:Option ByteArray},(∀p,acc=some p→Cv before p=false) →
  (∀p,CA before l acc=some p→Cv before p=false∧(acc=some p∨∃q∈l,q.path=p))∧(CA before l acc=none→acc=none∧∀q∈l,Cv before q.path=true)
 | [],acc,ha=>⟨fun p h=>⟨ha p h,.inl h⟩,fun h=>⟨h,fun _ h=>(by cases h)⟩⟩
 |q::l,acc,ha=>by
  unfold CA
  have key:∀bB,(∀p,bB=some p→Cv before p=false)→(∀p,bB=some p→acc=some p∨q.path=p)→(bB=none→acc=none∧Cv before q.path=true) →
    (∀p,CA before l bB=some p→Cv before p=false∧(acc=some p∨∃q'∈q::l,q'.path=p))∧(CA before l bB=none→acc=none∧∀q'∈q::l,Cv before q'.path=true):=by
   intro bB h1 h2 h3;obtain⟨i1,i2⟩:=JY before (l:=l) h1;refine⟨fun p h=>?_,fun h=>?_⟩
   ·obtain⟨j1,j2⟩:=i1 p h;refine⟨j1,?_⟩;rcases j2 with j2 | ⟨q',j3,j4⟩
    ·rcases h2 p j2 with h2 | h2
     ·exact .inl h2
     ·exact .inr ⟨q,Ab ..,h2⟩
    ·exact .inr ⟨q',Ai _ j3,j4⟩
   ·obtain⟨j1,j2⟩:=i2 h;obtain⟨k1,k2⟩:=h3 j1;refine⟨k1,fun q' hq=>?_⟩;rcases AF.1 hq with rfl | hq
    ·exact k2
    ·exact j2 q' hq
  cases hb:Cv before q.path with
  |true=>simp only[NM];exact key acc ha (fun p h=>.inl h) fun h=>⟨h,hb⟩
  |false =>
   simp only[Da,Ga];cases acc with
   |none=>exact key _ (fun p h=>by cases h;exact hb) (fun p h=>by cases h;exact .inr rfl) fun h=>by cases h
   |some p0 =>
    dsimp only;split
    ·exact key _ (fun p h=>by cases h;exact hb) (fun p h=>by cases h;exact .inr rfl) fun h=>by cases h
    ·exact key _ (fun p h=>by cases h;exact ha _ rfl) (fun p h=>by cases h;exact .inl rfl) fun h=>by cases h
theorem Tw{needs:List Rq}{before:List Sl}{p:ByteArray}(h:HJ needs before=some p):Cv before p=false∧∃q∈needs,q.path=p:=by
 obtain⟨h1,h2⟩:=(JY before (l:=needs) (acc:=none) fun _ e=>by cases e).1 p h;rcases h2 with h2 | h2
 ·cases h2
 ·exact⟨h1,h2⟩
theorem ZG{needs:List Rq}{before:List Sl}(h:HJ needs before=none):∀q∈needs,Cv before q.path=true :=
 ((JY before (l:=needs) (acc:=none) fun _ e=>by cases e).2 h).2
theorem SM(a b:List Sl)(p:ByteArray):Cv (a++b) p=(Cv a p||Cv b p):=by unfold Cv;rw[Hu]
theorem Li{s:List Sl}{p:ByteArray}:Cv s p=true↔∃y∈s,y.path=p:=by unfold Cv;simp
theorem Hg{s:List Sl}{p:ByteArray}:Cv s p=true↔p∈s.map (·.path):=by rw[Li,Aq]
-- what is needed
-- skips
theorem V2{t:List Tm}{b s:List Sl}(hs:Lk s=true)(hb:∀y∈b,y∈s)(h:Cz t b=true):Bi t s=true:=by
 unfold Cz at h;simp only[Ag,CX,CL]at h;obtain⟨h1,h2⟩:=h;rw[BJ]at h1⊢;intro u hu
 have:=h2 u hu
 simp only[Bool.not_eq_false]at this;rw[JT]at this;cases hf:BC b u.path with
 |none=>rw[hf]at this;cases this
 |some y =>
  have h3:=h1 u hu;rw[hf]at h3
  have:=Xl hs (hb y (Jp hf))
  rw[Mc hf]at this;rw[this];exact h3
end Go.Eng

namespace Go.Eng
-- right answers
-- the first decision that differs
-- prefixes
theorem IY{x:List Rl}{roots:List Rq}:∀{l:List Nf} {d d' : List (List Tm)},Dr x roots l d=some d'→d'.length=d.length+l.length
 | [],d,d',h=>by cases h;rfl
 |i::l,d,d',h=>by
  unfold Dr at h;split at h
  ·cases h
  ·have:=IY h
   simp only[Ad,Ak,Al]at this⊢;omega
theorem G5{x:List Rl}{roots:List Rq}:∀(l m:List Nf) (d:List (List Tm)),Dr x roots (l++m) d=match Dr x roots l d with | none=>none | some d'=>Dr x roots m d'
 | [],_,_=>rfl
 |i::l,m,d=>by
  show(match DS x roots d i with | none=>none | some t=>Dr x roots (l++m) (d++[t]))=(match(match DS x roots d i with | none=>none | some t=>Dr x roots l (d++[t]))with | none=>none | some d'=>Dr x roots m d');cases DS x roots d i with
  |none=>rfl
  |some t=>exact G5 l m _
theorem LE{x:List Rl}{roots:List Rq}:∀{l:List Nf} {d d' : List (List Tm)},Dr x roots l d=some d'→d <+: d'
 | [],d,d',h=>by cases h;exact List.prefix_refl _
 |i::l,d,d',h=>by
  unfold Dr at h;split at h
  ·cases h
  ·exact(Oe _ _).trans (LE h)
theorem Ng{x:List Rl}{roots:List Rq}{l:List Nf}{d:List (List Tm)}(h:Dr x roots l []=some d)(k:Nat):Dr x roots (l.take k) []=some (d.take k):=by
 rw[←Ee k l,G5]at h;cases e:Dr x roots (l.take k) []with
 |none=>rw[e]at h;cases h
 |some f =>
  rw[e]at h;dsimp only at h;have h1:=IY e;have h2:=IY h;have h3:=LE h
  congr 1
  simp only[Al,AK,B6]at h1 h2;obtain⟨z,rfl⟩:=h3
  by_cases hk:k≤l.length
  ·rw[D8 (by omega),Az (by omega)]
  ·rw[Ad]at h2
   have:z=[]:=AJ (by omega)
   subst this;rw[CY,Az (by omega)]
def K5(l:List Tm):Prop:=CV l=some l
theorem dC{l:List Tm}:∀(l2:List Tm),Cj none (l2++l)→l.foldl (fun acc t=>NN t acc) l2=l2++l:=by
 induction l with
 |nil=>intro l2 _;simp
 |cons t r ih =>
  intro l2 h;have hi:NN t l2=l2++[t]:=by
   have:∀(m:List Tm) (lo:Option ByteArray),Cj lo (m++t::r)→NN t m=m++[t]:=by
    intro m
    induction m with
    |nil =>
     intro lo hm;have hc:EJ t.set:=hm.2.1;unfold NN;rw[show LC t=t from o8 rfl rfl (Jn hc)];rfl
    |cons u m ihm =>
     intro lo hm;have hm:Cj lo (u::(m++t::r)):=hm;have Dz:=Cj.low hm.2.2 t (by simp);unfold NN;rw[AB Dz,ihm _ hm.2.2];rfl
   exact this l2 none h
  rw[FH,hi]
  have:=ih (l2++[t]) (by rw[BU];exact h)
  rw[this,BU];rfl
theorem PV{l:List Tm}(h:Cj none l):E3 l=l:=by
 have:=dC (l:=l) [] h
 simpa[E3]using this
theorem QE{l c:List Tm}(h:CV l=some c):K5 c:=by
 have hs:=EV h;unfold K5;unfold CV at h⊢;rw[PV hs];split at h
 ·cases h
 ·rename_i hn;cases h;rw[Ar]
  ·congr 1
   rw[List.filter_filter];simp
  ·rw[Bool.not_eq_true,CL]at hn⊢;intro t ht;exact hn t (BL.1 ht).1
theorem OH:K5 []:=rfl
theorem Mq(l:List Tm):K5 (PZ l):=by
 unfold PZ;cases h:CV l with
 |none=>exact OH
 |some c=>exact QE h
theorem Nu(a b:List Tm)(p:ByteArray):K5 (BE a b p).1:=by
 unfold BE;split
 ·split
  ·rename_i h;exact QE h
  ·exact OH
 ·exact OH
theorem Yb{l o:List Tm}(h:cQ l=some o):o=l:=by unfold cQ at h;split at h<;>cases h;rfl
theorem XR{x:List Rl}{roots:List Rq}{d:List (List Tm)}{i:Nf}{o:List Tm}(h:DS x roots d i=some o):K5 o:=by
 unfold DS at h;split at h
 ·split at h
  ·rw[AQ]at h;obtain⟨q,_,rfl⟩:=h;exact Mq _
  ·cases h
 ·split at h
  ·split at h
   ·split at h
    ·cases h
    ·split at h
     ·cases h
     ·rw[Yb h];exact Mq _
   ·cases h
  ·split at h
   ·split at h
    ·rw[Yb h];exact Mq _
    ·cases h
   ·split at h
    ·split at h
     ·split at h
      ·split at h
       ·cases h;exact Nu _ _ _
       ·cases h
      ·cases h
     ·cases h
    ·cases h
theorem Nc{x:List Rl}{roots:List Rq}:∀{l:List Nf} {d d' : List (List Tm)},(∀t∈d,K5 t)→Dr x roots l d=some d'→∀t∈d',K5 t
 | [],d,d',hd,h=>by cases h;exact hd
 |i::l,d,d',hd,h=>by
  unfold Dr at h;split at h
  ·cases h
  ·rename_i o ho;refine Nc (fun t ht=>?_) h;rcases A5.1 ht with ht | ht
   ·exact hd t ht
   ·rw[Au.1 ht];exact XR ho
-- tampering
end Go.Eng
