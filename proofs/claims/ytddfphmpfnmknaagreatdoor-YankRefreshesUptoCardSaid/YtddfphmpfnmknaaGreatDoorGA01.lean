/- Lemmas for the claims of this seat, without a condition: part 1 (P1, P2, P3, P4, P5, P6, P7). -/
import Derived.Test.YtddfphmpfnmknaaGreatDoorGA00
namespace Go.Eng
variable {a b:ByteArray}{lo:Option ByteArray}{α:Type}(c:UInt8)(p:ByteArray)
def BS(p:Int)(s:Int×Int):Bool:=decide (s.1≤p)&&decide (p<s.2)
def has(s:List (Int×Int))(p:Int):Bool:=decide (0≤p)&&decide (p<1000000)&&s.any (BS p)
abbrev Bb:=List (Int×Int)
def Fc(lo:Int):Bb→Prop
 | []=>True
 |y::r=>lo≤y.1∧y.1<y.2∧y.2≤1000000∧Fc (y.2+1) r
abbrev E2(l:Bb):Prop:=Fc 0 l
def XM(x:Int×Int):Bb→Bb
 | []=>[x]
 |y::r=>if x.2<y.1 then x::y::r else if y.2<x.1 then y::XM x r else XM (min x.1 y.1,max x.2 y.2) r
def Et(x:Int×Int):Int×Int:=(max x.1 0,min x.2 1000000)
def canon:Bb→Bb
 | []=>[]
 |x::r=>if(Et x).1<(Et x).2 then XM (Et x) (canon r)else canon r
def LX(at_:Int):Bb→Bb
 | []=>if at_<1000000 then [(at_,1000000)]else []
 |y::r=>if at_<y.1 then(at_,y.1)::LX y.2 r else LX y.2 r
def EJ(s:Bb):Bb:=LX 0 (canon s)
def Sa(l:List Bb):Bb:=canon l.flatten
def Rw(l:List Bb):Bb:=EJ (l.map EJ).flatten
def QO(a b:Bb):Bb:=Sa [a,b]
def Qj(a b:Bb):Bb:=Rw [a,b]
theorem Fc.mono{lo It : Int}:∀{l:Bb},Fc lo l→It≤lo→Fc It l
 | [],_,_=>trivial
 |_::_,⟨h1,h2,h3,h4⟩,h=>⟨Int.le_trans h h1,h2,h3,h4⟩
theorem Fc.low{lo:Int}:∀{l:Bb},Fc lo l→∀y∈l,lo≤y.1∧y.1<y.2∧y.2≤1000000
 |y::r,⟨h1,h2,h3,h4⟩,z,hz=>by
  rcases AF.1 hz with rfl | hz
  ·exact⟨h1,h2,h3⟩
  ·have:=h4.low z hz
   exact⟨by omega,this.2.1,this.2.2⟩
theorem DY{p:Int}{s:Int×Int}:BS p s=true↔s.1≤p∧p<s.2:=by simp[BS]
theorem Nv{lo:Int}{l:Bb}(h:Fc lo l){p:Int}(hp:l.any (BS p)=true):lo≤p:=by
 obtain⟨y,hy,h2⟩:=A5.1 hp
 have:=h.low y hy
 have:=DY.1 h2
 omega
theorem jq{lo:Int}{l:Bb}(h:Fc lo l){p:Int}(hp:l.any (BS p)=true):p<1000000:=by
 obtain⟨y,hy,h2⟩:=A5.1 hp
 have:=h.low y hy
 have:=DY.1 h2
 omega
theorem Oy:∀(l:Bb) {lo:Int} {x:Int×Int},Fc lo l→lo≤x.1→x.1<x.2→x.2≤1000000→Fc lo (XM x l)
 | [],lo,x,_,h1,h2,h3=>⟨h1,h2,h3,trivial⟩
 |y::r,lo,x,⟨g1,g2,g3,g4⟩,h1,h2,h3=>by
  unfold XM;split
  ·exact⟨h1,h2,h3,by omega,g2,g3,g4⟩
  ·split
   ·exact⟨g1,g2,g3,Oy r g4 ch h2 h3⟩
   ·refine Oy r (g4.mono ch) ?_ ?_ ?_<;>dsimp only<;>omega
theorem Pw:∀(l:Bb) {lo:Int} {x:Int×Int} (p:Int),Fc lo l→x.1<x.2→(XM x l).any (BS p)=(BS p x||l.any (BS p))
 | [],lo,x,p,_,_=>by simp[XM]
 |y::r,lo,x,p,⟨g1,g2,g3,g4⟩,h2=>by
  unfold XM;split
  ·simp
  ·split
   ·rw[BX,Pw r p g4 h2,BX,←Bool.or_assoc,←Bool.or_assoc,Bool.or_comm (BS p y)]
   ·rw[Pw r p g4 (by dsimp only;omega),BX,←Bool.or_assoc]
    congr 1
    simp only[BS];rw[B2];simp only[Ai,Cq,Az];omega
theorem Cs:∀s:Bb,E2 (canon s)
 | []=>trivial
 |x::r=>by
  unfold canon;split
  ·rename_i h;refine Oy _ (Cs r) ?_ h ?_<;>simp only[Et]<;>omega
  ·exact Cs r
theorem Lp:∀(s:Bb) (p:Int),(canon s).any (BS p)=has s p
 | [],p=>by simp[has,canon]
 |x::r,p=>by
  have ih:=Lp r p;unfold canon;have hx:BS p (Et x)=(decide (0≤p)&&decide (p<1000000)&&BS p x):=by
   simp only[BS,Et];rw[B2];simp only[Ai,Az,Int.max_le,Int.lt_min];omega
  split
  ·rename_i h;rw[Pw _ p (Cs r) h,ih,hx];simp only[has,BX];cases decide (0≤p)<;>cases decide (p<1000000)<;>simp
  ·rename_i h;rw[ih];simp only[has,BX]
   have:BS p (Et x)=false:=by
    rw[AI];intro h3
    have:=DY.1 h3
    omega
   rw[this]at hx;cases h1:decide (0≤p)<;>cases h2:decide (p<1000000)<;>simp_all
theorem In{l:Bb}(h:E2 l)(p:Int):has l p=l.any (BS p):=by
 unfold has;cases e:l.any (BS p)with
 |false=>simp
 |true=>have h1:0≤p:=Nv h e;have h2:=jq h e;simp[h1,h2]
theorem HS(s:Bb)(p:Int):has (canon s) p=has s p:=by
 rw[In (Cs s),Lp]
theorem N8:∀{a b:Bb} {lo:Int},Fc lo a→Fc lo b→(∀p,a.any (BS p)=b.any (BS p))→a=b
 | [],[],_,_,_,_=>rfl
 | [],z::s,_,_,⟨g1,g2,g3,g4⟩,h=>by
  have:=h z.1
  rw[BX,DY.2 ⟨BK _,g2⟩]at this;simp at this
 |y::r,[],_,⟨g1,g2,g3,g4⟩,_,h=>by
  have:=h y.1
  rw[BX,DY.2 ⟨BK _,g2⟩]at this;simp at this
 |y::r,z::s,lo,⟨f1,f2,f3,f4⟩,⟨g1,g2,g3,g4⟩,h=>by
  have below:∀{x:Int×Int} {t:Bb} {p:Int},Fc (x.2+1) t→(x::t).any (BS p)=true→p≤x.2→x.1≤p∧p<x.2:=fun {x t p} ht hp HD=>by
   rw[BX,Cq]at hp;rcases hp with hp | hp
   ·exact DY.1 hp
   ·have:=Nv ht hp;omega
  have low:∀{x:Int×Int} {t:Bb} {p:Int},x.1<x.2→Fc (x.2+1) t→(x::t).any (BS p)=true→x.1≤p:=fun {x t p} hx ht hp=>by
   rw[BX,Cq]at hp;rcases hp with hp | hp
   ·exact(DY.1 hp).1
   ·have:=Nv ht hp;omega
  have cov:∀{x:Int×Int} {t:Bb} {p:Int},x.1≤p→p<x.2→(x::t).any (BS p)=true:=fun {x t p} h1 h2=>by
   rw[BX,DY.2 ⟨h1,h2⟩,Bool.true_or]
  have e1:y.1=z.1:=by
   have a1:=low f2 f4 ((h z.1).trans (cov (BK _) g2));have a2:=low g2 g4 ((h y.1).symm.trans (cov (BK _) f2));omega
  have e2:y.2=z.2:=by
   rcases Int.lt_trichotomy y.2 z.2 with hl | he | hl
   ·have:=below f4 ((h y.2).trans (cov ch hl)) (BK _);omega
   ·exact he
   ·have:=below g4 ((h z.2).symm.trans (cov ch hl)) (BK _);omega
  have e:y=z:=Prod.ext e1 e2;subst e
  congr 1
  refine N8 f4 g4 fun p=>?_;have hp:=h p;simp only[BX]at hp;cases hs:BS p y with
  |false=>rw[hs,J7,J7]at hp;exact hp
  |true =>
   have:=DY.1 hs
   have n:∀{t:Bb},Fc (y.2+1) t→t.any (BS p)=false:=fun {t} ht=>by
    rw[AI];intro hx;have:=Nv ht hx;omega
   rw[n f4,n g4]
theorem Ig{a b:Bb}(ha:E2 a)(hb:E2 b)(h:∀p,has a p=has b p):a=b :=
 N8 ha hb fun p=>by rw[←In ha,←In hb,h]
theorem T4{a s:Bb}(ha:E2 a)(h:∀p,has a p=has s p):a=canon s :=
 Ig ha (Cs s) fun p=>by rw[h,HS]
theorem Kb{a:Bb}(ha:E2 a):canon a=a:=(T4 ha fun _=>rfl).symm
theorem M2{s:Bb}{p:Int}(h:has s p=true):0≤p∧p<1000000:=by
 unfold has at h;simp only[Ai,Az]at h;exact h.1
def MG(p:Int):Bool:=decide (0≤p)&&decide (p<1000000)
theorem LY:∀(l:Bb) {at_ lo:Int},0≤at_→Fc lo l→lo≤at_+1→at_≤lo→Fc at_ (LX at_ l)∧∀p,(LX at_ l).any (BS p)=(decide (at_≤p)&&decide (p<1000000)&&!l.any (BS p))
 | [],at_,lo,h0,_,h1,h2=>by
  unfold LX;split
  ·exact⟨⟨BK _,by dsimp only;omega,BK _,trivial⟩,fun p=>by simp[BS]⟩
  ·refine⟨trivial,fun p=>?_⟩
   have:(decide (at_≤p)&&decide (p<1000000))=false:=by
    rw[AI];simp only[W9,Ai,Az];omega
   simp[this]
 |y::r,at_,lo,h0,⟨g1,g2,g3,g4⟩,h1,h2=>by
  have ih:=LY r (at_:=y.2) ch g4 (BK _) ch;have key:∀p,(decide (at_≤p)&&decide (p<y.1)||(LX y.2 r).any (BS p))=(decide (at_≤p)&&decide (p<1000000)&&!(y::r).any (BS p)):=fun p=>by
   rw[ih.2,BX];cases hr:r.any (BS p)with
   |true =>
    have:=Nv g4 hr
    have a:decide (p<y.1)=false:=Ap ch;simp[a]
   |false =>
    rw[B2];simp only[BS,Ai,Cq,Az,Dd,SW,Bool.and_eq_false_iff,KG,Bool.not_false,and_true];omega
  unfold LX;split
  ·rename_i h;refine⟨⟨BK _,h,by dsimp only;omega,ih.1 |> fun c=>?_⟩,fun p=>?_⟩
   ·dsimp only;cases e:LX y.2 r with
    |nil=>trivial
    |cons z s =>
     rw[e]at c;exact⟨by have:=c.1;omega,c.2⟩
   ·rw[BX,←key];rfl
  ·rename_i h;refine⟨ih.1.mono ch,fun p=>?_⟩;rw[←key]
   have:(decide (at_≤p)&&decide (p<y.1))=false:=by
    rw[AI];simp only[W9,Ai,Az];omega
   rw[this,J7]
theorem HP(s:Bb):E2 (EJ s):=by
 unfold EJ;exact(LY _ (BK _) (Cs s) ch (BK _)).1
theorem Ga(s:Bb)(p:Int):has (EJ s) p=(MG p&&!has s p):=by
 rw[In (HP s)];unfold EJ;rw[(LY _ (BK _) (Cs s) ch (BK _)).2,Lp];rfl
theorem ce(a b:Bb)(p:Int):has (a++b) p=(has a p||has b p):=by
 simp only[has,GR];cases decide (0≤p)<;>cases decide (p<1000000)<;>simp
theorem M1:∀(l:List Bb) (p:Int),has l.flatten p=l.any fun s=>has s p
 | [],p=>by simp[has]
 |s::l,p=>by rw[Bm,ce,M1 l p,BX]
theorem Ux(l:List Bb)(p:Int):has (Sa l) p=l.any fun s=>has s p:=by
 unfold Sa;rw[HS,M1]
theorem YH(l:List Bb):E2 (Sa l):=Cs _
theorem Yn(l:List Bb):E2 (Rw l):=HP _
theorem Uw(l:List Bb)(p:Int):has (Rw l) p=(MG p&&l.all fun s=>has s p):=by
 unfold Rw;rw[Ga,M1,List.any_map];cases h:MG p with
 |false=>rfl
 |true =>
  rw[EB,EB,List.not_any_eq_all_not]
  congr 1
  funext s
  simp[Ga,h]
theorem bj(a b:Bb):E2 (QO a b):=Cs _
theorem SB(a b:Bb):E2 (Qj a b):=HP _
theorem gw(a b:Bb)(p:Int):has (QO a b) p=(has a p||has b p):=by
 unfold QO;rw[Ux];simp
theorem WN(a b:Bb)(p:Int):has (Qj a b) p=(has a p&&has b p):=by
 unfold Qj;rw[Uw];simp only[List.all_cons,List.all_nil,Bool.and_true];cases h:has a p with
 |false=>simp
 |true=>have:=M2 h;simp[MG,this]
theorem ct(s:Bb):Qj s s=canon s:=Ig (SB _ _) (Cs _) fun p=>by rw[WN,HS,Bool.and_self]
theorem VR{s:Bb}:canon s=[]↔∀p,has s p=false:=by
 constructor
 ·intro h p;rw[←HS,h];simp[has]
 ·intro h;exact Ig (Cs s) (b:=[]) trivial fun p=>by rw[HS,h p];simp[has]
theorem RF{s:Bb}(hs:E2 s):s=[]↔∀p,has s p=false:=by
 rw[←VR,Kb hs]
def iV(l:List Bb)(p:Int):Nat:=l.countP fun s=>has s p
theorem T3:∀{l:Bb} {lo:Int},Fc lo l→lo≤1000000→(l.length:Int)≤1000000-lo
 | [],lo,_,h=>by simp;omega
 |y::r,lo,⟨g1,g2,g3,g4⟩,h=>by
  by_cases h3:y.2+1≤1000000
  ·have:=T3 g4 h3
   simp only[Av];omega
  ·cases r with
   |nil=>simp;omega
   |cons z s=>have:=g4.1;have:=g4.2.1;have:=g4.2.2.1;omega
theorem IT{l:Bb}(h:E2 l):l.length≤1000000:=by have:=T3 h ch;omega
structure Ver where
 (a b c:Int)
variable (v:Ver)
structure Rq where
 path:ByteArray
 set:List (Int×Int)
variable {roots:List Rq}(q:Rq)
structure Rl where
 path:ByteArray
 ver:Ver
 reqs:List Rq
 (arch ifc cert:ByteArray)
 yanked:Bool
variable (x:List Rl)(r:Rl)
structure Sl where
 path:ByteArray
 ver:Ver
variable {s:List Sl}{y:Sl}
structure Tm where
 path:ByteArray
 absent:Bool
 set:List (Int×Int)
variable {d:List (List Tm)}(l:List Tm)(u t:Tm)
structure Nf where
 kind:Int
 path:ByteArray
 (place number left right:Int)
variable {i:Nf}
structure Sk where
 path:ByteArray
 (place inf:Int)
structure An where
 found:Bool
 sel:List Sl
 infs:List Nf
 skips:List Sk
instance:DecidableEq Ver:=fun x y=>decidable_of_iff (x.a=y.a∧x.b=y.b∧x.c=y.c) ⟨fun⟨h1,h2,h3⟩=>by cases x;cases y;simp_all,fun h=>by subst h;exact⟨rfl,rfl,rfl⟩⟩
instance:DecidableEq Sl:=fun x y=>decidable_of_iff (x.path=y.path∧x.ver=y.ver) ⟨fun⟨h1,h2⟩=>by cases x;cases y;simp_all,fun h=>by subst h;exact⟨rfl,rfl⟩⟩
theorem tf{x y:Tm}(h1:x.path=y.path)(h2:x.absent=y.absent)(h3:x.set=y.set):x=y:=by cases x;cases y;simp_all
def okPart(n:Int):Prop:=0≤n∧n≤999
instance (n:Int):Decidable (okPart n):=by unfold okPart;infer_instance
def Cj:Bool:=decide (okPart v.a)&&decide (okPart v.b)&&decide (okPart v.c)
def place:Int:=1000*v.b+v.c
def plc:Int:=if Cj v then place v else 0
def te:Sl:=⟨⟨#[]⟩,⟨0,0,0⟩⟩
def Bv(s:List Sl)(p:ByteArray):Option Sl:=s.find? fun x=>decide (x.path=p)
def Hi(s:List Sl):Bool :=
 match s.find? (fun x=>decide (x.path=t.path))with
 |none=>t.absent
 |some x=>Cj x.ver&&has t.set (place x.ver)
def CA(s:List Sl)(p:ByteArray):Bool:=s.any fun x=>decide (x.path=p)
def Bh(s:List Sl):Bool:=l.all fun t=>Hi t s
def CQ(s:List Sl):Bool:=Bh l s&&!l.any fun t=>!CA s t.path
def IY:List UInt8→List UInt8→Bool
 | [],[]=>false
 | [],_::_=>true
 |_::_,[]=>false
 |a::x,b::y=>decide (a<b)||(decide (a=b)&&IY x y)
def DL(a b:ByteArray):Bool:=IY a.data.toList b.data.toList
theorem SE:∀x,IY x x=false
 | []=>rfl
 |a::x=>by
  unfold IY;simp[SE x]
theorem OU:∀{x y z},IY x y=true→IY y z=true→IY x z=true
 | [],[],_,h,_=>by simp[IY]at h
 | [],_::_,[],_,h=>by simp[IY]at h
 | [],_::_,_::_,_,_=>rfl
 |_::_,[],_,h,_=>by simp[IY]at h
 |_::_,_::_,[],_,h=>by simp[IY]at h
 |a::x,b::y,c::z,h1,h2=>by
  unfold IY at *
  simp only[Cq,Ai,Az]at *
  rcases h1 with h1 | ⟨rfl,h1⟩
  ·rcases h2 with h2 | ⟨rfl,h2⟩
   ·exact .inl (UInt8.lt_trans h1 h2)
   ·exact .inl h1
  ·rcases h2 with h2 | ⟨rfl,h2⟩
   ·exact .inl h2
   ·exact .inr ⟨rfl,OU h1 h2⟩
theorem US:∀{x y},IY x y=false→IY y x=false→x=y
 | [],[],_,_=>rfl
 | [],_::_,h,_=>by simp[IY]at h
 |_::_,[],_,h=>by simp[IY]at h
 |a::x,b::y,h1,h2=>by
  unfold IY at *
  simp only[Bool.or_eq_false_iff,Bool.and_eq_false_iff,KG]at *
  have e:a=b:=by
   have l1:=UInt8.not_lt.1 h1.1;have l2:=UInt8.not_lt.1 h2.1;exact UInt8.le_antisymm l2 l1
  subst e
  have:=US (x:=x) (y:=y) (by simpa using h1.2) (by simpa using h2.2)
  rw[this]
theorem yS(h:a.data.toList=b.data.toList):a=b:=by
 cases a;cases b;simp only[ByteArray.mk.injEq];exact Jt.1 h
theorem CO(a:ByteArray):DL a a=false:=SE _
theorem DQ{c:ByteArray}(h:DL a b=true)(k:DL b c=true):DL a c=true:=OU h k
theorem G6(h:DL a b=false)(k:DL b a=false):a=b:=yS (US h k)
theorem IS(h:DL a b=true):a≠b:=fun e=>by subst e;rw[CO]at h;cases h
theorem Lo(h:DL a b=true):DL b a=false:=by
 rw[AI];intro k;have:=DQ h k;rw[CO]at this;cases this
def Mn:Tm:=⟨t.path,t.absent,canon t.set⟩
def Hr:Tm:=⟨u.path,u.absent&&t.absent,Qj u.set t.set⟩
def OS(t:Tm):List Tm→List Tm
 | []=>[Mn t]
 |u::r=>if DL u.path t.path then u::OS t r else if u.path=t.path then Hr u t::r else Mn t::u::r
def Fv:List Tm:=l.foldl (fun acc t=>OS t acc) []
def Ix:Bool:=!t.absent&&t.set.isEmpty
def G5:Bool:=t.absent&&decide (t.set=[(0,1000000)])
def Db:Option (List Tm):=if(Fv l).any Ix then none else some ((Fv l).filter fun t=>!G5 t)
def RH:List Tm:=(Db l).getD []
def DS:Tm:=⟨q.path,true,EJ q.set⟩
def Ko:List Tm:=RH [DS q]
def EI(path:ByteArray)(pl:Int)(q:Rq):List Tm:=RH [⟨path,false,[(pl,pl+1)]⟩,DS q]
def IB(path:ByteArray)(uo:Bb):List Tm:=RH [⟨path,false,EJ uo⟩]
def Dz(p:ByteArray):Option Tm:=l.find? fun t=>decide (t.path=p)
def Gf(p:ByteArray):List Tm:=l.filter fun t=>!decide (t.path=p)
def Dw(a b:Tm):Tm:=⟨a.path,a.absent||b.absent,QO a.set b.set⟩
def FS(p:ByteArray):Option (Tm×List Tm):=match Db l with
 |none=>none
 |some c=>match Dz c p with
  |none=>none
  |some t=>some (t,Gf c p)
def BO(a b:List Tm)(p:ByteArray):List Tm×Int :=
 match FS a p,FS b p with
 |some (t,r),some (u,m)=>match Db (r++m++[Dw t u])with
  |some o=>(o,0)
  |none=>([],8)
 |_,_=>([],1)
def Ch(lo:Option ByteArray):List Tm→Prop
 | []=>True
 |t::r=>(∀p,lo=some p→DL p t.path=true)∧E2 t.set∧Ch (some t.path) r
theorem Ch.weak:∀{l:List Tm},Ch lo l→Ch none l
 | [],_=>trivial
 |_::_,⟨_,h2,h3⟩=>⟨fun _ h=>(by cases h),h2,h3⟩
theorem Ch.low{p:ByteArray}:∀{l:List Tm},Ch (some p) l→∀t∈l,DL p t.path=true
 |t::r,⟨h1,h2,h3⟩,u,hu=>by
  rcases AF.1 hu with rfl | hu
  ·exact h1 p rfl
  ·exact DQ (h1 p rfl) (h3.low u hu)
theorem Ch.canon{lo:Option ByteArray}:∀{l:List Tm},Ch lo l→∀t∈l,E2 t.set
 |t::r,⟨h1,h2,h3⟩,u,hu=>by
  rcases AF.1 hu with rfl | hu
  ·exact h2
  ·exact h3.canon u hu
theorem Ch.mono{p q:ByteArray}:∀{l:List Tm},Ch (some p) l→DL q p=true→Ch (some q) l
 | [],_,_=>trivial
 |t::r,⟨h1,h2,h3⟩,h=>⟨fun _ e=>by cases e;exact DQ h (h1 p rfl),h2,h3⟩
theorem M8:∀{l:List Tm} {lo:Option ByteArray} (t:Tm),Ch lo l→(∀p,lo=some p→DL p t.path=true)→Ch lo (OS t l)
 | [],lo,t,_,h=>⟨h,Cs _,trivial⟩
 |u::r,lo,t,⟨h1,h2,h3⟩,h=>by
  unfold OS;split
  ·rename_i DJ;exact⟨h1,h2,M8 t h3 fun p e=>by cases e;exact DJ⟩
  ·rename_i DJ;split
   ·rename_i he;exact⟨h1,SB _ _,h3⟩
   ·rename_i he;refine⟨h,Cs _,fun p e=>?_,h2,h3⟩;cases e
    have:DL u.path t.path=false:=by simpa using DJ
    cases hb:DL t.path u.path with
    |true=>exact hb
    |false=>exact absurd (G6 this hb) he
theorem PY:∀(l acc:List Tm),Ch none acc→Ch none (l.foldl (fun acc t=>OS t acc) acc)
 | [],_,h=>h
 |t::l,acc,h=>PY l _ (M8 t h fun _ e=>by cases e)
theorem EN:Ch none (Fv l):=PY l [] trivial
theorem CZ(r:List Tm)(p:ByteArray):Dz (t::r) p=if t.path=p then some t else Dz r p:=by
 unfold Dz;rw[ED];by_cases h:t.path=p<;>simp[h]
theorem Ij{p q:ByteArray}{l:List Tm}(h:Ch (some p) l)(hq:DL p q=false):Dz l q=none:=by
 unfold Dz;rw[DC];intro t ht
 have:=h.low t ht
 simp only[Az];intro e;subst e;rw[hq]at this;cases this
def Pb(o:Option Tm)(t:Tm):Tm:=match o with | none=>Mn t | some u=>Hr u t
theorem RL(o:Option Tm)(t:Tm)(h:∀u,o=some u→u.path=t.path):(Pb o t).path=t.path:=by
 cases o with
 |none=>rfl
 |some u=>exact h u rfl
theorem HC{l:List Tm}{p:ByteArray}{u:Tm}(h:Dz l p=some u):u.path=p:=by
 have:=Fg h;simpa using this
theorem FG{l:List Tm}{p:ByteArray}{u:Tm}(h:Dz l p=some u):u∈l:=Cw h
theorem Uo:∀{l:List Tm} {lo:Option ByteArray} (t:Tm) (p:ByteArray),Ch lo l→Dz (OS t l) p=if t.path=p then some (Pb (Dz l p) t)else Dz l p
 | [],lo,t,p,_=>by
  unfold OS;rw[CZ];show(if t.path=p then some (Mn t)else none)=_
  by_cases h:t.path=p<;>simp[h,Dz,Pb]
 |u::r,lo,t,p,⟨h1,h2,h3⟩=>by
  unfold OS;split
  ·rename_i DJ;rw[CZ,CZ,Uo t p h3]
   by_cases hu:u.path=p
   ·have:¬t.path=p:=fun e=>IS DJ (hu.trans e.symm)
    simp[hu,this]
   ·simp[hu]
  ·rename_i DJ;split
   ·rename_i he;rw[CZ,CZ];show(if u.path=p then some (Hr u t)else _)=_
    by_cases hu:u.path=p
    ·simp[hu,he▸hu,Pb]
    ·have:¬t.path=p:=fun e=>hu (he.trans e)
     simp[hu,this]
   ·rename_i he;rw[CZ];show(if t.path=p then some (Mn t)else _)=_
    by_cases ht:t.path=p
    ·have hn:Dz (u::r) p=none:=by
      rw[CZ];have hu:¬u.path=p:=fun e=>he (e.trans ht.symm);simp only[hu,GZ];exact Ij h3 (by subst ht;simpa using DJ)
     simp[ht,hn,Pb]
    ·simp[ht]
def KR(o:Option Tm)(t:Tm):Option Tm:=if t.path=p then some (Pb o t)else o
theorem Su(p:ByteArray):∀(l acc:List Tm),Ch none acc→Dz (l.foldl (fun acc t=>OS t acc) acc) p=l.foldl (KR p) (Dz acc p)
 | [],_,_=>rfl
 |t::l,acc,h=>by
  rw[EE,Su p l _ (M8 t h fun _ e=>by cases e),Uo t p h];rfl
theorem JS(p:ByteArray):Dz (Fv l) p=l.foldl (KR p) none:=Su p l [] trivial
theorem Nt:∀{a b:List Tm} {lo:Option ByteArray},Ch lo a→Ch lo b→(∀p,Dz a p=Dz b p)→a=b
 | [],[],_,_,_,_=>rfl
 | [],z::s,_,_,_,h=>by have:=h z.path;rw[CZ,Al rfl]at this;cases this
 |z::s,[],_,_,_,h=>by have:=h z.path;rw[CZ,Al rfl]at this;cases this
 |y::r,z::s,lo,⟨f1,f2,f3⟩,⟨g1,g2,g3⟩,h=>by
  have e:y=z:=by
   have a1:=h y.path;have a2:=h z.path;rw[CZ,Al rfl,CZ]at a1;rw[CZ,CZ z,Al rfl]at a2
   by_cases e:z.path=y.path
   ·rw[Al e]at a1;exact Cr a1
   ·rw[Ae e]at a1;rw[Ae (fun c=>e c.symm)]at a2;have b1:=Ch.low g3 y (FG a1.symm);have b2:=Ch.low f3 z (FG a2)
    have:=DQ b1 b2
    rw[CO]at this;cases this
  subst e
  congr 1
  refine Nt f3 g3 fun p=>?_;have hp:=h p;rw[CZ,CZ]at hp
  by_cases e:y.path=p
  ·subst e;rw[Ij f3 (CO _),Ij g3 (CO _)]
  ·simpa[e]using hp
theorem Ch.filter(q:Tm→Bool):∀{l:List Tm} {lo:Option ByteArray},Ch lo l→Ch lo (l.filter q)
 | [],_,_=>trivial
 |t::r,lo,⟨h1,h2,h3⟩=>by
  have ih:=Ch.filter q h3;rw[CE];split
  ·exact⟨h1,h2,ih⟩
  ·cases lo with
   |none=>exact ih.weak
   |some p=>exact ih.mono (h1 p rfl)
theorem F9{l:List Tm}{t:Tm}(h:Ch lo l):t∈l↔Dz l t.path=some t:=by
 constructor
 ·induction l generalizing lo with
  |nil=>intro h;cases h
  |cons u r ih =>
   intro ht;rw[CZ];rcases AF.1 ht with rfl | ht
   ·rw[Al rfl]
   ·have:=Ch.low h.2.2 t ht
    rw[Ae (IS this)];exact ih h.2.2 ht
 ·exact FG
def Dy(o:Option Sl):Bool:=match o with | none=>t.absent | some x=>Cj x.ver&&has t.set (place x.ver)
theorem kP(s:List Sl):Hi t s=Dy t (Bv s t.path):=by
 unfold Hi Dy Bv;rfl
theorem MW{p:ByteArray}{x:Sl}(h:Bv s p=some x):x.path=p:=by
 have:=Fg h;simpa using this
theorem Kd{p:ByteArray}{x:Sl}(h:Bv s p=some x):x∈s:=Cw h
theorem KJ{p:ByteArray}:CA s p=(Bv s p).isSome:=by
 unfold CA Bv;rw[B2,List.find?_isSome,A5]
theorem cn(o:Option Sl):Dy (Mn t) o=Dy t o:=by
 unfold Dy Mn;cases o<;>simp[HS]
theorem ZR(o:Option Sl):Dy (Hr u t) o=(Dy u o&&Dy t o):=by
 unfold Dy Hr;cases o with
 |none=>rfl
 |some x=>simp only[WN];cases Cj x.ver<;>simp
theorem Oi(o:Option Sl):Dy (Dw u t) o=(Dy u o||Dy t o):=by
 unfold Dy Dw;cases o with
 |none=>rfl
 |some x=>simp only[gw];cases Cj x.ver<;>simp
def VM(o:Option Sl)(l:List Tm):Bool:=l.all fun t=>!decide (t.path=p)||Dy t o
theorem KI(p:ByteArray)(o:Option Sl):∀(l:List Tm) (a:Option Tm),(∀u,a=some u→u.path=p) →
  (l.foldl (KR p) a=none↔a=none∧l.all (fun t=>!decide (t.path=p))=true)∧(∀u,l.foldl (KR p) a=some u→u.path=p∧Dy u o=((match a with | none=>true | some b=>Dy b o)&&VM p o l))
 | [],a,ha=>by
  refine⟨by simp,fun u h=>?_⟩;have h:a=some u:=h;subst h;exact⟨ha u rfl,by simp[VM]⟩
 |t::l,a,ha=>by
  rw[EE]
  by_cases e:t.path=p
  ·have hs:KR p a t=some (Pb a t):=by unfold KR;rw[Al e]
   rw[hs];have ih:=KI p o l (some (Pb a t)) (fun u h=>by cases h;rw[RL a t fun u h=>(ha u h).trans e.symm];exact e);refine⟨⟨fun h=>?_,fun h=>?_⟩,fun u h=>?_⟩
   ·have:=ih.1.1 h;cases this.1
   ·simp[e]at h
   ·obtain⟨h1,h2⟩:=ih.2 u h;refine⟨h1,?_⟩;rw[h2]
    have:VM p o (t::l)=(Dy t o&&VM p o l):=by simp[VM,e]
    rw[this];cases a with
    |none=>simp[Pb,cn]
    |some b=>simp[Pb,ZR,Bool.and_assoc]
  ·have hs:KR p a t=a:=by unfold KR;rw[Ae e]
   rw[hs];have ih:=KI p o l a ha
   have:VM p o (t::l)=VM p o l:=by simp[VM,e]
   rw[this];refine⟨?_,ih.2⟩;rw[ih.1];simp[e]
theorem BI{l:List Tm}:Bh l s=true↔∀t∈l,Dy t (Bv s t.path)=true:=by
 unfold Bh;rw[AZ];simp only[kP]
theorem MA(s:List Sl):Bh (Fv l) s=Bh l s:=by
 rw[B2,BI,BI];constructor
 ·intro h t ht
  have:=KI t.path (Bv s t.path) l none (fun _ e=>by cases e)
  rw[←JS]at this;cases e:Dz (Fv l) t.path with
  |none =>
   have:=(this.1.1 e).2
   rw[AZ]at this
   have:=this t ht
   simp at this
  |some u =>
   obtain⟨h1,h2⟩:=this.2 u e;have hu:=h u (FG e);rw[h1,h2]at hu;simp only[EB,VM,AZ]at hu
   have:=hu t ht
   simpa using this
 ·intro h u hu;have e:=(F9 (EN l)).1 hu
  have:=KI u.path (Bv s u.path) l none (fun _ e=>by cases e)
  rw[←JS]at this;obtain⟨h1,h2⟩:=this.2 u e;rw[h2];simp only[EB,VM,AZ];intro t ht
  by_cases e:t.path=u.path
  ·have:=h t ht;rw[e]at this;simp[this]
  ·simp[e]
theorem cK{t:Tm}(h:Ix t=true)(o:Option Sl):Dy t o=false:=by
 unfold Ix at h;simp only[Ai,Dd,Gp]at h;unfold Dy;cases o with
 |none=>exact h.1
 |some x=>dsimp only;rw[h.2];simp[has]
def GG(s:List Sl):Prop:=∀x∈s,Cj x.ver=true
theorem Js{v:Ver}(h:Cj v=true):0≤v.a∧v.a≤999∧0≤v.b∧v.b≤999∧0≤v.c∧v.c≤999:=by
 unfold Cj at h;simp only[Ai]at h;obtain⟨⟨a,b⟩,c⟩:=h;obtain⟨a1,a2⟩:=A4 a;obtain⟨b1,b2⟩:=A4 b;obtain⟨c1,c2⟩:=A4 c;exact⟨a1,a2,b1,b2,c1,c2⟩
theorem Kn{v:Ver}(h:Cj v=true):0≤place v∧place v<1000000:=by
 have:=Js h;unfold place;omega
theorem VN{t:Tm}(h:G5 t=true)(hs:GG s):Dy t (Bv s t.path)=true:=by
 unfold G5 at h;simp only[Ai,Az]at h;unfold Dy;cases e:Bv s t.path with
 |none=>exact h.1
 |some x =>
  have:=hs x (Kd e)
  have hp:=Kn this;dsimp only;rw[this,h.2];simp[has,BS,hp]
theorem Dk{l:List Tm}(hs:GG s):Bh l s=(match Db l with | none=>false | some c=>Bh c s):=by
 unfold Db;split
 ·rename_i h;split at h
  ·rename_i hn;rw[←MA,AI];intro hv;rw[BI]at hv;obtain⟨t,ht,hn⟩:=A5.1 hn
   have:=hv t ht
   rw[cK hn]at this;cases this
  ·cases h
 ·rename_i c h;split at h
  ·cases h
  ·rename_i hn;cases h;rw[←MA,B2,BI,BI];constructor
   ·intro h t ht;exact h t (BM.1 ht).1
   ·intro h t ht;cases ha:G5 t with
    |true=>exact VN ha hs
    |false=>exact h t (BM.2 ⟨ht,by simp[ha]⟩)
theorem Hy(a b:List Tm)(s:List Sl):Bh (a++b) s=(Bh a s&&Bh b s):=by unfold Bh;rw[List.all_append]
theorem Fk{l c:List Tm}(h:Db l=some c):Ch none c:=by
 unfold Db at h;split at h
 ·cases h
 ·cases h;exact Ch.filter _ (EN l)
theorem Gd{l r:List Tm}{p:ByteArray}{t:Tm}(hs:GG s)(h:FS l p=some (t,r)):Bh l s=(Dy t (Bv s p)&&Bh r s)∧t.path=p:=by
 unfold FS at h;cases hc:Db l with
 |none=>rw[hc]at h;cases h
 |some c =>
  rw[hc]at h;dsimp only at h;cases hf:Dz c p with
  |none=>rw[hf]at h;cases h
  |some u =>
   rw[hf]at h;cases h;have hp:=HC hf;refine⟨?_,hp⟩;rw[Dk hs,hc];dsimp only;rw[B2,Ai,BI,BI];constructor
   ·intro h
    have:=h t (FG hf)
    rw[hp]at this;exact⟨this,fun v hv=>h v (BM.1 hv).1⟩
   ·intro⟨h1,h2⟩ v hv
    by_cases e:v.path=p
    ·have:=(F9 (Fk hc)).1 hv
     rw[e,hf]at this;cases this;rw[e];exact h1
    ·exact h2 v (BM.2 ⟨hv,by simp[e]⟩)
theorem Vk{a b o:List Tm}{p:ByteArray}(hs:GG s)(h:BO a b p=(o,0))(hv:Bh o s=true):Bh a s=true∨Bh b s=true:=by
 unfold BO at h;cases h1:FS a p with
 |none=>rw[h1]at h;simp at h
 |some x =>
  cases h2:FS b p with
  |none=>rw[h1,h2]at h;simp at h
  |some y =>
   obtain⟨t,r⟩:=x;obtain⟨u,m⟩:=y;rw[h1,h2]at h;dsimp only at h;cases hc:Db (r++m++[Dw t u])with
   |none=>rw[hc]at h;simp at h
   |some c =>
    rw[hc]at h
    have:c=o:=by simpa using h
    subst this;have e:=Dk (l:=r++m++[Dw t u]) hs;rw[hc]at e;dsimp only at e;rw[hv,Hy,Hy]at e;simp only[Ai]at e;obtain⟨⟨e1,e2⟩,e3⟩:=e;obtain⟨va,pa⟩:=Gd hs h1;obtain⟨vb,pb⟩:=Gd hs h2;have e3:=BI.1 e3 _ (Ar.2 rfl)
    have:(Dw t u).path=p:=pa
    rw[this,Oi,Cq]at e3;rcases e3 with e3 | e3
    ·exact .inl (by rw[va,e3,e1];rfl)
    ·exact .inr (by rw[vb,e3,e2];rfl)
theorem RI{l:List Tm}(hs:GG s)(DM:RH l≠[]):Bh (RH l) s=Bh l s:=by
 have:=Dk (l:=l) hs
 unfold RH at *
 cases h:Db l with
 |none=>rw[h]at DM;exact absurd rfl DM
 |some c=>rw[h]at this;exact this.symm
-- paths
def EW:Bool:=decide (97≤c)&&decide (c≤122)
def MO:Bool:=decide (65≤c)&&decide (c≤90)
def CM:Bool:=decide (48≤c)&&decide (c≤57)
def Gg:Bool:=EW c||MO c||CM c||decide (c=95)
def cy:List UInt8:=[32,97,110,100,32,97,110,121,32,97,115,32,98,111,111,108,32,100,101,112,114,101,99,97,116,101,100,32,101,108,115,101,32,101,120,112,111,114,116,32,102,97,108,115,101,32,102,110,32,102,111,108,100,32,102,114,111,109,32,105,102,32,105,109,112,111,114,116,32,105,110,32,105,110,116,32,108,101,110,103,116,104,32,108,101,116,32,108,105,115,116,32,109,97,116,99,104,32,109,111,100,117,108,101,32,110,111,110,101,32,110,111,116,32,111,114,32,116,101,120,116,32,116,104,101,110,32,116,114,117,101,32,116,121,112,101,32,117,115,101,32]
def N2:List UInt8→List UInt8→Bool
 | [],_=>true
 |_::_,[]=>false
 |a::x,b::y=>decide (a=b)&&N2 x y
def kY(x:List UInt8):List UInt8→Bool
 | []=>N2 x []
 |b::y=>N2 x (b::y)||kY x y
def Wb(s:List UInt8):Bool:=kY (32::(s++[32])) cy
def GN(s:List UInt8):Bool:=!s.isEmpty&&decide (s.length≤32)&&EW (s.headD 0)&&s.all Gg&&!Wb s
def Hu(s:List UInt8):Bool:=GN s&&s.all fun c=>EW c||CM c
def Ec(s:List UInt8):Int:=s.foldl (fun n c=>10*n+((c.toNat:Int)-48)) 0
def GM(s:List UInt8):Option Int:=match s with
 |c::r=>if c=118 then(if r.isEmpty||decide (3<r.length)||(decide (1<r.length)&&decide (r.headD 0=48))||!r.all CM then none else some (Ec r))else none
 | []=>none
def CT(c:UInt8):List UInt8→List (List UInt8)
 | []=>[[]]
 |b::r=>if b=c then []::CT c r else match CT c r with
  | []=>[[b]]
  |x::l=>(b::x)::l
def RC(p:List UInt8):Option Int:=match GM ((CT 47 p).getLastD [])with
 |none=>none
 |some n=>if 64<p.length||(CT 47 p).length<2 then none else if(CT 47 p).all Hu then some n else none
def Bu:Option Int:=RC p.data.toList
-- indexes
def GK(before:Option ByteArray)(q:Rq):Int :=
 if(Bu q.path).isNone then 4 else if q.set.isEmpty||!decide (q.set=canon q.set)||(match before with | some b=>!DL b q.path | none=>false)then 1 else 0
def Ek(before:Option ByteArray):List Rq→Int
 | []=>0
 |q::r=>if GK before q=0 then Ek (some q.path) r else GK before q
def Bn(l:List Rq):Int:=if 16<l.length then 7 else Ek none l
def D1(s:ByteArray):Bool:=decide (s.size=0)||decide (s.size=32)
def CW:Int:=match Bu r.path with
 |none=>4
 |some m=>if !Cj r.ver||!decide (r.ver.a=m)then 2 else if Bn r.reqs≠0 then Bn r.reqs else if D1 r.arch&&D1 r.ifc&&D1 r.cert then 0 else 1
def Fs(a b:Int):Int:=if a<b then -1 else if b<a then 1 else 0
def Jy(a b:ByteArray):Int:=if DL a b then -1 else if DL b a then 1 else 0
def IU(a b:Ver):Int:=if Fs a.a b.a≠0 then Fs a.a b.a else if Fs a.b b.b≠0 then Fs a.b b.b else Fs a.c b.c
def Dv(a b:Rl):Int:=if Jy a.path b.path≠0 then Jy a.path b.path else IU a.ver b.ver
def Fa:Sl:=⟨r.path,r.ver⟩
def Cp(before:Option Rl):List Rl→Int
 | []=>0
 |r::l=>if CW r≠0 then CW r else match before with
  |none=>Cp (some r) l
  |some b=>if Fa b=Fa r then 5 else if 0<Dv b r then 1 else Cp (some r) l
def AN(l:List Rl):Int:=if 256<l.length then 7 else Cp none l
def CY(y:Sl):Option Rl:=if AN x≠0 then none else x.find? fun r=>decide (Fa r=y)
def K6(p:ByteArray):List Rl:=if AN x≠0 then []else x.filter fun r=>decide (r.path=p)
def Ca(p:ByteArray):Bb:=canon (((K6 x p).filter fun r=>!r.yanked).map fun r=>(plc r.ver,plc r.ver+1))
def M5(before:Option ByteArray):List Sl→Bool
 | []=>true
 |y::r=>(match before with |some b=>DL b y.path |none=>true)&&M5 (some y.path) r
def DG(s:List Sl):Bool:=M5 none s
-- solutions
-- derivations
def QB(p:ByteArray)(pl:Int):Option Rl:=x.find? fun r=>decide (r.path=p)&&decide (plc r.ver=pl)
def mt:ByteArray:=⟨#[]⟩
def Km(l:List α)(i:Int):Option α:=if i<0 then none else l[i.toNat]?
def gX:Option (List Tm):=if l.isEmpty then none else some l
def Eb(roots:List Rq)(d:List (List Tm))(i:Nf):Option (List Tm) :=
 if i.kind=0 then
  if i.path=mt∧i.place=0∧i.left=0∧i.right=0 then(Km roots i.number).map Ko else none
 else if i.kind=1 then
  if i.left=0∧i.right=0 then match QB x i.path i.place with
   |none=>none
   |some r=>match Km r.reqs i.number with
    |none=>none
    |some q=>gX (EI i.path i.place q)
  else none
 else if i.kind=2 then
  if i.place=0∧i.number=0∧i.left=0∧i.right=0 then gX (IB i.path (Ca x i.path))else none
 else if i.kind=3 then
  if i.place=0∧i.number=0 then match Km d i.left,Km d i.right with
   |some a,some b=>if(BO a b i.path).2=0 then some (BO a b i.path).1 else none
   |_,_=>none
  else none
 else none
def Ds(x:List Rl)(roots:List Rq):List Nf→List (List Tm)→Option (List (List Tm))
 | [],d=>some d
 |i::l,d=>match Eb x roots d i with
  |none=>none
  |some t=>Ds x roots l (d++[t])
-- decisions
def CH(before:List Sl):List Rq→Option ByteArray→Option ByteArray
 | [],acc=>acc
 |q::l,acc=>CH before l (if CA before q.path then acc else match acc with
  |none=>some q.path
  |some p=>if DL q.path p then some q.path else some p)
def Iy(needs:List Rq)(before:List Sl):Option ByteArray:=CH before needs none
structure Vis where
 before:List Sl
 needs:List Rq
 rel:Rl
-- answers
-- the example
def bs(l:List UInt8):ByteArray:=⟨⟨l⟩⟩
-- the order of releases
theorem Lq{a b:Int}(h:Fs a b=0):a=b:=by
 unfold Fs at h;split at h
 ·cases h
 ·split at h
  ·cases h
  ·omega
theorem XZ{a b:Int}(h:Fs a b<0):a<b:=by
 unfold Fs at h;split at h
 ·assumption
 ·split at h<;>omega
theorem WD(h:Jy a b=0):a=b:=by
 unfold Jy at h;cases h1:DL a b with
 |true=>rw[h1]at h;simp at h
 |false =>
  cases h2:DL b a with
  |true=>rw[h1,h2]at h;simp at h
  |false=>exact G6 h1 h2
theorem nS(h:Jy a b<0):DL a b=true:=by
 unfold Jy at h;cases h1:DL a b with
 |true=>rfl
 |false=>rw[h1]at h;cases h2:DL b a<;>rw[h2]at h<;>simp at h
def oX(a b:Ver):Prop:=a.a<b.a∨(a.a=b.a∧(a.b<b.b∨(a.b=b.b∧a.c<b.c)))
def bu(a b:Rl):Prop:=DL a.path b.path=true∨(a.path=b.path∧oX a.ver b.ver)
theorem dz{a b:Ver}(h:IU a b<0):oX a b:=by
 unfold IU at h;split at h
 ·exact .inl (XZ h)
 ·rename_i h1;have h1:=Lq (BB.1 h1);split at h
  ·exact .inr ⟨h1,.inl (XZ h)⟩
  ·rename_i h2;exact .inr ⟨h1,.inr ⟨Lq (BB.1 h2),XZ h⟩⟩
theorem fS{a b:Ver}(h:IU a b=0):a=b:=by
 unfold IU at h;split at h
 ·rename_i h1;exact absurd h h1
 ·rename_i h1;have h1:=Lq (BB.1 h1);split at h
  ·rename_i h2;exact absurd h h2
  ·rename_i h2;have h2:=Lq (BB.1 h2);have h3:=Lq h;cases a;cases b;simp_all
theorem WE{a b:Rl}(h:Dv a b=0):Fa a=Fa b:=by
 unfold Dv at h;split at h
 ·rename_i h1;exact absurd h h1
 ·rename_i h1;have h1:=WD (BB.1 h1);have h2:=fS h;unfold Fa;rw[h1,h2]
theorem nT{a b:Rl}(h:Dv a b<0):bu a b:=by
 unfold Dv at h;split at h
 ·exact .inl (nS h)
 ·rename_i h1;exact .inr ⟨WD (BB.1 h1),dz h⟩
theorem gV{a b c:Ver}(h:oX a b)(k:oX b c):oX a c:=by unfold oX at *;omega
theorem W5{a b c:Rl}(h:bu a b)(k:bu b c):bu a c:=by
 rcases h with h | ⟨h1,h2⟩
 ·rcases k with k | ⟨k1,k2⟩
  ·exact .inl (DQ h k)
  ·exact .inl (k1▸h)
 ·rcases k with k | ⟨k1,k2⟩
  ·exact .inl (h1▸k)
  ·exact .inr ⟨h1.trans k1,gV h2 k2⟩
theorem HE{a b:Rl}(h:bu a b)(k:Fa a=Fa b):False:=by
 unfold Fa at k;simp only[Sl.mk.injEq]at k;rcases h with h | ⟨_,h⟩
 ·rw[k.1,CO]at h;cases h
 ·rw[k.2]at h;unfold oX at h;omega
-- a valid index
structure TR(r:Rl):Prop where
 maj:Bu r.path=some r.ver.a
 val:Cj r.ver=true
 reqs:Bn r.reqs=0
theorem T5{r:Rl}(h:CW r=0):TR r:=by
 unfold CW at h;split at h
 ·cases h
 ·rename_i m hm;split at h
  ·cases h
  ·rename_i h1;split at h
   ·rename_i h2;exact absurd h h2
   ·rename_i h2;simp only[Cq,Dd,KG,not_or,BB]at h1;refine⟨by rw[hm,h1.2],by simpa using h1.1,BB.1 h2⟩
theorem LU:∀{l:List Rl} {b:Option Rl},Cp b l=0→(∀r∈l,TR r)∧(l.Pairwise bu∧∀c,b=some c→∀r∈l,bu c r)
 | [],b,_=>⟨fun _ h=>(by cases h),.nil,fun _ _ _ h=>(by cases h)⟩
 |r::l,b,h=>by
  unfold Cp at h;split at h
  ·rename_i h1;exact absurd h h1
  ·rename_i h1;have hr:=T5 (BB.1 h1);have go:Cp (some r) l=0→(∀c,b=some c→bu c r)→(∀z∈r::l,TR z)∧((r::l).Pairwise bu∧∀c,b=some c→∀z∈r::l,bu c z):=fun h hc=>by
    obtain⟨i1,i2,i3⟩:=LU h;refine⟨fun z hz=>?_,.cons (i3 r rfl) i2,fun c e z hz=>?_⟩
    ·rcases AF.1 hz with rfl | hz
     ·exact hr
     ·exact i1 z hz
    ·rcases AF.1 hz with rfl | hz
     ·exact hc c e
     ·exact W5 (hc c e) (i3 r rfl z hz)
   cases b with
   |none=>exact go h fun _ e=>by cases e
   |some b =>
    dsimp only at h;split at h
    ·cases h
    ·rename_i hk;split at h
     ·cases h
     ·rename_i hc;refine go h fun c e=>?_;cases e;refine nT ?_
      have:Dv b r≠0:=fun e=>hk (WE e)
      omega
theorem Ct{l:List Rl}(h:AN l=0):(∀r∈l,TR r)∧l.Pairwise bu:=by
 unfold AN at h;split at h
 ·cases h
 ·exact⟨(LU h).1,(LU h).2.1⟩
theorem UN{l:List Rl}(h:l.Pairwise bu){a b:Rl}(ha:a∈l)(hb:b∈l)(hk:Fa a=Fa b):a=b:=by
 induction h with
 |nil=>cases ha
 |cons h1 h2 ih =>
  rcases AF.1 ha with e1 | ha
  ·rcases AF.1 hb with e2 | hb
   ·exact e1.trans e2.symm
   ·exact(HE (e1▸h1 b hb) hk).elim
  ·rcases AF.1 hb with e2 | hb
   ·exact(HE (e2▸h1 a ha) hk.symm).elim
   ·exact ih ha hb
theorem YK{a b:Ver}(ha:Cj a=true)(hb:Cj b=true)(h1:a.a=b.a)(h2:place a=place b):a=b:=by
 have:=Js ha
 have:=Js hb
 unfold place at h2;have e1:a.b=b.b:=by omega
 have e2:a.c=b.c:=by omega
 cases a;cases b;simp_all
theorem TR.plc{r:Rl}(h:TR r):plc r.ver=place r.ver:=by unfold Go.Eng.plc;rw[h.val];rfl
theorem eX{l:List Rl}(h:(∀r∈l,TR r)∧l.Pairwise bu){a b:Rl}(ha:a∈l)(hb:b∈l)(h1:a.path=b.path)(h2:place a.ver=place b.ver):a=b:=by
 refine UN h.2 ha hb ?_
 have:=h.1 a ha
 have:=h.1 b hb
 have e:a.ver.a=b.ver.a:=by
  have e1:=(h.1 a ha).maj;rw[h1,(h.1 b hb).maj]at e1;exact(Cr e1).symm
 unfold Fa;rw[h1,YK (h.1 a ha).val (h.1 b hb).val e h2]
theorem HQ{x:List Rl}{r:Rl}(h:CY x y=some r):AN x=0∧r∈x∧Fa r=y:=by
 unfold CY at h;split at h
 ·cases h
 ·rename_i h1;refine⟨BB.1 h1,Cw h,?_⟩
  have:=Fg h;simpa using this
structure qb(x:List Rl)(roots:List Rq)(s:List Sl):Prop where
 ix:AN x=0
 inc:DG s=true
 fnd:∀y∈s,∃r,CY x y=some r∧r.yanked=false
 root:∀q∈roots,∃y,Bv s q.path=some y∧has q.set (place y.ver)=true
 req:∀y∈s,∀r,CY x y=some r→∀q∈r.reqs,∃z,Bv s q.path=some z∧has q.set (place z.ver)=true
theorem OR:∀{s:List Sl} {b:Option ByteArray},M5 b s=true→s.Pairwise (fun a b=>DL a.path b.path=true)∧∀c,b=some c→∀y∈s,DL c y.path=true
 | [],_,_=>⟨.nil,fun _ _ _ h=>by cases h⟩
 |y::r,b,h=>by
  unfold M5 at h;simp only[Ai]at h;obtain⟨h1,h2⟩:=h;obtain⟨i1,i2⟩:=OR h2;refine⟨.cons (i2 _ rfl) i1,fun c e z hz=>?_⟩;subst e;rcases AF.1 hz with rfl | hz
  ·exact h1
  ·exact DQ h1 (i2 _ rfl z hz)
theorem Oe(h:s.Pairwise (fun a b=>DL a.path b.path=true))(hy:y∈s):Bv s y.path=some y:=by
 induction h with
 |nil=>cases hy
 |cons h1 h2 ih =>
  rename_i a l;unfold Bv;rw[ED];rcases AF.1 hy with rfl | hy
  ·simp
  ·have:=IS (h1 y hy)
   simp only[this,decide_false];exact ih hy
theorem Zq(h:DG s=true)(hy:y∈s):Bv s y.path=some y:=Oe (OR h).1 hy
theorem qb.valid{x:List Rl}(h:qb x roots s):GG s:=fun y hy=>by
 obtain⟨r,h1,_⟩:=h.fnd y hy;obtain⟨_,h2,h3⟩:=HQ h1
 have:=((Ct h.ix).1 r h2).val
 rw[←h3];exact this
-- soundness
theorem SM{q:Rq}(h:∃y,Bv s q.path=some y∧has q.set (place y.ver)=true):Dy (DS q) (Bv s q.path)=false:=by
 obtain⟨y,h1,h2⟩:=h;rw[h1];unfold Dy DS;dsimp only;rw[Ga,h2];simp
theorem lS{l:List Tm}(hs:GG s)(hn:Db l≠none)(hv:Bh l s=false):Bh (RH l) s=false:=by
 have:=Dk (l:=l) hs
 unfold RH;cases h:Db l with
 |none=>exact absurd h hn
 |some c=>rw[h,hv]at this;exact this.symm
theorem aA{l:List Tm}(hs:GG s){o:List Tm}(h:gX (RH l)=some o)(hv:Bh l s=false):Bh o s=false:=by
 unfold gX at h;split at h
 ·cases h
 ·rename_i DM;cases h;rw[RI hs (by intro e;rw[e]at DM;exact DM rfl)];exact hv
theorem db:Db [DS q]≠none:=by
 unfold Db Fv;simp only[List.foldl,OS]
 have:Ix (Mn (DS q))=false:=by simp[Ix,Mn,DS]
 simp[this]
theorem Qx{l:List α}{i:Int}{a:α}(h:Km l i=some a):a∈l:=by
 unfold Km at h;split at h
 ·cases h
 ·exact Ay h
theorem Yl{x:List Rl}(hs:qb x roots s)(hd:∀t∈d,Bh t s=false){o:List Tm}(h:Eb x roots d i=some o):Bh o s=false:=by
 have hv:=hs.valid;unfold Eb at h;split at h
 ·split at h
  ·rw[AW]at h;obtain⟨q,hq,rfl⟩:=h;refine lS hv (db q) ?_;rw[AI];intro hw
   have:=BI.1 hw _ (Ar.2 rfl)
   rw[show(DS q).path=q.path from rfl,SM (hs.root q (Qx hq))]at this;cases this
  ·cases h
 ·split at h
  ·split at h
   ·split at h
    ·cases h
    ·rename_i r hr;split at h
     ·cases h
     ·rename_i q hq;refine aA hv h ?_;rw[AI];intro hw;have h1:=BI.1 hw _ (Aa ..);have h2:=BI.1 hw (DS q) B0;rw[show(DS q).path=q.path from rfl]at h2;dsimp only at h1;cases hf:Bv s i.path with
      |none=>rw[hf]at h1;simp[Dy]at h1
      |some y =>
       rw[hf]at h1;unfold Dy at h1;simp only[Ai]at h1;have hp:place y.ver=i.place:=by
        have:=h1.2
        simp only[has,BX,List.any_nil,SW,Ai,BS,Az]at this;omega
       have hy:=Kd hf;have hyp:=MW hf;obtain⟨r',e1,e2⟩:=hs.fnd y hy;obtain⟨_,m1,k1⟩:=HQ e1;have gF:r∈x:=Cw hr;have qu:=Fg hr;simp only[Ai,Az]at qu;have Gs:=Ct hs.ix
       have:r'=r:=by
        refine eX Gs m1 gF ?_ ?_
        ·rw[qu.1,←hyp,←k1];rfl
        ·rw[←(Gs.1 r gF).plc,qu.2,←hp,←k1];rfl
       subst this
       have:=hs.req y hy r' e1 q (Qx hq)
       rw[SM this]at h2;cases h2
   ·cases h
  ·split at h
   ·split at h
    ·refine aA hv h ?_;rw[AI];intro hw;have h1:=BI.1 hw _ (Ar.2 rfl);dsimp only at h1;cases hf:Bv s i.path with
     |none=>rw[hf]at h1;simp[Dy]at h1
     |some y =>
      rw[hf]at h1;unfold Dy at h1;simp only[Ai]at h1;have hy:=Kd hf;have hyp:=MW hf;obtain⟨r,e1,e2⟩:=hs.fnd y hy;obtain⟨_,m1,k1⟩:=HQ e1;have Gs:=Ct hs.ix;have h1:=h1.2;rw[Ga]at h1;have bt:=Kn (hv y hy)
      have:has (Ca x i.path) (place y.ver)=true:=by
       unfold Ca;rw[HS];unfold has;simp only[bt,decide_true,EB,A5,Am,BM];refine⟨(plc r.ver,plc r.ver+1),⟨r,⟨?_,by simp[e2]⟩,rfl⟩,?_⟩
       ·unfold K6;simp only[hs.ix,W9,not_true,GZ,BM,m1,true_and,Az];rw[←hyp,←k1];rfl
       ·rw[(Gs.1 r m1).plc,←k1];rw[DY];exact⟨BK _,by show place r.ver<place r.ver+1;omega⟩
      rw[this]at h1;simp at h1
    ·cases h
   ·split at h
    ·split at h
     ·split at h
      ·rename_i a b ha hb;split at h
       ·rename_i h0;cases h;rw[AI];intro hw;rcases Vk hv (o:=(BO a b i.path).1) (Prod.ext rfl h0) hw with hw | hw
        ·rw[hd a (Qx ha)]at hw;cases hw
        ·rw[hd b (Qx hb)]at hw;cases hw
       ·cases h
      ·cases h
     ·cases h
    ·cases h
theorem Ih{x:List Rl}{roots:List Rq}{s:List Sl}(hs:qb x roots s):∀{l:List Nf} {d d' : List (List Tm)},(∀t∈d,Bh t s=false)→Ds x roots l d=some d'→∀t∈d',Bh t s=false
 | [],d,d',hd,h=>by cases h;exact hd
 |i::l,d,d',hd,h=>by
  unfold Ds at h;split at h
  ·cases h
  ·rename_i o ho;refine Ih hs (fun t ht=>?_) h;rcases AY.1 ht with ht | ht
   ·exact hd t ht
   ·rw[Ar.1 ht];exact Yl hs hd ho
theorem I8{α:Type}[DecidableEq α]:∀{l m:List α},l.Nodup→(∀x∈l,x∈m)→l.length≤m.length
 | [],_,_,_=>AA _
 |a::l,m,hn,hs=>by
  rw[Df]at hn;have ha:a∈m:=hs a (Aa ..)
  have:=I8 (l:=l) (m:=m.erase a) hn.2 fun x hx=>by
   have:x≠a:=fun e=>hn.1 (e▸hx)
   exact(List.mem_erase_of_ne this).2 (hs x (Ah _ hx))
  rw[List.length_erase_of_mem ha]at this
  have:=List.length_pos_of_mem ha
  simp only[Av];omega
abbrev QY(s:List Sl):Prop:=s.Pairwise (fun a b=>DL a.path b.path=true)
-- the next path
theorem KO(before:List Sl):∀{l:List Rq} {acc:Option ByteArray},(∀p,acc=some p→CA before p=false) →
  (∀p,CH before l acc=some p→CA before p=false∧(acc=some p∨∃q∈l,q.path=p))∧(CH before l acc=none→acc=none∧∀q∈l,CA before q.path=true)
 | [],acc,ha=>⟨fun p h=>⟨ha p h,.inl h⟩,fun h=>⟨h,fun _ h=>(by cases h)⟩⟩
 |q::l,acc,ha=>by
  unfold CH
  have key:∀fy,(∀p,fy=some p→CA before p=false)→(∀p,fy=some p→acc=some p∨q.path=p)→(fy=none→acc=none∧CA before q.path=true) →
    (∀p,CH before l fy=some p→CA before p=false∧(acc=some p∨∃q'∈q::l,q'.path=p))∧(CH before l fy=none→acc=none∧∀q'∈q::l,CA before q'.path=true):=by
   intro fy h1 h2 h3;obtain⟨i1,i2⟩:=KO before (l:=l) h1;refine⟨fun p h=>?_,fun h=>?_⟩
   ·obtain⟨j1,j2⟩:=i1 p h;refine⟨j1,?_⟩;rcases j2 with j2 | ⟨q',j3,j4⟩
    ·rcases h2 p j2 with h2 | h2
     ·exact .inl h2
     ·exact .inr ⟨q,Aa ..,h2⟩
    ·exact .inr ⟨q',Ah _ j3,j4⟩
   ·obtain⟨j1,j2⟩:=i2 h;obtain⟨k1,k2⟩:=h3 j1;refine⟨k1,fun q' hq=>?_⟩;rcases AF.1 hq with rfl | hq
    ·exact k2
    ·exact j2 q' hq
  cases hb:CA before q.path with
  |true=>simp only[SA];exact key acc ha (fun p h=>.inl h) fun h=>⟨h,hb⟩
  |false =>
   simp only[DA,GZ];cases acc with
   |none=>exact key _ (fun p h=>by cases h;exact hb) (fun p h=>by cases h;exact .inr rfl) fun h=>by cases h
   |some p0 =>
    dsimp only;split
    ·exact key _ (fun p h=>by cases h;exact hb) (fun p h=>by cases h;exact .inr rfl) fun h=>by cases h
    ·exact key _ (fun p h=>by cases h;exact ha _ rfl) (fun p h=>by cases h;exact .inl rfl) fun h=>by cases h
theorem U3{needs:List Rq}{before:List Sl}{p:ByteArray}(h:Iy needs before=some p):CA before p=false∧∃q∈needs,q.path=p:=by
 obtain⟨h1,h2⟩:=(KO before (l:=needs) (acc:=none) fun _ e=>by cases e).1 p h;rcases h2 with h2 | h2
 ·cases h2
 ·exact⟨h1,h2⟩
theorem cL{needs:List Rq}{before:List Sl}(h:Iy needs before=none):∀q∈needs,CA before q.path=true :=
 ((KO before (l:=needs) (acc:=none) fun _ e=>by cases e).2 h).2
theorem Uv(a b:List Sl)(p:ByteArray):CA (a++b) p=(CA a p||CA b p):=by unfold CA;rw[GR]
theorem L4{p:ByteArray}:CA s p=true↔∃y∈s,y.path=p:=by unfold CA;simp
theorem HR{p:ByteArray}:CA s p=true↔p∈s.map (·.path):=by rw[L4,Am]
-- what is needed
-- skips
theorem X2{t:List Tm}{b:List Sl}(hs:DG s=true)(hb:∀y∈b,y∈s)(h:CQ t b=true):Bh t s=true:=by
 unfold CQ at h;simp only[Ai,Dd,De]at h;obtain⟨h1,h2⟩:=h;rw[BI]at h1⊢;intro u hu
 have:=h2 u hu
 simp only[Bool.not_eq_false]at this;rw[KJ]at this;cases hf:Bv b u.path with
 |none=>rw[hf]at this;cases this
 |some y =>
  have h3:=h1 u hu;rw[hf]at h3
  have:=Zq hs (hb y (Kd hf))
  rw[MW hf]at this;rw[this];exact h3
-- right answers
-- the first decision that differs
-- prefixes
theorem JQ{x:List Rl}{roots:List Rq}:∀{l:List Nf} {d d' : List (List Tm)},Ds x roots l d=some d'→d'.length=d.length+l.length
 | [],d,d',h=>by cases h;rfl
 |i::l,d,d',h=>by
  unfold Ds at h;split at h
  ·cases h
  ·have:=JQ h
   simp only[Ad,Av,Ax]at this⊢;omega
theorem Hw{x:List Rl}{roots:List Rq}:∀(l m:List Nf) (d:List (List Tm)),Ds x roots (l++m) d=match Ds x roots l d with | none=>none | some d'=>Ds x roots m d'
 | [],_,_=>rfl
 |i::l,m,d=>by
  show(match Eb x roots d i with | none=>none | some t=>Ds x roots (l++m) (d++[t]))=(match(match Eb x roots d i with | none=>none | some t=>Ds x roots l (d++[t]))with | none=>none | some d'=>Ds x roots m d');cases Eb x roots d i with
  |none=>rfl
  |some t=>exact Hw l m _
theorem Mp{x:List Rl}{roots:List Rq}:∀{l:List Nf} {d d' : List (List Tm)},Ds x roots l d=some d'→d <+: d'
 | [],d,d',h=>by cases h;exact List.prefix_refl _
 |i::l,d,d',h=>by
  unfold Ds at h;split at h
  ·cases h
  ·exact(Pu _ _).trans (Mp h)
theorem Oa{x:List Rl}{l:List Nf}(h:Ds x roots l []=some d)(k:Nat):Ds x roots (l.take k) []=some (d.take k):=by
 rw[←Fr k l,Hw]at h;cases e:Ds x roots (l.take k) []with
 |none=>rw[e]at h;cases h
 |some f =>
  rw[e]at h;dsimp only at h;have h1:=JQ e;have h2:=JQ h;have h3:=Mp h
  congr 1
  simp only[Ax,AB,B3]at h1 h2;obtain⟨z,rfl⟩:=h3
  by_cases hk:k≤l.length
  ·rw[FJ ch,Au ch]
  ·rw[Ad]at h2
   have:z=[]:=AK ch
   subst this;rw[BL,Au ch]
def LP:Prop:=Db l=some l
theorem iD{l:List Tm}:∀(l2:List Tm),Ch none (l2++l)→l.foldl (fun acc t=>OS t acc) l2=l2++l:=by
 induction l with
 |nil=>intro l2 _;simp
 |cons t r ih =>
  intro l2 h;have hi:OS t l2=l2++[t]:=by
   have:∀(m:List Tm) (lo:Option ByteArray),Ch lo (m++t::r)→OS t m=m++[t]:=by
    intro m
    induction m with
    |nil =>
     intro lo hm;have hc:E2 t.set:=hm.2.1;unfold OS;rw[show Mn t=t from tf rfl rfl (Kb hc)];rfl
    |cons u m ihm =>
     intro lo hm;have hm:Ch lo (u::(m++t::r)):=hm;have DJ:=Ch.low hm.2.2 t B0;unfold OS;rw[Al DJ,ihm _ hm.2.2];rfl
   exact this l2 none h
  rw[EE,hi]
  have:=ih (l2++[t]) (by rw[Bx];exact h)
  rw[this,Bx];rfl
theorem RD{l:List Tm}(h:Ch none l):Fv l=l:=by
 have:=iD (l:=l) [] h
 simpa[Fv]using this
theorem Sq{l c:List Tm}(h:Db l=some c):LP c:=by
 have hs:=Fk h;unfold LP;unfold Db at h⊢;rw[RD hs];split at h
 ·cases h
 ·rename_i hn;cases h;rw[Ae]
  ·congr 1
   rw[List.filter_filter];simp
  ·rw[Bool.not_eq_true,De]at hn⊢;intro t ht;exact hn t (BM.1 ht).1
theorem PZ:LP []:=rfl
theorem Nh:LP (RH l):=by
 unfold RH;cases h:Db l with
 |none=>exact PZ
 |some c=>exact Sq h
theorem Ou(a b:List Tm)(p:ByteArray):LP (BO a b p).1:=by
 unfold BO;split
 ·split
  ·rename_i h;exact Sq h
  ·exact PZ
 ·exact PZ
theorem az{l o:List Tm}(h:gX l=some o):o=l:=by unfold gX at h;split at h<;>cases h;rfl
theorem ZX{x:List Rl}{o:List Tm}(h:Eb x roots d i=some o):LP o:=by
 unfold Eb at h;split at h
 ·split at h
  ·rw[AW]at h;obtain⟨q,_,rfl⟩:=h;exact Nh _
  ·cases h
 ·split at h
  ·split at h
   ·split at h
    ·cases h
    ·split at h
     ·cases h
     ·rw[az h];exact Nh _
   ·cases h
  ·split at h
   ·split at h
    ·rw[az h];exact Nh _
    ·cases h
   ·split at h
    ·split at h
     ·split at h
      ·split at h
       ·cases h;exact Ou _ _ _
       ·cases h
      ·cases h
     ·cases h
    ·cases h
theorem N9{x:List Rl}{roots:List Rq}:∀{l:List Nf} {d d' : List (List Tm)},(∀t∈d,LP t)→Ds x roots l d=some d'→∀t∈d',LP t
 | [],d,d',hd,h=>by cases h;exact hd
 |i::l,d,d',hd,h=>by
  unfold Ds at h;split at h
  ·cases h
  ·rename_i o ho;refine N9 (fun t ht=>?_) h;rcases AY.1 ht with ht | ht
   ·exact hd t ht
   ·rw[Ar.1 ht];exact ZX ho
-- tampering
end Go.Eng
