/- Lemmas for the claims of this seat, without a condition: part 1 (P1, P2, P3, P4, P5, P6, P7). -/
import Derived.Test.YtmcbkdbfaneofaaGreatDoorFA00
namespace Go.Eng
def BL(p:Int)(s:Int×Int):Bool:=decide (s.1≤p)&&decide (p<s.2)
def has(s:List (Int×Int))(p:Int):Bool:=decide (0≤p)&&decide (p<1000000)&&s.any (BL p)
abbrev Bj:=List (Int×Int)
def EL(lo:Int):Bj→Prop
 | []=>True
 |y::r=>lo≤y.1∧y.1<y.2∧y.2≤1000000∧EL (y.2+1) r
abbrev EH(l:Bj):Prop:=EL 0 l
def VI(x:Int×Int):Bj→Bj
 | []=>[x]
 |y::r=>if x.2<y.1 then x::y::r else if y.2<x.1 then y::VI x r else VI (min x.1 y.1,max x.2 y.2) r
def Hk(x:Int×Int):Int×Int:=(max x.1 0,min x.2 1000000)
def canon:Bj→Bj
 | []=>[]
 |x::r=>if(Hk x).1<(Hk x).2 then VI (Hk x) (canon r)else canon r
def KZ(at_:Int):Bj→Bj
 | []=>if at_<1000000 then [(at_,1000000)]else []
 |y::r=>if at_<y.1 then(at_,y.1)::KZ y.2 r else KZ y.2 r
def Eg(s:Bj):Bj:=KZ 0 (canon s)
def Qm(l:List Bj):Bj:=canon l.flatten
def PM(l:List Bj):Bj:=Eg (l.map Eg).flatten
def Pm(a b:Bj):Bj:=Qm [a,b]
def Nh(a b:Bj):Bj:=PM [a,b]
def rH(a b:Bj):Bj:=Nh a (Eg b)
def xv(a b:Bj):Bool:=(rH a b).isEmpty
theorem EL.mono{lo HC : Int}:∀{l:Bj},EL lo l→HC≤lo→EL HC l
 | [],_,_=>trivial
 |_::_,⟨h1,h2,h3,h4⟩,h=>⟨Int.le_trans h h1,h2,h3,h4⟩
theorem EL.low{lo:Int}:∀{l:Bj},EL lo l→∀y∈l,lo≤y.1∧y.1<y.2∧y.2≤1000000
 |y::r,⟨h1,h2,h3,h4⟩,z,hz=>by
  rcases As.1 hz with rfl | hz
  ·exact⟨h1,h2,h3⟩
  ·have:=h4.low z hz
   exact⟨by omega,this.2.1,this.2.2⟩
theorem DQ{p:Int}{s:Int×Int}:BL p s=true↔s.1≤p∧p<s.2:=by simp[BL]
theorem Mu{lo:Int}{l:Bj}(h:EL lo l){p:Int}(hp:l.any (BL p)=true):lo≤p:=by
 obtain⟨y,hy,h2⟩:=Bc.1 hp
 have:=h.low y hy
 have:=DQ.1 h2
 omega
theorem ee{lo:Int}{l:Bj}(h:EL lo l){p:Int}(hp:l.any (BL p)=true):p<1000000:=by
 obtain⟨y,hy,h2⟩:=Bc.1 hp
 have:=h.low y hy
 have:=DQ.1 h2
 omega
theorem Nu:∀(l:Bj) {lo:Int} {x:Int×Int},EL lo l→lo≤x.1→x.1<x.2→x.2≤1000000→EL lo (VI x l)
 | [],lo,x,_,h1,h2,h3=>⟨h1,h2,h3,trivial⟩
 |y::r,lo,x,⟨g1,g2,g3,g4⟩,h1,h2,h3=>by
  unfold VI;split
  ·exact⟨h1,h2,h3,by omega,g2,g3,g4⟩
  ·split
   ·exact⟨g1,g2,g3,Nu r g4 (by omega) h2 h3⟩
   ·refine Nu r (g4.mono (by omega)) ?_ ?_ ?_<;>dsimp only<;>omega
theorem Oa:∀(l:Bj) {lo:Int} {x:Int×Int} (p:Int),EL lo l→x.1<x.2→(VI x l).any (BL p)=(BL p x||l.any (BL p))
 | [],lo,x,p,_,_=>by simp[VI]
 |y::r,lo,x,p,⟨g1,g2,g3,g4⟩,h2=>by
  unfold VI;split
  ·simp
  ·split
   ·rw[Cf,Oa r p g4 h2,Cf,←Bool.or_assoc,←Bool.or_assoc,Bool.or_comm (BL p y)]
   ·rw[Oa r p g4 (by dsimp only;omega),Cf,←Bool.or_assoc]
    congr 1
    simp only[BL];rw[BW];simp only[Ag,CG,Ay];omega
theorem Cp:∀s:Bj,EH (canon s)
 | []=>trivial
 |x::r=>by
  unfold canon;split
  ·rename_i h;refine Nu _ (Cp r) ?_ h ?_<;>simp only[Hk]<;>omega
  ·exact Cp r
theorem Kt:∀(s:Bj) (p:Int),(canon s).any (BL p)=has s p
 | [],p=>by simp[has,canon]
 |x::r,p=>by
  have ih:=Kt r p;unfold canon;have hx:BL p (Hk x)=(decide (0≤p)&&decide (p<1000000)&&BL p x):=by
   simp only[BL,Hk];rw[BW];simp only[Ag,Ay,Int.max_le,Int.lt_min];omega
  split
  ·rename_i h;rw[Oa _ p (Cp r) h,ih,hx];simp only[has,Cf];cases decide (0≤p)<;>cases decide (p<1000000)<;>simp
  ·rename_i h;rw[ih];simp only[has,Cf]
   have:BL p (Hk x)=false:=by
    rw[AK];intro h3
    have:=DQ.1 h3
    omega
   rw[this]at hx;cases h1:decide (0≤p)<;>cases h2:decide (p<1000000)<;>simp_all
theorem Hy{l:Bj}(h:EH l)(p:Int):has l p=l.any (BL p):=by
 unfold has;cases e:l.any (BL p)with
 |false=>simp
 |true=>have h1:0≤p:=Mu h e;have h2:=ee h e;simp[h1,h2]
theorem Ha(s:Bj)(p:Int):has (canon s) p=has s p:=by
 rw[Hy (Cp s),Kt]
theorem M3:∀{a b:Bj} {lo:Int},EL lo a→EL lo b→(∀p,a.any (BL p)=b.any (BL p))→a=b
 | [],[],_,_,_,_=>rfl
 | [],z::s,_,_,⟨g1,g2,g3,g4⟩,h=>by
  have:=h z.1
  rw[Cf,DQ.2 ⟨AY _,g2⟩]at this;simp at this
 |y::r,[],_,⟨g1,g2,g3,g4⟩,_,h=>by
  have:=h y.1
  rw[Cf,DQ.2 ⟨AY _,g2⟩]at this;simp at this
 |y::r,z::s,lo,⟨f1,f2,f3,f4⟩,⟨g1,g2,g3,g4⟩,h=>by
  have below:∀{x:Int×Int} {t:Bj} {p:Int},EL (x.2+1) t→(x::t).any (BL p)=true→p≤x.2→x.1≤p∧p<x.2:=fun {x t p} ht hp Hl=>by
   rw[Cf,CG]at hp;rcases hp with hp | hp
   ·exact DQ.1 hp
   ·have:=Mu ht hp;omega
  have low:∀{x:Int×Int} {t:Bj} {p:Int},x.1<x.2→EL (x.2+1) t→(x::t).any (BL p)=true→x.1≤p:=fun {x t p} hx ht hp=>by
   rw[Cf,CG]at hp;rcases hp with hp | hp
   ·exact(DQ.1 hp).1
   ·have:=Mu ht hp;omega
  have cov:∀{x:Int×Int} {t:Bj} {p:Int},x.1≤p→p<x.2→(x::t).any (BL p)=true:=fun {x t p} h1 h2=>by
   rw[Cf,DQ.2 ⟨h1,h2⟩,Bool.true_or]
  have e1:y.1=z.1:=by
   have a1:=low f2 f4 ((h z.1).trans (cov (AY _) g2));have a2:=low g2 g4 ((h y.1).symm.trans (cov (AY _) f2));omega
  have e2:y.2=z.2:=by
   rcases Int.lt_trichotomy y.2 z.2 with hl | he | hl
   ·have:=below f4 ((h y.2).trans (cov (by omega) hl)) (AY _);omega
   ·exact he
   ·have:=below g4 ((h z.2).symm.trans (cov (by omega) hl)) (AY _);omega
  have e:y=z:=Prod.ext e1 e2;subst e
  congr 1
  refine M3 f4 g4 fun p=>?_;have hp:=h p;simp only[Cf]at hp;cases hs:BL p y with
  |false=>rw[hs,LK,LK]at hp;exact hp
  |true =>
   have:=DQ.1 hs
   have n:∀{t:Bj},EL (y.2+1) t→t.any (BL p)=false:=fun {t} ht=>by
    rw[AK];intro hx;have:=Mu ht hx;omega
   rw[n f4,n g4]
theorem Ht{a b:Bj}(ha:EH a)(hb:EH b)(h:∀p,has a p=has b p):a=b :=
 M3 ha hb fun p=>by rw[←Hy ha,←Hy hb,h]
theorem Sh{a s:Bj}(ha:EH a)(h:∀p,has a p=has s p):a=canon s :=
 Ht ha (Cp s) fun p=>by rw[h,Ha]
theorem Jb{a:Bj}(ha:EH a):canon a=a:=(Sh ha fun _=>rfl).symm
theorem L7{s:Bj}{p:Int}(h:has s p=true):0≤p∧p<1000000:=by
 unfold has at h;simp only[Ag,Ay]at h;exact h.1
def LG(p:Int):Bool:=decide (0≤p)&&decide (p<1000000)
theorem K3:∀(l:Bj) {at_ lo:Int},0≤at_→EL lo l→lo≤at_+1→at_≤lo→EL at_ (KZ at_ l)∧∀p,(KZ at_ l).any (BL p)=(decide (at_≤p)&&decide (p<1000000)&&!l.any (BL p))
 | [],at_,lo,h0,_,h1,h2=>by
  unfold KZ;split
  ·exact⟨⟨AY _,by dsimp only;omega,AY _,trivial⟩,fun p=>by simp[BL]⟩
  ·refine⟨trivial,fun p=>?_⟩
   have:(decide (at_≤p)&&decide (p<1000000))=false:=by
    rw[AK];simp only[Vd,Ag,Ay];omega
   simp[this]
 |y::r,at_,lo,h0,⟨g1,g2,g3,g4⟩,h1,h2=>by
  have ih:=K3 r (at_:=y.2) (by omega) g4 (AY _) (by omega);have key:∀p,(decide (at_≤p)&&decide (p<y.1)||(KZ y.2 r).any (BL p))=(decide (at_≤p)&&decide (p<1000000)&&!(y::r).any (BL p)):=fun p=>by
   rw[ih.2,Cf];cases hr:r.any (BL p)with
   |true =>
    have:=Mu g4 hr
    have a:decide (p<y.1)=false:=Aq (by omega);simp[a]
   |false =>
    rw[BW];simp only[BL,Ag,CG,Ay,CU,Bool.or_false,Bool.and_eq_false_iff,JL,Bool.not_false,and_true];omega
  unfold KZ;split
  ·rename_i h;refine⟨⟨AY _,h,by dsimp only;omega,ih.1 |> fun c=>?_⟩,fun p=>?_⟩
   ·dsimp only;cases e:KZ y.2 r with
    |nil=>trivial
    |cons z s =>
     rw[e]at c;exact⟨by have:=c.1;omega,c.2⟩
   ·rw[Cf,←key];rfl
  ·rename_i h;refine⟨ih.1.mono (by omega),fun p=>?_⟩;rw[←key]
   have:(decide (at_≤p)&&decide (p<y.1))=false:=by
    rw[AK];simp only[Vd,Ag,Ay];omega
   rw[this,LK]
theorem G8(s:Bj):EH (Eg s):=by
 unfold Eg;exact(K3 _ (AY _) (Cp s) (by omega) (AY _)).1
theorem FH(s:Bj)(p:Int):has (Eg s) p=(LG p&&!has s p):=by
 rw[Hy (G8 s)];unfold Eg;rw[(K3 _ (AY _) (Cp s) (by omega) (AY _)).2,Kt];rfl
theorem Zd(a b:Bj)(p:Int):has (a++b) p=(has a p||has b p):=by
 simp only[has,Ho];cases decide (0≤p)<;>cases decide (p<1000000)<;>simp
theorem L6:∀(l:List Bj) (p:Int),has l.flatten p=l.any fun s=>has s p
 | [],p=>by simp[has]
 |s::l,p=>by rw[BA,Zd,L6 l p,Cf]
theorem SL(l:List Bj)(p:Int):has (Qm l) p=l.any fun s=>has s p:=by
 unfold Qm;rw[Ha,L6]
theorem WC(l:List Bj):EH (Qm l):=Cp _
theorem Wj(l:List Bj):EH (PM l):=G8 _
theorem SK(l:List Bj)(p:Int):has (PM l) p=(LG p&&l.all fun s=>has s p):=by
 unfold PM;rw[FH,L6,List.any_map];cases h:LG p with
 |false=>rfl
 |true =>
  rw[EF,EF,List.not_any_eq_all_not]
  congr 1
  funext s
  simp[FH,h]
theorem Yr(a b:Bj):EH (Pm a b):=Cp _
theorem QP(a b:Bj):EH (Nh a b):=G8 _
theorem cq(a b:Bj)(p:Int):has (Pm a b) p=(has a p||has b p):=by
 unfold Pm;rw[SL];simp
theorem UZ(a b:Bj)(p:Int):has (Nh a b) p=(has a p&&has b p):=by
 unfold Nh;rw[SK];simp only[List.all_cons,List.all_nil,Bool.and_true];cases h:has a p with
 |false=>simp
 |true=>have:=L7 h;simp[LG,this]
theorem Zm(s:Bj):Nh s s=canon s:=Ht (QP _ _) (Cp _) fun p=>by rw[UZ,Ha,Bool.and_self]
theorem Ub{s:Bj}:canon s=[]↔∀p,has s p=false:=by
 constructor
 ·intro h p;rw[←Ha,h];simp[has]
 ·intro h;exact Ht (Cp s) (b:=[]) trivial fun p=>by rw[Ha,h p];simp[has]
theorem PS{s:Bj}(hs:EH s):s=[]↔∀p,has s p=false:=by
 rw[←Ub,Jb hs]
def dO(l:List Bj)(p:Int):Nat:=l.countP fun s=>has s p
theorem Sg:∀{l:Bj} {lo:Int},EL lo l→lo≤1000000→(l.length:Int)≤1000000-lo
 | [],lo,_,h=>by simp;omega
 |y::r,lo,⟨g1,g2,g3,g4⟩,h=>by
  by_cases h3:y.2+1≤1000000
  ·have:=Sg g4 h3
   simp only[Au];omega
  ·cases r with
   |nil=>simp;omega
   |cons z s=>have:=g4.1;have:=g4.2.1;have:=g4.2.2.1;omega
theorem HY{l:Bj}(h:EH l):l.length≤1000000:=by have:=Sg h (by omega);omega
structure Ver where
 (a b c:Int)
structure Rq where
 path:ByteArray
 set:List (Int×Int)
structure Rl where
 path:ByteArray
 ver:Ver
 reqs:List Rq
 (arch ifc cert:ByteArray)
 yanked:Bool
structure Sl where
 path:ByteArray
 ver:Ver
structure Tm where
 path:ByteArray
 absent:Bool
 set:List (Int×Int)
structure Nf where
 kind:Int
 path:ByteArray
 (place number left right:Int)
structure Sk where
 path:ByteArray
 (place inf:Int)
structure An where
 found:Bool
 sel:List Sl
 infs:List Nf
 skips:List Sk
instance:DecidableEq Ver:=fun x y=>decidable_of_iff (x.a=y.a∧x.b=y.b∧x.c=y.c) ⟨fun⟨h1,h2,h3⟩=>by cases x;cases y;simp_all,fun h=>by subst h;exact⟨rfl,rfl,rfl⟩⟩
instance:DecidableEq Sl:=fun x y=>decidable_of_iff (x.path=y.path∧x.ver=y.ver) ⟨fun⟨h1,h2⟩=>by cases x;cases y;simp_all,fun h=>by subst h;exact⟨rfl,rfl⟩⟩
theorem oT{x y:Tm}(h1:x.path=y.path)(h2:x.absent=y.absent)(h3:x.set=y.set):x=y:=by cases x;cases y;simp_all
def okPart(n:Int):Prop:=0≤n∧n≤999
instance (n:Int):Decidable (okPart n):=by unfold okPart;infer_instance
def CO(v:Ver):Bool:=decide (okPart v.a)&&decide (okPart v.b)&&decide (okPart v.c)
def place(v:Ver):Int:=1000*v.b+v.c
def plc(v:Ver):Int:=if CO v then place v else 0
def Cc(s:List Sl)(p:ByteArray):Option Sl:=s.find? fun x=>decide (x.path=p)
def GE(t:Tm)(s:List Sl):Bool :=
 match s.find? (fun x=>decide (x.path=t.path))with
 |none=>t.absent
 |some x=>CO x.ver&&has t.set (place x.ver)
def CI(s:List Sl)(p:ByteArray):Bool:=s.any fun x=>decide (x.path=p)
def Bg(l:List Tm)(s:List Sl):Bool:=l.all fun t=>GE t s
def CF(l:List Tm)(s:List Sl):Bool:=Bg l s&&!l.any fun t=>!CI s t.path
def J9:List UInt8→List UInt8→Bool
 | [],[]=>false
 | [],_::_=>true
 |_::_,[]=>false
 |a::x,b::y=>decide (a<b)||(decide (a=b)&&J9 x y)
def Fl(a b:ByteArray):Bool:=J9 a.data.toList b.data.toList
theorem QS:∀x,J9 x x=false
 | []=>rfl
 |a::x=>by
  unfold J9;simp[QS x]
theorem Tj:∀{x y z},J9 x y=true→J9 y z=true→J9 x z=true
 | [],[],_,h,_=>by simp[J9]at h
 | [],_::_,[],_,h=>by simp[J9]at h
 | [],_::_,_::_,_,_=>rfl
 |_::_,[],_,h,_=>by simp[J9]at h
 |_::_,_::_,[],_,h=>by simp[J9]at h
 |a::x,b::y,c::z,h1,h2=>by
  unfold J9 at *
  simp only[CG,Ag,Ay]at *
  rcases h1 with h1 | ⟨rfl,h1⟩
  ·rcases h2 with h2 | ⟨rfl,h2⟩
   ·exact .inl (UInt8.lt_trans h1 h2)
   ·exact .inl h1
  ·rcases h2 with h2 | ⟨rfl,h2⟩
   ·exact .inl h2
   ·exact .inr ⟨rfl,Tj h1 h2⟩
theorem XU:∀{x y},J9 x y=false→J9 y x=false→x=y
 | [],[],_,_=>rfl
 | [],_::_,h,_=>by simp[J9]at h
 |_::_,[],_,h=>by simp[J9]at h
 |a::x,b::y,h1,h2=>by
  unfold J9 at *
  simp only[Bool.or_eq_false_iff,Bool.and_eq_false_iff,JL]at *
  have e:a=b:=by
   have l1:=UInt8.not_lt.1 h1.1;have l2:=UInt8.not_lt.1 h2.1;exact UInt8.le_antisymm l2 l1
  subst e
  have:=XU (x:=x) (y:=y) (by simpa using h1.2) (by simpa using h2.2)
  rw[this]
theorem tN{a b:ByteArray}(h:a.data.toList=b.data.toList):a=b:=by
 cases a;cases b;simp only[ByteArray.mk.injEq];exact IA.1 h
theorem Di(a:ByteArray):Fl a a=false:=QS _
theorem EB{a b c:ByteArray}(h:Fl a b=true)(k:Fl b c=true):Fl a c=true:=Tj h k
theorem Hs{a b:ByteArray}(h:Fl a b=false)(k:Fl b a=false):a=b:=tN (XU h k)
theorem YN{a b:ByteArray}(h:Fl a b=true):a≠b:=fun e=>by subst e;rw[Di]at h;cases h
theorem Pz{a b:ByteArray}(h:Fl a b=true):Fl b a=false:=by
 rw[AK];intro k;have:=EB h k;rw[Di]at this;cases this
def Lt(t:Tm):Tm:=⟨t.path,t.absent,canon t.set⟩
def GR(u t:Tm):Tm:=⟨u.path,u.absent&&t.absent,Nh u.set t.set⟩
def NH(t:Tm):List Tm→List Tm
 | []=>[Lt t]
 |u::r=>if Fl u.path t.path then u::NH t r else if u.path=t.path then GR u t::r else Lt t::u::r
def EY(l:List Tm):List Tm:=l.foldl (fun acc t=>NH t acc) []
def HE(t:Tm):Bool:=!t.absent&&t.set.isEmpty
def Gu(t:Tm):Bool:=t.absent&&decide (t.set=[(0,1000000)])
def CR(l:List Tm):Option (List Tm):=if(EY l).any HE then none else some ((EY l).filter fun t=>!Gu t)
def PU(l:List Tm):List Tm:=(CR l).getD []
def DI(q:Rq):Tm:=⟨q.path,true,Eg q.set⟩
def Ju(q:Rq):List Tm:=PU [DI q]
def El(path:ByteArray)(pl:Int)(q:Rq):List Tm:=PU [⟨path,false,[(pl,pl+1)]⟩,DI q]
def HT(path:ByteArray)(pN:Bj):List Tm:=PU [⟨path,false,Eg pN⟩]
def Dm(l:List Tm)(p:ByteArray):Option Tm:=l.find? fun t=>decide (t.path=p)
def FL(l:List Tm)(p:ByteArray):List Tm:=l.filter fun t=>!decide (t.path=p)
def Dj(a b:Tm):Tm:=⟨a.path,a.absent||b.absent,Pm a.set b.set⟩
def Fq(l:List Tm)(p:ByteArray):Option (Tm×List Tm):=match CR l with
 |none=>none
 |some c=>match Dm c p with
  |none=>none
  |some t=>some (t,FL c p)
def Bx(a b:List Tm)(p:ByteArray):List Tm×Int :=
 match Fq a p,Fq b p with
 |some (t,r),some (u,m)=>match CR (r++m++[Dj t u])with
  |some o=>(o,0)
  |none=>([],8)
 |_,_=>([],1)
def Ce(lo:Option ByteArray):List Tm→Prop
 | []=>True
 |t::r=>(∀p,lo=some p→Fl p t.path=true)∧EH t.set∧Ce (some t.path) r
theorem Ce.weak{lo:Option ByteArray}:∀{l:List Tm},Ce lo l→Ce none l
 | [],_=>trivial
 |_::_,⟨_,h2,h3⟩=>⟨fun _ h=>(by cases h),h2,h3⟩
theorem Ce.low{p:ByteArray}:∀{l:List Tm},Ce (some p) l→∀t∈l,Fl p t.path=true
 |t::r,⟨h1,h2,h3⟩,u,hu=>by
  rcases As.1 hu with rfl | hu
  ·exact h1 p rfl
  ·exact EB (h1 p rfl) (h3.low u hu)
theorem Ce.canon{lo:Option ByteArray}:∀{l:List Tm},Ce lo l→∀t∈l,EH t.set
 |t::r,⟨h1,h2,h3⟩,u,hu=>by
  rcases As.1 hu with rfl | hu
  ·exact h2
  ·exact h3.canon u hu
theorem Ce.mono{p q:ByteArray}:∀{l:List Tm},Ce (some p) l→Fl q p=true→Ce (some q) l
 | [],_,_=>trivial
 |t::r,⟨h1,h2,h3⟩,h=>⟨fun _ e=>by cases e;exact EB h (h1 p rfl),h2,h3⟩
theorem Ma:∀{l:List Tm} {lo:Option ByteArray} (t:Tm),Ce lo l→(∀p,lo=some p→Fl p t.path=true)→Ce lo (NH t l)
 | [],lo,t,_,h=>⟨h,Cp _,trivial⟩
 |u::r,lo,t,⟨h1,h2,h3⟩,h=>by
  unfold NH;split
  ·rename_i DL;exact⟨h1,h2,Ma t h3 fun p e=>by cases e;exact DL⟩
  ·rename_i DL;split
   ·rename_i he;exact⟨h1,QP _ _,h3⟩
   ·rename_i he;refine⟨h,Cp _,fun p e=>?_,h2,h3⟩;cases e
    have:Fl u.path t.path=false:=by simpa using DL
    cases hb:Fl t.path u.path with
    |true=>exact hb
    |false=>exact absurd (Hs this hb) he
theorem OD:∀(l acc:List Tm),Ce none acc→Ce none (l.foldl (fun acc t=>NH t acc) acc)
 | [],_,h=>h
 |t::l,acc,h=>OD l _ (Ma t h fun _ e=>by cases e)
theorem Es(l:List Tm):Ce none (EY l):=OD l [] trivial
theorem CN(t:Tm)(r:List Tm)(p:ByteArray):Dm (t::r) p=if t.path=p then some t else Dm r p:=by
 unfold Dm;rw[Fx];by_cases h:t.path=p<;>simp[h]
theorem Hu{p q:ByteArray}{l:List Tm}(h:Ce (some p) l)(hq:Fl p q=false):Dm l q=none:=by
 unfold Dm;rw[DB];intro t ht
 have:=h.low t ht
 simp only[Ay];intro e;subst e;rw[hq]at this;cases this
def NU(o:Option Tm)(t:Tm):Tm:=match o with | none=>Lt t | some u=>GR u t
theorem PX(o:Option Tm)(t:Tm)(h:∀u,o=some u→u.path=t.path):(NU o t).path=t.path:=by
 cases o with
 |none=>rfl
 |some u=>exact h u rfl
theorem G0{l:List Tm}{p:ByteArray}{u:Tm}(h:Dm l p=some u):u.path=p:=by
 have:=DK h;simpa using this
theorem E9{l:List Tm}{p:ByteArray}{u:Tm}(h:Dm l p=some u):u∈l:=BO h
theorem SA:∀{l:List Tm} {lo:Option ByteArray} (t:Tm) (p:ByteArray),Ce lo l→Dm (NH t l) p=if t.path=p then some (NU (Dm l p) t)else Dm l p
 | [],lo,t,p,_=>by
  unfold NH;rw[CN];show(if t.path=p then some (Lt t)else none)=_
  by_cases h:t.path=p<;>simp[h,Dm,NU]
 |u::r,lo,t,p,⟨h1,h2,h3⟩=>by
  unfold NH;split
  ·rename_i DL;rw[CN,CN,SA t p h3]
   by_cases hu:u.path=p
   ·have:¬t.path=p:=fun e=>YN DL (hu.trans e.symm)
    simp[hu,this]
   ·simp[hu]
  ·rename_i DL;split
   ·rename_i he;rw[CN,CN];show(if u.path=p then some (GR u t)else _)=_
    by_cases hu:u.path=p
    ·simp[hu,he▸hu,NU]
    ·have:¬t.path=p:=fun e=>hu (he.trans e)
     simp[hu,this]
   ·rename_i he;rw[CN];show(if t.path=p then some (Lt t)else _)=_
    by_cases ht:t.path=p
    ·have hn:Dm (u::r) p=none:=by
      rw[CN];have hu:¬u.path=p:=fun e=>he (e.trans ht.symm);simp only[hu,Fg];exact Hu h3 (by subst ht;simpa using DL)
     simp[ht,hn,NU]
    ·simp[ht]
def JW(p:ByteArray)(o:Option Tm)(t:Tm):Option Tm:=if t.path=p then some (NU o t)else o
theorem QI(p:ByteArray):∀(l acc:List Tm),Ce none acc→Dm (l.foldl (fun acc t=>NH t acc) acc) p=l.foldl (JW p) (Dm acc p)
 | [],_,_=>rfl
 |t::l,acc,h=>by
  rw[Fy,QI p l _ (Ma t h fun _ e=>by cases e),SA t p h];rfl
theorem IY(l:List Tm)(p:ByteArray):Dm (EY l) p=l.foldl (JW p) none:=QI p l [] trivial
theorem Mr:∀{a b:List Tm} {lo:Option ByteArray},Ce lo a→Ce lo b→(∀p,Dm a p=Dm b p)→a=b
 | [],[],_,_,_,_=>rfl
 | [],z::s,_,_,_,h=>by have:=h z.path;rw[CN,Aw rfl]at this;cases this
 |z::s,[],_,_,_,h=>by have:=h z.path;rw[CN,Aw rfl]at this;cases this
 |y::r,z::s,lo,⟨f1,f2,f3⟩,⟨g1,g2,g3⟩,h=>by
  have e:y=z:=by
   have a1:=h y.path;have a2:=h z.path;rw[CN,Aw rfl,CN]at a1;rw[CN,CN z,Aw rfl]at a2
   by_cases e:z.path=y.path
   ·rw[Aw e]at a1;exact BP a1
   ·rw[Ai e]at a1;rw[Ai (fun c=>e c.symm)]at a2;have b1:=Ce.low g3 y (E9 a1.symm);have b2:=Ce.low f3 z (E9 a2)
    have:=EB b1 b2
    rw[Di]at this;cases this
  subst e
  congr 1
  refine Mr f3 g3 fun p=>?_;have hp:=h p;rw[CN,CN]at hp
  by_cases e:y.path=p
  ·subst e;rw[Hu f3 (Di _),Hu g3 (Di _)]
  ·simpa[e]using hp
theorem Ce.filter(q:Tm→Bool):∀{l:List Tm} {lo:Option ByteArray},Ce lo l→Ce lo (l.filter q)
 | [],_,_=>trivial
 |t::r,lo,⟨h1,h2,h3⟩=>by
  have ih:=Ce.filter q h3;rw[DN];split
  ·exact⟨h1,h2,ih⟩
  ·cases lo with
   |none=>exact ih.weak
   |some p=>exact ih.mono (h1 p rfl)
theorem FG{l:List Tm}{lo:Option ByteArray}{t:Tm}(h:Ce lo l):t∈l↔Dm l t.path=some t:=by
 constructor
 ·induction l generalizing lo with
  |nil=>intro h;cases h
  |cons u r ih =>
   intro ht;rw[CN];rcases As.1 ht with rfl | ht
   ·rw[Aw rfl]
   ·have:=Ce.low h.2.2 t ht
    rw[Ai (YN this)];exact ih h.2.2 ht
 ·exact E9
def Dk(t:Tm)(o:Option Sl):Bool:=match o with | none=>t.absent | some x=>CO x.ver&&has t.set (place x.ver)
theorem gg(t:Tm)(s:List Sl):GE t s=Dk t (Cc s t.path):=by
 unfold GE Dk Cc;rfl
theorem L0{s:List Sl}{p:ByteArray}{x:Sl}(h:Cc s p=some x):x.path=p:=by
 have:=DK h;simpa using this
theorem Jd{s:List Sl}{p:ByteArray}{x:Sl}(h:Cc s p=some x):x∈s:=BO h
theorem JN{s:List Sl}{p:ByteArray}:CI s p=(Cc s p).isSome:=by
 unfold CI Cc;rw[BW,List.find?_isSome,Bc]
theorem Zi(t:Tm)(o:Option Sl):Dk (Lt t) o=Dk t o:=by
 unfold Dk Lt;cases o<;>simp[Ha]
theorem XH(u t:Tm)(o:Option Sl):Dk (GR u t) o=(Dk u o&&Dk t o):=by
 unfold Dk GR;cases o with
 |none=>rfl
 |some x=>simp only[UZ];cases CO x.ver<;>simp
theorem Ng(u t:Tm)(o:Option Sl):Dk (Dj u t) o=(Dk u o||Dk t o):=by
 unfold Dk Dj;cases o with
 |none=>rfl
 |some x=>simp only[cq];cases CO x.ver<;>simp
def T7(p:ByteArray)(o:Option Sl)(l:List Tm):Bool:=l.all fun t=>!decide (t.path=p)||Dk t o
theorem JM(p:ByteArray)(o:Option Sl):∀(l:List Tm) (a:Option Tm),(∀u,a=some u→u.path=p) →
  (l.foldl (JW p) a=none↔a=none∧l.all (fun t=>!decide (t.path=p))=true)∧(∀u,l.foldl (JW p) a=some u→u.path=p∧Dk u o=((match a with | none=>true | some b=>Dk b o)&&T7 p o l))
 | [],a,ha=>by
  refine⟨by simp,fun u h=>?_⟩;have h:a=some u:=h;subst h;exact⟨ha u rfl,by simp[T7]⟩
 |t::l,a,ha=>by
  rw[Fy]
  by_cases e:t.path=p
  ·have hs:JW p a t=some (NU a t):=by unfold JW;rw[Aw e]
   rw[hs];have ih:=JM p o l (some (NU a t)) (fun u h=>by cases h;rw[PX a t fun u h=>(ha u h).trans e.symm];exact e);refine⟨⟨fun h=>?_,fun h=>?_⟩,fun u h=>?_⟩
   ·have:=ih.1.1 h;cases this.1
   ·simp[e]at h
   ·obtain⟨h1,h2⟩:=ih.2 u h;refine⟨h1,?_⟩;rw[h2]
    have:T7 p o (t::l)=(Dk t o&&T7 p o l):=by simp[T7,e]
    rw[this];cases a with
    |none=>simp[NU,Zi]
    |some b=>simp[NU,XH,Bool.and_assoc]
  ·have hs:JW p a t=a:=by unfold JW;rw[Ai e]
   rw[hs];have ih:=JM p o l a ha
   have:T7 p o (t::l)=T7 p o l:=by simp[T7,e]
   rw[this];refine⟨?_,ih.2⟩;rw[ih.1];simp[e]
theorem BC{l:List Tm}{s:List Sl}:Bg l s=true↔∀t∈l,Dk t (Cc s t.path)=true:=by
 unfold Bg;rw[Bs];simp only[gg]
theorem LB(l:List Tm)(s:List Sl):Bg (EY l) s=Bg l s:=by
 rw[BW,BC,BC];constructor
 ·intro h t ht
  have:=JM t.path (Cc s t.path) l none (fun _ e=>by cases e)
  rw[←IY]at this;cases e:Dm (EY l) t.path with
  |none =>
   have:=(this.1.1 e).2
   rw[Bs]at this
   have:=this t ht
   simp at this
  |some u =>
   obtain⟨h1,h2⟩:=this.2 u e;have hu:=h u (E9 e);rw[h1,h2]at hu;simp only[EF,T7,Bs]at hu
   have:=hu t ht
   simpa using this
 ·intro h u hu;have e:=(FG (Es l)).1 hu
  have:=JM u.path (Cc s u.path) l none (fun _ e=>by cases e)
  rw[←IY]at this;obtain⟨h1,h2⟩:=this.2 u e;rw[h2];simp only[EF,T7,Bs];intro t ht
  by_cases e:t.path=u.path
  ·have:=h t ht;rw[e]at this;simp[this]
  ·simp[e]
theorem ZA{t:Tm}(h:HE t=true)(o:Option Sl):Dk t o=false:=by
 unfold HE at h;simp only[Ag,CU,GO]at h;unfold Dk;cases o with
 |none=>exact h.1
 |some x=>dsimp only;rw[h.2];simp[has]
def F3(s:List Sl):Prop:=∀x∈s,CO x.ver=true
theorem JX{v:Ver}(h:CO v=true):0≤v.a∧v.a≤999∧0≤v.b∧v.b≤999∧0≤v.c∧v.c≤999:=by
 unfold CO at h;simp only[Ag]at h;obtain⟨⟨a,b⟩,c⟩:=h;obtain⟨a1,a2⟩:=Bq a;obtain⟨b1,b2⟩:=Bq b;obtain⟨c1,c2⟩:=Bq c;exact⟨a1,a2,b1,b2,c1,c2⟩
theorem Js{v:Ver}(h:CO v=true):0≤place v∧place v<1000000:=by
 have:=JX h;unfold place;omega
theorem T8{t:Tm}(h:Gu t=true){s:List Sl}(hs:F3 s):Dk t (Cc s t.path)=true:=by
 unfold Gu at h;simp only[Ag,Ay]at h;unfold Dk;cases e:Cc s t.path with
 |none=>exact h.1
 |some x =>
  have:=hs x (Jd e)
  have hp:=Js this;dsimp only;rw[this,h.2];simp[has,BL,hp]
theorem Da{l:List Tm}{s:List Sl}(hs:F3 s):Bg l s=(match CR l with | none=>false | some c=>Bg c s):=by
 unfold CR;split
 ·rename_i h;split at h
  ·rename_i hn;rw[←LB,AK];intro hv;rw[BC]at hv;obtain⟨t,ht,hn⟩:=Bc.1 hn
   have:=hv t ht
   rw[ZA hn]at this;cases this
  ·cases h
 ·rename_i c h;split at h
  ·cases h
  ·rename_i hn;cases h;rw[←LB,BW,BC,BC];constructor
   ·intro h t ht;exact h t (By.1 ht).1
   ·intro h t ht;cases ha:Gu t with
    |true=>exact T8 ha hs
    |false=>exact h t (By.2 ⟨ht,by simp[ha]⟩)
theorem GX(a b:List Tm)(s:List Sl):Bg (a++b) s=(Bg a s&&Bg b s):=by unfold Bg;rw[List.all_append]
theorem EO{l c:List Tm}(h:CR l=some c):Ce none c:=by
 unfold CR at h;split at h
 ·cases h
 ·cases h;exact Ce.filter _ (Es l)
theorem FK{l r:List Tm}{p:ByteArray}{t:Tm}{s:List Sl}(hs:F3 s)(h:Fq l p=some (t,r)):Bg l s=(Dk t (Cc s p)&&Bg r s)∧t.path=p:=by
 unfold Fq at h;cases hc:CR l with
 |none=>rw[hc]at h;cases h
 |some c =>
  rw[hc]at h;dsimp only at h;cases hf:Dm c p with
  |none=>rw[hf]at h;cases h
  |some u =>
   rw[hf]at h;cases h;have hp:=G0 hf;refine⟨?_,hp⟩;rw[Da hs,hc];dsimp only;rw[BW,Ag,BC,BC];constructor
   ·intro h
    have:=h t (E9 hf)
    rw[hp]at this;exact⟨this,fun v hv=>h v (By.1 hv).1⟩
   ·intro⟨h1,h2⟩ v hv
    by_cases e:v.path=p
    ·have:=(FG (EO hc)).1 hv
     rw[e,hf]at this;cases this;rw[e];exact h1
    ·exact h2 v (By.2 ⟨hv,by simp[e]⟩)
theorem TK{a b o:List Tm}{p:ByteArray}{s:List Sl}(hs:F3 s)(h:Bx a b p=(o,0))(hv:Bg o s=true):Bg a s=true∨Bg b s=true:=by
 unfold Bx at h;cases h1:Fq a p with
 |none=>rw[h1]at h;simp at h
 |some x =>
  cases h2:Fq b p with
  |none=>rw[h1,h2]at h;simp at h
  |some y =>
   obtain⟨t,r⟩:=x;obtain⟨u,m⟩:=y;rw[h1,h2]at h;dsimp only at h;cases hc:CR (r++m++[Dj t u])with
   |none=>rw[hc]at h;simp at h
   |some c =>
    rw[hc]at h
    have:c=o:=by simpa using h
    subst this;have e:=Da (l:=r++m++[Dj t u]) hs;rw[hc]at e;dsimp only at e;rw[hv,GX,GX]at e;simp only[Ag]at e;obtain⟨⟨e1,e2⟩,e3⟩:=e;obtain⟨va,pa⟩:=FK hs h1;obtain⟨vb,pb⟩:=FK hs h2;have e3:=BC.1 e3 _ (Am.2 rfl)
    have:(Dj t u).path=p:=pa
    rw[this,Ng,CG]at e3;rcases e3 with e3 | e3
    ·exact .inl (by rw[va,e3,e1];rfl)
    ·exact .inr (by rw[vb,e3,e2];rfl)
theorem PV{l:List Tm}{s:List Sl}(hs:F3 s)(DE:PU l≠[]):Bg (PU l) s=Bg l s:=by
 have:=Da (l:=l) hs
 unfold PU at *
 cases h:CR l with
 |none=>rw[h]at DE;exact absurd rfl DE
 |some c=>rw[h]at this;exact this.symm
-- paths
def G3(c:UInt8):Bool:=decide (97≤c)&&decide (c≤122)
def VQ(c:UInt8):Bool:=decide (65≤c)&&decide (c≤90)
def EW(c:UInt8):Bool:=decide (48≤c)&&decide (c≤57)
def Ms(c:UInt8):Bool:=G3 c||VQ c||EW c||decide (c=95)
def gE:List UInt8:=[32,97,110,100,32,97,110,121,32,97,115,32,98,111,111,108,32,100,101,112,114,101,99,97,116,101,100,32,101,108,115,101,32,101,120,112,111,114,116,32,102,97,108,115,101,32,102,110,32,102,111,108,100,32,102,114,111,109,32,105,102,32,105,109,112,111,114,116,32,105,110,32,105,110,116,32,108,101,110,103,116,104,32,108,101,116,32,108,105,115,116,32,109,97,116,99,104,32,109,111,100,117,108,101,32,110,111,110,101,32,110,111,116,32,111,114,32,116,101,120,116,32,116,104,101,110,32,116,114,117,101,32,116,121,112,101,32,117,115,101,32]
def dz:List UInt8→List UInt8→Bool
 | [],_=>true
 |_::_,[]=>false
 |a::x,b::y=>decide (a=b)&&dz x y
def ta(x:List UInt8):List UInt8→Bool
 | []=>dz x []
 |b::y=>dz x (b::y)||ta x y
def Zp(s:List UInt8):Bool:=ta (32::(s++[32])) gE
def If(s:List UInt8):Bool:=!s.isEmpty&&decide (s.length≤32)&&G3 (s.headD 0)&&s.all Ms&&!Zp s
def Mo(s:List UInt8):Bool:=If s&&s.all fun c=>G3 c||EW c
def GA(s:List UInt8):Int:=s.foldl (fun n c=>10*n+((c.toNat:Int)-48)) 0
def LJ(s:List UInt8):Option Int:=match s with
 |c::r=>if c=118 then(if r.isEmpty||decide (3<r.length)||(decide (1<r.length)&&decide (r.headD 0=48))||!r.all EW then none else some (GA r))else none
 | []=>none
def Fp(c:UInt8):List UInt8→List (List UInt8)
 | []=>[[]]
 |b::r=>if b=c then []::Fp c r else match Fp c r with
  | []=>[[b]]
  |x::l=>(b::x)::l
def Zu(p:List UInt8):Option Int:=match LJ ((Fp 47 p).getLastD [])with
 |none=>none
 |some n=>if 64<p.length||(Fp 47 p).length<2 then none else if(Fp 47 p).all Mo then some n else none
def Ct(p:ByteArray):Option Int:=Zu p.data.toList
-- indexes
def GJ(before:Option ByteArray)(q:Rq):Int :=
 if(Ct q.path).isNone then 4 else if q.set.isEmpty||!decide (q.set=canon q.set)||(match before with | some b=>!Fl b q.path | none=>false)then 1 else 0
def FR(before:Option ByteArray):List Rq→Int
 | []=>0
 |q::r=>if GJ before q=0 then FR (some q.path) r else GJ before q
def BU(l:List Rq):Int:=if 16<l.length then 7 else FR none l
def EV(s:ByteArray):Bool:=decide (s.size=0)||decide (s.size=32)
def Dw(r:Rl):Int:=match Ct r.path with
 |none=>4
 |some m=>if !CO r.ver||!decide (r.ver.a=m)then 2 else if BU r.reqs≠0 then BU r.reqs else if EV r.arch&&EV r.ifc&&EV r.cert then 0 else 1
def FS(a b:Int):Int:=if a<b then -1 else if b<a then 1 else 0
def Gv(a b:ByteArray):Int:=if Fl a b then -1 else if Fl b a then 1 else 0
def LV(a b:Ver):Int:=if FS a.a b.a≠0 then FS a.a b.a else if FS a.b b.b≠0 then FS a.b b.b else FS a.c b.c
def Sm(a b:Rl):Int:=if Gv a.path b.path≠0 then Gv a.path b.path else LV a.ver b.ver
def FM(r:Rl):Sl:=⟨r.path,r.ver⟩
def Dx(before:Option Rl):List Rl→Int
 | []=>0
 |r::l=>if Dw r≠0 then Dw r else match before with
  |none=>Dx (some r) l
  |some b=>if FM b=FM r then 5 else if 0<Sm b r then 1 else Dx (some r) l
def A5(l:List Rl):Int:=if 256<l.length then 7 else Dx none l
def Ec(x:List Rl)(y:Sl):Option Rl:=if A5 x≠0 then none else x.find? fun r=>decide (FM r=y)
def Kc(x:List Rl)(p:ByteArray):List Rl:=if A5 x≠0 then []else x.filter fun r=>decide (r.path=p)
def B8(x:List Rl)(p:ByteArray):Bj:=canon (((Kc x p).filter fun r=>!r.yanked).map fun r=>(plc r.ver,plc r.ver+1))
def SW(before:Option ByteArray):List Sl→Bool
 | []=>true
 |y::r=>(match before with |some b=>Fl b y.path |none=>true)&&SW (some y.path) r
def Lc(s:List Sl):Bool:=SW none s
-- solutions
-- derivations
def Pc(x:List Rl)(p:ByteArray)(pl:Int):Option Rl:=x.find? fun r=>decide (r.path=p)&&decide (plc r.ver=pl)
def mt:ByteArray:=⟨#[]⟩
def Jp{α:Type}(l:List α)(i:Int):Option α:=if i<0 then none else l[i.toNat]?
def cS(l:List Tm):Option (List Tm):=if l.isEmpty then none else some l
def DW(x:List Rl)(roots:List Rq)(d:List (List Tm))(i:Nf):Option (List Tm) :=
 if i.kind=0 then
  if i.path=mt∧i.place=0∧i.left=0∧i.right=0 then(Jp roots i.number).map Ju else none
 else if i.kind=1 then
  if i.left=0∧i.right=0 then match Pc x i.path i.place with
   |none=>none
   |some r=>match Jp r.reqs i.number with
    |none=>none
    |some q=>cS (El i.path i.place q)
  else none
 else if i.kind=2 then
  if i.place=0∧i.number=0∧i.left=0∧i.right=0 then cS (HT i.path (B8 x i.path))else none
 else if i.kind=3 then
  if i.place=0∧i.number=0 then match Jp d i.left,Jp d i.right with
   |some a,some b=>if(Bx a b i.path).2=0 then some (Bx a b i.path).1 else none
   |_,_=>none
  else none
 else none
def Df(x:List Rl)(roots:List Rq):List Nf→List (List Tm)→Option (List (List Tm))
 | [],d=>some d
 |i::l,d=>match DW x roots d i with
  |none=>none
  |some t=>Df x roots l (d++[t])
-- decisions
def Dt(before:List Sl):List Rq→Option ByteArray→Option ByteArray
 | [],acc=>acc
 |q::l,acc=>Dt before l (if CI before q.path then acc else match acc with
  |none=>some q.path
  |some p=>if Fl q.path p then some q.path else some p)
def KG(needs:List Rq)(before:List Sl):Option ByteArray:=Dt before needs none
structure zh where
 before:List Sl
 needs:List Rq
 rel:Rl
-- answers
-- the example
-- the order of releases
theorem Ku{a b:Int}(h:FS a b=0):a=b:=by
 unfold FS at h;split at h
 ·cases h
 ·split at h
  ·cases h
  ·omega
theorem VU{a b:Int}(h:FS a b<0):a<b:=by
 unfold FS at h;split at h
 ·assumption
 ·split at h<;>omega
theorem UP{a b:ByteArray}(h:Gv a b=0):a=b:=by
 unfold Gv at h;cases h1:Fl a b with
 |true=>rw[h1]at h;simp at h
 |false =>
  cases h2:Fl b a with
  |true=>rw[h1,h2]at h;simp at h
  |false=>exact Hs h1 h2
theorem j7{a b:ByteArray}(h:Gv a b<0):Fl a b=true:=by
 unfold Gv at h;cases h1:Fl a b with
 |true=>rfl
 |false=>rw[h1]at h;cases h2:Fl b a<;>rw[h2]at h<;>simp at h
def gK(a b:Ver):Prop:=a.a<b.a∨(a.a=b.a∧(a.b<b.b∨(a.b=b.b∧a.c<b.c)))
def TZ(a b:Rl):Prop:=Fl a.path b.path=true∨(a.path=b.path∧gK a.ver b.ver)
theorem am{a b:Ver}(h:LV a b<0):gK a b:=by
 unfold LV at h;split at h
 ·exact .inl (VU h)
 ·rename_i h1;have h1:=Ku (BM.1 h1);split at h
  ·exact .inr ⟨h1,.inl (VU h)⟩
  ·rename_i h2;exact .inr ⟨h1,.inr ⟨Ku (BM.1 h2),VU h⟩⟩
theorem UQ{a b:Ver}(h:LV a b=0):a=b:=by
 unfold LV at h;split at h
 ·rename_i h1;exact absurd h h1
 ·rename_i h1;have h1:=Ku (BM.1 h1);split at h
  ·rename_i h2;exact absurd h h2
  ·rename_i h2;have h2:=Ku (BM.1 h2);have h3:=Ku h;cases a;cases b;simp_all
theorem bX{a b:Rl}(h:Sm a b=0):FM a=FM b:=by
 unfold Sm at h;split at h
 ·rename_i h1;exact absurd h h1
 ·rename_i h1;have h1:=UP (BM.1 h1);have h2:=UQ h;unfold FM;rw[h1,h2]
theorem j8{a b:Rl}(h:Sm a b<0):TZ a b:=by
 unfold Sm at h;split at h
 ·exact .inl (j7 h)
 ·rename_i h1;exact .inr ⟨UP (BM.1 h1),am h⟩
theorem cQ{a b c:Ver}(h:gK a b)(k:gK b c):gK a c:=by unfold gK at *;omega
theorem Vb{a b c:Rl}(h:TZ a b)(k:TZ b c):TZ a c:=by
 rcases h with h | ⟨h1,h2⟩
 ·rcases k with k | ⟨k1,k2⟩
  ·exact .inl (EB h k)
  ·exact .inl (k1▸h)
 ·rcases k with k | ⟨k1,k2⟩
  ·exact .inl (h1▸k)
  ·exact .inr ⟨h1.trans k1,cQ h2 k2⟩
theorem G1{a b:Rl}(h:TZ a b)(k:FM a=FM b):False:=by
 unfold FM at k;simp only[Sl.mk.injEq]at k;rcases h with h | ⟨_,h⟩
 ·rw[k.1,Di]at h;cases h
 ·rw[k.2]at h;unfold gK at h;omega
-- a valid index
structure RT(r:Rl):Prop where
 maj:Ct r.path=some r.ver.a
 val:CO r.ver=true
 reqs:BU r.reqs=0
theorem YS{r:Rl}(h:Dw r=0):RT r:=by
 unfold Dw at h;split at h
 ·cases h
 ·rename_i m hm;split at h
  ·cases h
  ·rename_i h1;split at h
   ·rename_i h2;exact absurd h h2
   ·rename_i h2;simp only[CG,CU,JL,not_or,BM]at h1;refine⟨by rw[hm,h1.2],by simpa using h1.1,BM.1 h2⟩
theorem KW:∀{l:List Rl} {b:Option Rl},Dx b l=0→(∀r∈l,RT r)∧(l.Pairwise TZ∧∀c,b=some c→∀r∈l,TZ c r)
 | [],b,_=>⟨fun _ h=>(by cases h),.nil,fun _ _ _ h=>(by cases h)⟩
 |r::l,b,h=>by
  unfold Dx at h;split at h
  ·rename_i h1;exact absurd h h1
  ·rename_i h1;have hr:=YS (BM.1 h1);have go:Dx (some r) l=0→(∀c,b=some c→TZ c r)→(∀z∈r::l,RT z)∧((r::l).Pairwise TZ∧∀c,b=some c→∀z∈r::l,TZ c z):=fun h hc=>by
    obtain⟨i1,i2,i3⟩:=KW h;refine⟨fun z hz=>?_,.cons (i3 r rfl) i2,fun c e z hz=>?_⟩
    ·rcases As.1 hz with rfl | hz
     ·exact hr
     ·exact i1 z hz
    ·rcases As.1 hz with rfl | hz
     ·exact hc c e
     ·exact Vb (hc c e) (i3 r rfl z hz)
   cases b with
   |none=>exact go h fun _ e=>by cases e
   |some b =>
    dsimp only at h;split at h
    ·cases h
    ·rename_i hk;split at h
     ·cases h
     ·rename_i hc;refine go h fun c e=>?_;cases e;refine j8 ?_
      have:Sm b r≠0:=fun e=>hk (bX e)
      omega
theorem B9{l:List Rl}(h:A5 l=0):(∀r∈l,RT r)∧l.Pairwise TZ:=by
 unfold A5 at h;split at h
 ·cases h
 ·exact⟨(KW h).1,(KW h).2.1⟩
theorem Te{l:List Rl}(h:l.Pairwise TZ){a b:Rl}(ha:a∈l)(hb:b∈l)(hk:FM a=FM b):a=b:=by
 induction h with
 |nil=>cases ha
 |cons h1 h2 ih =>
  rcases As.1 ha with e1 | ha
  ·rcases As.1 hb with e2 | hb
   ·exact e1.trans e2.symm
   ·exact(G1 (e1▸h1 b hb) hk).elim
  ·rcases As.1 hb with e2 | hb
   ·exact(G1 (e2▸h1 a ha) hk.symm).elim
   ·exact ih ha hb
theorem WF{a b:Ver}(ha:CO a=true)(hb:CO b=true)(h1:a.a=b.a)(h2:place a=place b):a=b:=by
 have:=JX ha
 have:=JX hb
 unfold place at h2;have e1:a.b=b.b:=by omega
 have e2:a.c=b.c:=by omega
 cases a;cases b;simp_all
theorem RT.plc{r:Rl}(h:RT r):plc r.ver=place r.ver:=by unfold Go.Eng.plc;rw[h.val];rfl
theorem bl{l:List Rl}(h:(∀r∈l,RT r)∧l.Pairwise TZ){a b:Rl}(ha:a∈l)(hb:b∈l)(h1:a.path=b.path)(h2:place a.ver=place b.ver):a=b:=by
 refine Te h.2 ha hb ?_
 have:=h.1 a ha
 have:=h.1 b hb
 have e:a.ver.a=b.ver.a:=by
  have e1:=(h.1 a ha).maj;rw[h1,(h.1 b hb).maj]at e1;exact(BP e1).symm
 unfold FM;rw[h1,WF (h.1 a ha).val (h.1 b hb).val e h2]
theorem MC{x:List Rl}{y:Sl}{r:Rl}(h:Ec x y=some r):A5 x=0∧r∈x∧FM r=y:=by
 unfold Ec at h;split at h
 ·cases h
 ·rename_i h1;refine⟨BM.1 h1,BO h,?_⟩
  have:=DK h;simpa using this
structure o8(x:List Rl)(roots:List Rq)(s:List Sl):Prop where
 ix:A5 x=0
 inc:Lc s=true
 fnd:∀y∈s,∃r,Ec x y=some r∧r.yanked=false
 root:∀q∈roots,∃y,Cc s q.path=some y∧has q.set (place y.ver)=true
 req:∀y∈s,∀r,Ec x y=some r→∀q∈r.reqs,∃z,Cc s q.path=some z∧has q.set (place z.ver)=true
theorem S0:∀{s:List Sl} {b:Option ByteArray},SW b s=true→s.Pairwise (fun a b=>Fl a.path b.path=true)∧∀c,b=some c→∀y∈s,Fl c y.path=true
 | [],_,_=>⟨.nil,fun _ _ _ h=>by cases h⟩
 |y::r,b,h=>by
  unfold SW at h;simp only[Ag]at h;obtain⟨h1,h2⟩:=h;obtain⟨i1,i2⟩:=S0 h2;refine⟨.cons (i2 _ rfl) i1,fun c e z hz=>?_⟩;subst e;rcases As.1 hz with rfl | hz
  ·exact h1
  ·exact EB h1 (i2 _ rfl z hz)
theorem M9{s:List Sl}(h:s.Pairwise (fun a b=>Fl a.path b.path=true)){y:Sl}(hy:y∈s):Cc s y.path=some y:=by
 induction h with
 |nil=>cases hy
 |cons h1 h2 ih =>
  rename_i a l;unfold Cc;rw[Fx];rcases As.1 hy with rfl | hy
  ·simp
  ·have:=YN (h1 y hy)
   simp only[this,decide_false];exact ih hy
theorem Xo{s:List Sl}(h:Lc s=true){y:Sl}(hy:y∈s):Cc s y.path=some y:=M9 (S0 h).1 hy
theorem o8.valid{x:List Rl}{roots:List Rq}{s:List Sl}(h:o8 x roots s):F3 s:=fun y hy=>by
 obtain⟨r,h1,_⟩:=h.fnd y hy;obtain⟨_,h2,h3⟩:=MC h1
 have:=((B9 h.ix).1 r h2).val
 rw[←h3];exact this
-- soundness
theorem QZ{q:Rq}{s:List Sl}(h:∃y,Cc s q.path=some y∧has q.set (place y.ver)=true):Dk (DI q) (Cc s q.path)=false:=by
 obtain⟨y,h1,h2⟩:=h;rw[h1];unfold Dk DI;dsimp only;rw[FH,h2];simp
theorem ik{l:List Tm}{s:List Sl}(hs:F3 s)(hn:CR l≠none)(hv:Bg l s=false):Bg (PU l) s=false:=by
 have:=Da (l:=l) hs
 unfold PU;cases h:CR l with
 |none=>exact absurd h hn
 |some c=>rw[h,hv]at this;exact this.symm
theorem X4{l:List Tm}{s:List Sl}(hs:F3 s){o:List Tm}(h:cS (PU l)=some o)(hv:Bg l s=false):Bg o s=false:=by
 unfold cS at h;split at h
 ·cases h
 ·rename_i DE;cases h;rw[PV hs (by intro e;rw[e]at DE;exact DE rfl)];exact hv
theorem ZS(q:Rq):CR [DI q]≠none:=by
 unfold CR EY;simp only[List.foldl,NH]
 have:HE (Lt (DI q))=false:=by simp[HE,Lt,DI]
 simp[this]
theorem OZ{α:Type}{l:List α}{i:Int}{a:α}(h:Jp l i=some a):a∈l:=by
 unfold Jp at h;split at h
 ·cases h
 ·exact Av h
theorem Wh{x:List Rl}{roots:List Rq}{s:List Sl}(hs:o8 x roots s){d:List (List Tm)}(hd:∀t∈d,Bg t s=false){i:Nf}{o:List Tm}(h:DW x roots d i=some o):Bg o s=false:=by
 have hv:=hs.valid;unfold DW at h;split at h
 ·split at h
  ·rw[AZ]at h;obtain⟨q,hq,rfl⟩:=h;refine ik hv (ZS q) ?_;rw[AK];intro hw
   have:=BC.1 hw _ (Am.2 rfl)
   rw[show(DI q).path=q.path from rfl,QZ (hs.root q (OZ hq))]at this;cases this
  ·cases h
 ·split at h
  ·split at h
   ·split at h
    ·cases h
    ·rename_i r hr;split at h
     ·cases h
     ·rename_i q hq;refine X4 hv h ?_;rw[AK];intro hw;have h1:=BC.1 hw _ (Ab ..);have h2:=BC.1 hw (DI q) (by simp);rw[show(DI q).path=q.path from rfl]at h2;dsimp only at h1;cases hf:Cc s i.path with
      |none=>rw[hf]at h1;simp[Dk]at h1
      |some y =>
       rw[hf]at h1;unfold Dk at h1;simp only[Ag]at h1;have hp:place y.ver=i.place:=by
        have:=h1.2
        simp only[has,Cf,List.any_nil,Bool.or_false,Ag,BL,Ay]at this;omega
       have hy:=Jd hf;have vX:=L0 hf;obtain⟨r',e1,e2⟩:=hs.fnd y hy;obtain⟨_,m1,k1⟩:=MC e1;have gp:r∈x:=BO hr;have mn:=DK hr;simp only[Ag,Ay]at mn;have Gz:=B9 hs.ix
       have:r'=r:=by
        refine bl Gz m1 gp ?_ ?_
        ·rw[mn.1,←vX,←k1];rfl
        ·rw[←(Gz.1 r gp).plc,mn.2,←hp,←k1];rfl
       subst this
       have:=hs.req y hy r' e1 q (OZ hq)
       rw[QZ this]at h2;cases h2
   ·cases h
  ·split at h
   ·split at h
    ·refine X4 hv h ?_;rw[AK];intro hw;have h1:=BC.1 hw _ (Am.2 rfl);dsimp only at h1;cases hf:Cc s i.path with
     |none=>rw[hf]at h1;simp[Dk]at h1
     |some y =>
      rw[hf]at h1;unfold Dk at h1;simp only[Ag]at h1;have hy:=Jd hf;have vX:=L0 hf;obtain⟨r,e1,e2⟩:=hs.fnd y hy;obtain⟨_,m1,k1⟩:=MC e1;have Gz:=B9 hs.ix;have h1:=h1.2;rw[FH]at h1;have jt:=Js (hv y hy)
      have:has (B8 x i.path) (place y.ver)=true:=by
       unfold B8;rw[Ha];unfold has;simp only[jt,decide_true,EF,Bc,Al,By];refine⟨(plc r.ver,plc r.ver+1),⟨r,⟨?_,by simp[e2]⟩,rfl⟩,?_⟩
       ·unfold Kc;simp only[hs.ix,Vd,not_true,Fg,By,m1,true_and,Ay];rw[←vX,←k1];rfl
       ·rw[(Gz.1 r m1).plc,←k1];rw[DQ];exact⟨AY _,by show place r.ver<place r.ver+1;omega⟩
      rw[this]at h1;simp at h1
    ·cases h
   ·split at h
    ·split at h
     ·split at h
      ·rename_i a b ha hb;split at h
       ·rename_i h0;cases h;rw[AK];intro hw;rcases TK hv (o:=(Bx a b i.path).1) (Prod.ext rfl h0) hw with hw | hw
        ·rw[hd a (OZ ha)]at hw;cases hw
        ·rw[hd b (OZ hb)]at hw;cases hw
       ·cases h
      ·cases h
     ·cases h
    ·cases h
theorem LX{x:List Rl}{roots:List Rq}{s:List Sl}(hs:o8 x roots s):∀{l:List Nf} {d d' : List (List Tm)},(∀t∈d,Bg t s=false)→Df x roots l d=some d'→∀t∈d',Bg t s=false
 | [],d,d',hd,h=>by cases h;exact hd
 |i::l,d,d',hd,h=>by
  unfold Df at h;split at h
  ·cases h
  ·rename_i o ho;refine LX hs (fun t ht=>?_) h;rcases A8.1 ht with ht | ht
   ·exact hd t ht
   ·rw[Am.1 ht];exact Wh hs hd ho
theorem Ij{α:Type}[DecidableEq α]:∀{l m:List α},l.Nodup→(∀x∈l,x∈m)→l.length≤m.length
 | [],_,_,_=>AL _
 |a::l,m,hn,hs=>by
  rw[CA]at hn;have ha:a∈m:=hs a (Ab ..)
  have:=Ij (l:=l) (m:=m.erase a) hn.2 fun x hx=>by
   have:x≠a:=fun e=>hn.1 (e▸hx)
   exact(List.mem_erase_of_ne this).2 (hs x (Af _ hx))
  rw[List.length_erase_of_mem ha]at this
  have:=List.length_pos_of_mem ha
  simp only[Au];omega
abbrev VE(s:List Sl):Prop:=s.Pairwise (fun a b=>Fl a.path b.path=true)
-- the next path
theorem JT(before:List Sl):∀{l:List Rq} {acc:Option ByteArray},(∀p,acc=some p→CI before p=false) →
  (∀p,Dt before l acc=some p→CI before p=false∧(acc=some p∨∃q∈l,q.path=p))∧(Dt before l acc=none→acc=none∧∀q∈l,CI before q.path=true)
 | [],acc,ha=>⟨fun p h=>⟨ha p h,.inl h⟩,fun h=>⟨h,fun _ h=>(by cases h)⟩⟩
 |q::l,acc,ha=>by
  unfold Dt
  have key:∀bG,(∀p,bG=some p→CI before p=false)→(∀p,bG=some p→acc=some p∨q.path=p)→(bG=none→acc=none∧CI before q.path=true) →
    (∀p,Dt before l bG=some p→CI before p=false∧(acc=some p∨∃q'∈q::l,q'.path=p))∧(Dt before l bG=none→acc=none∧∀q'∈q::l,CI before q'.path=true):=by
   intro bG h1 h2 h3;obtain⟨i1,i2⟩:=JT before (l:=l) h1;refine⟨fun p h=>?_,fun h=>?_⟩
   ·obtain⟨j1,j2⟩:=i1 p h;refine⟨j1,?_⟩;rcases j2 with j2 | ⟨q',j3,j4⟩
    ·rcases h2 p j2 with h2 | h2
     ·exact .inl h2
     ·exact .inr ⟨q,Ab ..,h2⟩
    ·exact .inr ⟨q',Af _ j3,j4⟩
   ·obtain⟨j1,j2⟩:=i2 h;obtain⟨k1,k2⟩:=h3 j1;refine⟨k1,fun q' hq=>?_⟩;rcases As.1 hq with rfl | hq
    ·exact k2
    ·exact j2 q' hq
  cases hb:CI before q.path with
  |true=>simp only[Kz];exact key acc ha (fun p h=>.inl h) fun h=>⟨h,hb⟩
  |false =>
   simp only[Cy,Fg];cases acc with
   |none=>exact key _ (fun p h=>by cases h;exact hb) (fun p h=>by cases h;exact .inr rfl) fun h=>by cases h
   |some p0 =>
    dsimp only;split
    ·exact key _ (fun p h=>by cases h;exact hb) (fun p h=>by cases h;exact .inr rfl) fun h=>by cases h
    ·exact key _ (fun p h=>by cases h;exact ha _ rfl) (fun p h=>by cases h;exact .inl rfl) fun h=>by cases h
theorem Tt{needs:List Rq}{before:List Sl}{p:ByteArray}(h:KG needs before=some p):CI before p=false∧∃q∈needs,q.path=p:=by
 obtain⟨h1,h2⟩:=(JT before (l:=needs) (acc:=none) fun _ e=>by cases e).1 p h;rcases h2 with h2 | h2
 ·cases h2
 ·exact⟨h1,h2⟩
theorem ZB{needs:List Rq}{before:List Sl}(h:KG needs before=none):∀q∈needs,CI before q.path=true :=
 ((JT before (l:=needs) (acc:=none) fun _ e=>by cases e).2 h).2
theorem SJ(a b:List Sl)(p:ByteArray):CI (a++b) p=(CI a p||CI b p):=by unfold CI;rw[Ho]
theorem K8{s:List Sl}{p:ByteArray}:CI s p=true↔∃y∈s,y.path=p:=by unfold CI;simp
theorem G9{s:List Sl}{p:ByteArray}:CI s p=true↔p∈s.map (·.path):=by rw[K8,Al]
-- what is needed
-- skips
theorem VX{t:List Tm}{b s:List Sl}(hs:Lc s=true)(hb:∀y∈b,y∈s)(h:CF t b=true):Bg t s=true:=by
 unfold CF at h;simp only[Ag,CU,Fs]at h;obtain⟨h1,h2⟩:=h;rw[BC]at h1⊢;intro u hu
 have:=h2 u hu
 simp only[Bool.not_eq_false]at this;rw[JN]at this;cases hf:Cc b u.path with
 |none=>rw[hf]at this;cases this
 |some y =>
  have h3:=h1 u hu;rw[hf]at h3
  have:=Xo hs (hb y (Jd hf))
  rw[L0 hf]at this;rw[this];exact h3
-- right answers
-- the first decision that differs
-- prefixes
theorem IW{x:List Rl}{roots:List Rq}:∀{l:List Nf} {d d' : List (List Tm)},Df x roots l d=some d'→d'.length=d.length+l.length
 | [],d,d',h=>by cases h;rfl
 |i::l,d,d',h=>by
  unfold Df at h;split at h
  ·cases h
  ·have:=IW h
   simp only[Ad,Au,AD]at this⊢;omega
theorem GV{x:List Rl}{roots:List Rq}:∀(l m:List Nf) (d:List (List Tm)),Df x roots (l++m) d=match Df x roots l d with | none=>none | some d'=>Df x roots m d'
 | [],_,_=>rfl
 |i::l,m,d=>by
  show(match DW x roots d i with | none=>none | some t=>Df x roots (l++m) (d++[t]))=(match(match DW x roots d i with | none=>none | some t=>Df x roots l (d++[t]))with | none=>none | some d'=>Df x roots m d');cases DW x roots d i with
  |none=>rfl
  |some t=>exact GV l m _
theorem Lu{x:List Rl}{roots:List Rq}:∀{l:List Nf} {d d' : List (List Tm)},Df x roots l d=some d'→d <+: d'
 | [],d,d',h=>by cases h;exact List.prefix_refl _
 |i::l,d,d',h=>by
  unfold Df at h;split at h
  ·cases h
  ·exact(N7 _ _).trans (Lu h)
theorem M5{x:List Rl}{roots:List Rq}{l:List Nf}{d:List (List Tm)}(h:Df x roots l []=some d)(k:Nat):Df x roots (l.take k) []=some (d.take k):=by
 rw[←Lq k l,GV]at h;cases e:Df x roots (l.take k) []with
 |none=>rw[e]at h;cases h
 |some f =>
  rw[e]at h;dsimp only at h;have h1:=IW e;have h2:=IW h;have h3:=Lu h
  congr 1
  simp only[AD,AJ,Ar]at h1 h2;obtain⟨z,rfl⟩:=h3
  by_cases hk:k≤l.length
  ·rw[D7 (by omega),AS (by omega)]
  ·rw[Ad]at h2
   have:z=[]:=AC (by omega)
   subst this;rw[B2,AS (by omega)]
def KQ(l:List Tm):Prop:=CR l=some l
theorem dA{l:List Tm}:∀(l2:List Tm),Ce none (l2++l)→l.foldl (fun acc t=>NH t acc) l2=l2++l:=by
 induction l with
 |nil=>intro l2 _;simp
 |cons t r ih =>
  intro l2 h;have hi:NH t l2=l2++[t]:=by
   have:∀(m:List Tm) (lo:Option ByteArray),Ce lo (m++t::r)→NH t m=m++[t]:=by
    intro m
    induction m with
    |nil =>
     intro lo hm;have hc:EH t.set:=hm.2.1;unfold NH;rw[show Lt t=t from oT rfl rfl (Jb hc)];rfl
    |cons u m ihm =>
     intro lo hm;have hm:Ce lo (u::(m++t::r)):=hm;have DL:=Ce.low hm.2.2 t (by simp);unfold NH;rw[Aw DL,ihm _ hm.2.2];rfl
   exact this l2 none h
  rw[Fy,hi]
  have:=ih (l2++[t]) (by rw[AP];exact h)
  rw[this,AP];rfl
theorem PQ{l:List Tm}(h:Ce none l):EY l=l:=by
 have:=dA (l:=l) [] h
 simpa[EY]using this
theorem QE{l c:List Tm}(h:CR l=some c):KQ c:=by
 have hs:=EO h;unfold KQ;unfold CR at h⊢;rw[PQ hs];split at h
 ·cases h
 ·rename_i hn;cases h;rw[Ai]
  ·congr 1
   rw[List.filter_filter];simp
  ·rw[Bool.not_eq_true,Fs]at hn⊢;intro t ht;exact hn t (By.1 ht).1
theorem OE:KQ []:=rfl
theorem Mj(l:List Tm):KQ (PU l):=by
 unfold PU;cases h:CR l with
 |none=>exact OE
 |some c=>exact QE h
theorem Nq(a b:List Tm)(p:ByteArray):KQ (Bx a b p).1:=by
 unfold Bx;split
 ·split
  ·rename_i h;exact QE h
  ·exact OE
 ·exact OE
theorem X3{l o:List Tm}(h:cS l=some o):o=l:=by unfold cS at h;split at h<;>cases h;rfl
theorem XM{x:List Rl}{roots:List Rq}{d:List (List Tm)}{i:Nf}{o:List Tm}(h:DW x roots d i=some o):KQ o:=by
 unfold DW at h;split at h
 ·split at h
  ·rw[AZ]at h;obtain⟨q,_,rfl⟩:=h;exact Mj _
  ·cases h
 ·split at h
  ·split at h
   ·split at h
    ·cases h
    ·split at h
     ·cases h
     ·rw[X3 h];exact Mj _
   ·cases h
  ·split at h
   ·split at h
    ·rw[X3 h];exact Mj _
    ·cases h
   ·split at h
    ·split at h
     ·split at h
      ·split at h
       ·cases h;exact Nq _ _ _
       ·cases h
      ·cases h
     ·cases h
    ·cases h
theorem M4{x:List Rl}{roots:List Rq}:∀{l:List Nf} {d d' : List (List Tm)},(∀t∈d,KQ t)→Df x roots l d=some d'→∀t∈d',KQ t
 | [],d,d',hd,h=>by cases h;exact hd
 |i::l,d,d',hd,h=>by
  unfold Df at h;split at h
  ·cases h
  ·rename_i o ho;refine M4 (fun t ht=>?_) h;rcases A8.1 ht with ht | ht
   ·exact hd t ht
   ·rw[Am.1 ht];exact XM ho
-- tampering
end Go.Eng
