/- Lemmas for the claims of this seat, without a condition: part 1 (P1, P2, P3, P4, P5, P6, P7). -/
import Derived.Test.YtddfphmpfnmknaaGreatDoorA00
namespace Go.Eng
def BE(p:Int)(s:Int×Int):Bool:=decide (s.1≤p)&&decide (p<s.2)
def has(s:List (Int×Int))(p:Int):Bool:=decide (0≤p)&&decide (p<1000000)&&s.any (BE p)
abbrev Bh:=List (Int×Int)
def EC(lo:Int):Bh→Prop
 | []=>True
 |y::r=>lo≤y.1∧y.1<y.2∧y.2≤1000000∧EC (y.2+1) r
abbrev Ew(l:Bh):Prop:=EC 0 l
def Va(x:Int×Int):Bh→Bh
 | []=>[x]
 |y::r=>if x.2<y.1 then x::y::r else if y.2<x.1 then y::Va x r else Va (min x.1 y.1,max x.2 y.2) r
def Ha(x:Int×Int):Int×Int:=(max x.1 0,min x.2 1000000)
def canon:Bh→Bh
 | []=>[]
 |x::r=>if(Ha x).1<(Ha x).2 then Va (Ha x) (canon r)else canon r
def KN(at_:Int):Bh→Bh
 | []=>if at_<1000000 then [(at_,1000000)]else []
 |y::r=>if at_<y.1 then(at_,y.1)::KN y.2 r else KN y.2 r
def Ee(s:Bh):Bh:=KN 0 (canon s)
def PJ(l:List Bh):Bh:=canon l.flatten
def Pk(l:List Bh):Bh:=Ee (l.map Ee).flatten
def OO(a b:Bh):Bh:=PJ [a,b]
def Om(a b:Bh):Bh:=Pk [a,b]
theorem EC.mono{lo Hs : Int}:∀{l:Bh},EC lo l→Hs≤lo→EC Hs l
 | [],_,_=>trivial
 |_::_,⟨h1,h2,h3,h4⟩,h=>⟨Int.le_trans h h1,h2,h3,h4⟩
theorem EC.low{lo:Int}:∀{l:Bh},EC lo l→∀y∈l,lo≤y.1∧y.1<y.2∧y.2≤1000000
 |y::r,⟨h1,h2,h3,h4⟩,z,hz=>by
  rcases Av.1 hz with rfl | hz
  ·exact⟨h1,h2,h3⟩
  ·have:=h4.low z hz
   exact⟨by omega,this.2.1,this.2.2⟩
theorem DC{p:Int}{s:Int×Int}:BE p s=true↔s.1≤p∧p<s.2:=by simp[BE]
theorem Md{lo:Int}{l:Bh}(h:EC lo l){p:Int}(hp:l.any (BE p)=true):lo≤p:=by
 obtain⟨y,hy,h2⟩:=Bd.1 hp
 have:=h.low y hy
 have:=DC.1 h2
 omega
theorem dg{lo:Int}{l:Bh}(h:EC lo l){p:Int}(hp:l.any (BE p)=true):p<1000000:=by
 obtain⟨y,hy,h2⟩:=Bd.1 hp
 have:=h.low y hy
 have:=DC.1 h2
 omega
theorem M3:∀(l:Bh) {lo:Int} {x:Int×Int},EC lo l→lo≤x.1→x.1<x.2→x.2≤1000000→EC lo (Va x l)
 | [],lo,x,_,h1,h2,h3=>⟨h1,h2,h3,trivial⟩
 |y::r,lo,x,⟨g1,g2,g3,g4⟩,h1,h2,h3=>by
  unfold Va;split
  ·exact⟨h1,h2,h3,by omega,g2,g3,g4⟩
  ·split
   ·exact⟨g1,g2,g3,M3 r g4 (by omega) h2 h3⟩
   ·refine M3 r (g4.mono (by omega)) ?_ ?_ ?_<;>dsimp only<;>omega
theorem NN:∀(l:Bh) {lo:Int} {x:Int×Int} (p:Int),EC lo l→x.1<x.2→(Va x l).any (BE p)=(BE p x||l.any (BE p))
 | [],lo,x,p,_,_=>by simp[Va]
 |y::r,lo,x,p,⟨g1,g2,g3,g4⟩,h2=>by
  unfold Va;split
  ·simp
  ·split
   ·rw[B4,NN r p g4 h2,B4,←Bool.or_assoc,←Bool.or_assoc,Bool.or_comm (BE p y)]
   ·rw[NN r p g4 (by dsimp only;omega),B4,←Bool.or_assoc]
    congr 1
    simp only[BE];rw[BN];simp only[Ae,Ci,Au];omega
theorem B9:∀s:Bh,Ew (canon s)
 | []=>trivial
 |x::r=>by
  unfold canon;split
  ·rename_i h;refine M3 _ (B9 r) ?_ h ?_<;>simp only[Ha]<;>omega
  ·exact B9 r
theorem Kh:∀(s:Bh) (p:Int),(canon s).any (BE p)=has s p
 | [],p=>by simp[has,canon]
 |x::r,p=>by
  have ih:=Kh r p;unfold canon;have hx:BE p (Ha x)=(decide (0≤p)&&decide (p<1000000)&&BE p x):=by
   simp only[BE,Ha];rw[BN];simp only[Ae,Au,Int.max_le,Int.lt_min];omega
  split
  ·rename_i h;rw[NN _ p (B9 r) h,ih,hx];simp only[has,B4];cases decide (0≤p)<;>cases decide (p<1000000)<;>simp
  ·rename_i h;rw[ih];simp only[has,B4]
   have:BE p (Ha x)=false:=by
    rw[AM];intro h3
    have:=DC.1 h3
    omega
   rw[this]at hx;cases h1:decide (0≤p)<;>cases h2:decide (p<1000000)<;>simp_all
theorem Hp{l:Bh}(h:Ew l)(p:Int):has l p=l.any (BE p):=by
 unfold has;cases e:l.any (BE p)with
 |false=>simp
 |true=>have h1:0≤p:=Md h e;have h2:=dg h e;simp[h1,h2]
theorem G0(s:Bh)(p:Int):has (canon s) p=has s p:=by
 rw[Hp (B9 s),Kh]
theorem MK:∀{a b:Bh} {lo:Int},EC lo a→EC lo b→(∀p,a.any (BE p)=b.any (BE p))→a=b
 | [],[],_,_,_,_=>rfl
 | [],z::s,_,_,⟨g1,g2,g3,g4⟩,h=>by
  have:=h z.1
  rw[B4,DC.2 ⟨BO _,g2⟩]at this;simp at this
 |y::r,[],_,⟨g1,g2,g3,g4⟩,_,h=>by
  have:=h y.1
  rw[B4,DC.2 ⟨BO _,g2⟩]at this;simp at this
 |y::r,z::s,lo,⟨f1,f2,f3,f4⟩,⟨g1,g2,g3,g4⟩,h=>by
  have below:∀{x:Int×Int} {t:Bh} {p:Int},EC (x.2+1) t→(x::t).any (BE p)=true→p≤x.2→x.1≤p∧p<x.2:=fun {x t p} ht hp Hb=>by
   rw[B4,Ci]at hp;rcases hp with hp | hp
   ·exact DC.1 hp
   ·have:=Md ht hp;omega
  have low:∀{x:Int×Int} {t:Bh} {p:Int},x.1<x.2→EC (x.2+1) t→(x::t).any (BE p)=true→x.1≤p:=fun {x t p} hx ht hp=>by
   rw[B4,Ci]at hp;rcases hp with hp | hp
   ·exact(DC.1 hp).1
   ·have:=Md ht hp;omega
  have cov:∀{x:Int×Int} {t:Bh} {p:Int},x.1≤p→p<x.2→(x::t).any (BE p)=true:=fun {x t p} h1 h2=>by
   rw[B4,DC.2 ⟨h1,h2⟩,Bool.true_or]
  have e1:y.1=z.1:=by
   have a1:=low f2 f4 ((h z.1).trans (cov (BO _) g2));have a2:=low g2 g4 ((h y.1).symm.trans (cov (BO _) f2));omega
  have e2:y.2=z.2:=by
   rcases Int.lt_trichotomy y.2 z.2 with hl | he | hl
   ·have:=below f4 ((h y.2).trans (cov (by omega) hl)) (BO _);omega
   ·exact he
   ·have:=below g4 ((h z.2).symm.trans (cov (by omega) hl)) (BO _);omega
  have e:y=z:=Prod.ext e1 e2;subst e
  congr 1
  refine MK f4 g4 fun p=>?_;have hp:=h p;simp only[B4]at hp;cases hs:BE p y with
  |false=>rw[hs,Ls,Ls]at hp;exact hp
  |true =>
   have:=DC.1 hs
   have n:∀{t:Bh},EC (y.2+1) t→t.any (BE p)=false:=fun {t} ht=>by
    rw[AM];intro hx;have:=Md ht hx;omega
   rw[n f4,n g4]
theorem Hj{a b:Bh}(ha:Ew a)(hb:Ew b)(h:∀p,has a p=has b p):a=b :=
 MK ha hb fun p=>by rw[←Hp ha,←Hp hb,h]
theorem RD{a s:Bh}(ha:Ew a)(h:∀p,has a p=has s p):a=canon s :=
 Hj ha (B9 s) fun p=>by rw[h,G0]
theorem I4{a:Bh}(ha:Ew a):canon a=a:=(RD ha fun _=>rfl).symm
theorem LI{s:Bh}{p:Int}(h:has s p=true):0≤p∧p<1000000:=by
 unfold has at h;simp only[Ae,Au]at h;exact h.1
def Lo(p:Int):Bool:=decide (0≤p)&&decide (p<1000000)
theorem KO:∀(l:Bh) {at_ lo:Int},0≤at_→EC lo l→lo≤at_+1→at_≤lo→EC at_ (KN at_ l)∧∀p,(KN at_ l).any (BE p)=(decide (at_≤p)&&decide (p<1000000)&&!l.any (BE p))
 | [],at_,lo,h0,_,h1,h2=>by
  unfold KN;split
  ·exact⟨⟨BO _,by dsimp only;omega,BO _,trivial⟩,fun p=>by simp[BE]⟩
  ·refine⟨trivial,fun p=>?_⟩
   have:(decide (at_≤p)&&decide (p<1000000))=false:=by
    rw[AM];simp only[UG,Ae,Au];omega
   simp[this]
 |y::r,at_,lo,h0,⟨g1,g2,g3,g4⟩,h1,h2=>by
  have ih:=KO r (at_:=y.2) (by omega) g4 (BO _) (by omega);have key:∀p,(decide (at_≤p)&&decide (p<y.1)||(KN y.2 r).any (BE p))=(decide (at_≤p)&&decide (p<1000000)&&!(y::r).any (BE p)):=fun p=>by
   rw[ih.2,B4];cases hr:r.any (BE p)with
   |true =>
    have:=Md g4 hr
    have a:decide (p<y.1)=false:=At (by omega);simp[a]
   |false =>
    rw[BN];simp only[BE,Ae,Ci,Au,CG,Bool.or_false,Bool.and_eq_false_iff,Jy,Bool.not_false,and_true];omega
  unfold KN;split
  ·rename_i h;refine⟨⟨BO _,h,by dsimp only;omega,ih.1 |> fun c=>?_⟩,fun p=>?_⟩
   ·dsimp only;cases e:KN y.2 r with
    |nil=>trivial
    |cons z s =>
     rw[e]at c;exact⟨by have:=c.1;omega,c.2⟩
   ·rw[B4,←key];rfl
  ·rename_i h;refine⟨ih.1.mono (by omega),fun p=>?_⟩;rw[←key]
   have:(decide (at_≤p)&&decide (p<y.1))=false:=by
    rw[AM];simp only[UG,Ae,Au];omega
   rw[this,Ls]
theorem GY(s:Bh):Ew (Ee s):=by
 unfold Ee;exact(KO _ (BO _) (B9 s) (by omega) (BO _)).1
theorem Fx(s:Bh)(p:Int):has (Ee s) p=(Lo p&&!has s p):=by
 rw[Hp (GY s)];unfold Ee;rw[(KO _ (BO _) (B9 s) (by omega) (BO _)).2,Kh];rfl
theorem Yu(a b:Bh)(p:Int):has (a++b) p=(has a p||has b p):=by
 simp only[has,He];cases decide (0≤p)<;>cases decide (p<1000000)<;>simp
theorem LH:∀(l:List Bh) (p:Int),has l.flatten p=l.any fun s=>has s p
 | [],p=>by simp[has]
 |s::l,p=>by rw[Bv,Yu,LH l p,B4]
theorem Se(l:List Bh)(p:Int):has (PJ l) p=l.any fun s=>has s p:=by
 unfold PJ;rw[G0,LH]
theorem VZ(l:List Bh):Ew (PJ l):=B9 _
theorem VI(l:List Bh):Ew (Pk l):=GY _
theorem Sd(l:List Bh)(p:Int):has (Pk l) p=(Lo p&&l.all fun s=>has s p):=by
 unfold Pk;rw[Fx,LH,List.any_map];cases h:Lo p with
 |false=>rfl
 |true =>
  rw[Ev,Ev,List.not_any_eq_all_not]
  congr 1
  funext s
  simp[Fx,h]
theorem XR(a b:Bh):Ew (OO a b):=B9 _
theorem Qi(a b:Bh):Ew (Om a b):=GY _
theorem aZ(a b:Bh)(p:Int):has (OO a b) p=(has a p||has b p):=by
 unfold OO;rw[Se];simp
theorem Ur(a b:Bh)(p:Int):has (Om a b) p=(has a p&&has b p):=by
 unfold Om;rw[Sd];simp only[List.all_cons,List.all_nil,Bool.and_true];cases h:has a p with
 |false=>simp
 |true=>have:=LI h;simp[Lo,this]
theorem YB(s:Bh):Om s s=canon s:=Hj (Qi _ _) (B9 _) fun p=>by rw[Ur,G0,Bool.and_self]
theorem TG{s:Bh}:canon s=[]↔∀p,has s p=false:=by
 constructor
 ·intro h p;rw[←G0,h];simp[has]
 ·intro h;exact Hj (B9 s) (b:=[]) trivial fun p=>by rw[G0,h p];simp[has]
theorem Pp{s:Bh}(hs:Ew s):s=[]↔∀p,has s p=false:=by
 rw[←TG,I4 hs]
def cI(l:List Bh)(p:Int):Nat:=l.countP fun s=>has s p
theorem RC:∀{l:Bh} {lo:Int},EC lo l→lo≤1000000→(l.length:Int)≤1000000-lo
 | [],lo,_,h=>by simp;omega
 |y::r,lo,⟨g1,g2,g3,g4⟩,h=>by
  by_cases h3:y.2+1≤1000000
  ·have:=RC g4 h3
   simp only[Ay];omega
  ·cases r with
   |nil=>simp;omega
   |cons z s=>have:=g4.1;have:=g4.2.1;have:=g4.2.2.1;omega
theorem HR{l:Bh}(h:Ew l):l.length≤1000000:=by have:=RC h (by omega);omega
structure Ver where
 (a b c:Int)
structure Rq where
 path:ByteArray
 set:List (Int×Int)
structure Rl where
 path:ByteArray
 ver:Ver
 reqs:List Rq
 (arch ifc cert:ByteArray)
 yanked:Bool
structure Sl where
 path:ByteArray
 ver:Ver
structure Tm where
 path:ByteArray
 absent:Bool
 set:List (Int×Int)
structure Nf where
 kind:Int
 path:ByteArray
 (place number left right:Int)
structure Sk where
 path:ByteArray
 (place inf:Int)
structure An where
 found:Bool
 sel:List Sl
 infs:List Nf
 skips:List Sk
instance:DecidableEq Ver:=fun x y=>decidable_of_iff (x.a=y.a∧x.b=y.b∧x.c=y.c) ⟨fun⟨h1,h2,h3⟩=>by cases x;cases y;simp_all,fun h=>by subst h;exact⟨rfl,rfl,rfl⟩⟩
instance:DecidableEq Sl:=fun x y=>decidable_of_iff (x.path=y.path∧x.ver=y.ver) ⟨fun⟨h1,h2⟩=>by cases x;cases y;simp_all,fun h=>by subst h;exact⟨rfl,rfl⟩⟩
theorem ny{x y:Tm}(h1:x.path=y.path)(h2:x.absent=y.absent)(h3:x.set=y.set):x=y:=by cases x;cases y;simp_all
def okPart(n:Int):Prop:=0≤n∧n≤999
instance (n:Int):Decidable (okPart n):=by unfold okPart;infer_instance
def Cq(v:Ver):Bool:=decide (okPart v.a)&&decide (okPart v.b)&&decide (okPart v.c)
def place(v:Ver):Int:=1000*v.b+v.c
def plc(v:Ver):Int:=if Cq v then place v else 0
def BX(s:List Sl)(p:ByteArray):Option Sl:=s.find? fun x=>decide (x.path=p)
def Gr(t:Tm)(s:List Sl):Bool :=
 match s.find? (fun x=>decide (x.path=t.path))with
 |none=>t.absent
 |some x=>Cq x.ver&&has t.set (place x.ver)
def Ct(s:List Sl)(p:ByteArray):Bool:=s.any fun x=>decide (x.path=p)
def Bb(l:List Tm)(s:List Sl):Bool:=l.all fun t=>Gr t s
def Cp(l:List Tm)(s:List Sl):Bool:=Bb l s&&!l.any fun t=>!Ct s t.path
def HX:List UInt8→List UInt8→Bool
 | [],[]=>false
 | [],_::_=>true
 |_::_,[]=>false
 |a::x,b::y=>decide (a<b)||(decide (a=b)&&HX x y)
def Ep(a b:ByteArray):Bool:=HX a.data.toList b.data.toList
theorem Ql:∀x,HX x x=false
 | []=>rfl
 |a::x=>by
  unfold HX;simp[Ql x]
theorem Nr:∀{x y z},HX x y=true→HX y z=true→HX x z=true
 | [],[],_,h,_=>by simp[HX]at h
 | [],_::_,[],_,h=>by simp[HX]at h
 | [],_::_,_::_,_,_=>rfl
 |_::_,[],_,h,_=>by simp[HX]at h
 |_::_,_::_,[],_,h=>by simp[HX]at h
 |a::x,b::y,c::z,h1,h2=>by
  unfold HX at *
  simp only[Ci,Ae,Au]at *
  rcases h1 with h1 | ⟨rfl,h1⟩
  ·rcases h2 with h2 | ⟨rfl,h2⟩
   ·exact .inl (UInt8.lt_trans h1 h2)
   ·exact .inl h1
  ·rcases h2 with h2 | ⟨rfl,h2⟩
   ·exact .inl h2
   ·exact .inr ⟨rfl,Nr h1 h2⟩
theorem SF:∀{x y},HX x y=false→HX y x=false→x=y
 | [],[],_,_=>rfl
 | [],_::_,h,_=>by simp[HX]at h
 |_::_,[],_,h=>by simp[HX]at h
 |a::x,b::y,h1,h2=>by
  unfold HX at *
  simp only[Bool.or_eq_false_iff,Bool.and_eq_false_iff,Jy]at *
  have e:a=b:=by
   have l1:=UInt8.not_lt.1 h1.1;have l2:=UInt8.not_lt.1 h2.1;exact UInt8.le_antisymm l2 l1
  subst e
  have:=SF (x:=x) (y:=y) (by simpa using h1.2) (by simpa using h2.2)
  rw[this]
theorem sq{a b:ByteArray}(h:a.data.toList=b.data.toList):a=b:=by
 cases a;cases b;simp only[ByteArray.mk.injEq];exact It.1 h
theorem C3(a:ByteArray):Ep a a=false:=Ql _
theorem DP{a b c:ByteArray}(h:Ep a b=true)(k:Ep b c=true):Ep a c=true:=Nr h k
theorem Hi{a b:ByteArray}(h:Ep a b=false)(k:Ep b a=false):a=b:=sq (SF h k)
theorem HQ{a b:ByteArray}(h:Ep a b=true):a≠b:=fun e=>by subst e;rw[C3]at h;cases h
theorem Mf{a b:ByteArray}(h:Ep a b=true):Ep b a=false:=by
 rw[AM];intro k;have:=DP h k;rw[C3]at this;cases this
def K8(t:Tm):Tm:=⟨t.path,t.absent,canon t.set⟩
def GD(u t:Tm):Tm:=⟨u.path,u.absent&&t.absent,Om u.set t.set⟩
def Nl(t:Tm):List Tm→List Tm
 | []=>[K8 t]
 |u::r=>if Ep u.path t.path then u::Nl t r else if u.path=t.path then GD u t::r else K8 t::u::r
def EP(l:List Tm):List Tm:=l.foldl (fun acc t=>Nl t acc) []
def Hw(t:Tm):Bool:=!t.absent&&t.set.isEmpty
def Gi(t:Tm):Bool:=t.absent&&decide (t.set=[(0,1000000)])
def CD(l:List Tm):Option (List Tm):=if(EP l).any Hw then none else some ((EP l).filter fun t=>!Gi t)
def Pq(l:List Tm):List Tm:=(CD l).getD []
def Dx(q:Rq):Tm:=⟨q.path,true,Ee q.set⟩
def Jj(q:Rq):List Tm:=Pq [Dx q]
def Ed(path:ByteArray)(pl:Int)(q:Rq):List Tm:=Pq [⟨path,false,[(pl,pl+1)]⟩,Dx q]
def HM(path:ByteArray)(oD:Bh):List Tm:=Pq [⟨path,false,Ee oD⟩]
def Dc(l:List Tm)(p:ByteArray):Option Tm:=l.find? fun t=>decide (t.path=p)
def FC(l:List Tm)(p:ByteArray):List Tm:=l.filter fun t=>!decide (t.path=p)
def Da(a b:Tm):Tm:=⟨a.path,a.absent||b.absent,OO a.set b.set⟩
def Ff(l:List Tm)(p:ByteArray):Option (Tm×List Tm):=match CD l with
 |none=>none
 |some c=>match Dc c p with
  |none=>none
  |some t=>some (t,FC c p)
def Bq(a b:List Tm)(p:ByteArray):List Tm×Int :=
 match Ff a p,Ff b p with
 |some (t,r),some (u,m)=>match CD (r++m++[Da t u])with
  |some o=>(o,0)
  |none=>([],8)
 |_,_=>([],1)
def B3(lo:Option ByteArray):List Tm→Prop
 | []=>True
 |t::r=>(∀p,lo=some p→Ep p t.path=true)∧Ew t.set∧B3 (some t.path) r
theorem B3.weak{lo:Option ByteArray}:∀{l:List Tm},B3 lo l→B3 none l
 | [],_=>trivial
 |_::_,⟨_,h2,h3⟩=>⟨fun _ h=>(by cases h),h2,h3⟩
theorem B3.low{p:ByteArray}:∀{l:List Tm},B3 (some p) l→∀t∈l,Ep p t.path=true
 |t::r,⟨h1,h2,h3⟩,u,hu=>by
  rcases Av.1 hu with rfl | hu
  ·exact h1 p rfl
  ·exact DP (h1 p rfl) (h3.low u hu)
theorem B3.canon{lo:Option ByteArray}:∀{l:List Tm},B3 lo l→∀t∈l,Ew t.set
 |t::r,⟨h1,h2,h3⟩,u,hu=>by
  rcases Av.1 hu with rfl | hu
  ·exact h2
  ·exact h3.canon u hu
theorem B3.mono{p q:ByteArray}:∀{l:List Tm},B3 (some p) l→Ep q p=true→B3 (some q) l
 | [],_,_=>trivial
 |t::r,⟨h1,h2,h3⟩,h=>⟨fun _ e=>by cases e;exact DP h (h1 p rfl),h2,h3⟩
theorem LO:∀{l:List Tm} {lo:Option ByteArray} (t:Tm),B3 lo l→(∀p,lo=some p→Ep p t.path=true)→B3 lo (Nl t l)
 | [],lo,t,_,h=>⟨h,B9 _,trivial⟩
 |u::r,lo,t,⟨h1,h2,h3⟩,h=>by
  unfold Nl;split
  ·rename_i Dz;exact⟨h1,h2,LO t h3 fun p e=>by cases e;exact Dz⟩
  ·rename_i Dz;split
   ·rename_i he;exact⟨h1,Qi _ _,h3⟩
   ·rename_i he;refine⟨h,B9 _,fun p e=>?_,h2,h3⟩;cases e
    have:Ep u.path t.path=false:=by simpa using Dz
    cases hb:Ep t.path u.path with
    |true=>exact hb
    |false=>exact absurd (Hi this hb) he
theorem Oc:∀(l acc:List Tm),B3 none acc→B3 none (l.foldl (fun acc t=>Nl t acc) acc)
 | [],_,h=>h
 |t::l,acc,h=>Oc l _ (LO t h fun _ e=>by cases e)
theorem Ei(l:List Tm):B3 none (EP l):=Oc l [] trivial
theorem Cy(t:Tm)(r:List Tm)(p:ByteArray):Dc (t::r) p=if t.path=p then some t else Dc r p:=by
 unfold Dc;rw[EE];by_cases h:t.path=p<;>simp[h]
theorem Hk{p q:ByteArray}{l:List Tm}(h:B3 (some p) l)(hq:Ep p q=false):Dc l q=none:=by
 unfold Dc;rw[DO];intro t ht
 have:=h.low t ht
 simp only[Au];intro e;subst e;rw[hq]at this;cases this
def Nx(o:Option Tm)(t:Tm):Tm:=match o with | none=>K8 t | some u=>GD u t
theorem Pu(o:Option Tm)(t:Tm)(h:∀u,o=some u→u.path=t.path):(Nx o t).path=t.path:=by
 cases o with
 |none=>rfl
 |some u=>exact h u rfl
theorem GO{l:List Tm}{p:ByteArray}{u:Tm}(h:Dc l p=some u):u.path=p:=by
 have:=EF h;simpa using this
theorem EZ{l:List Tm}{p:ByteArray}{u:Tm}(h:Dc l p=some u):u∈l:=Cb h
theorem RT:∀{l:List Tm} {lo:Option ByteArray} (t:Tm) (p:ByteArray),B3 lo l→Dc (Nl t l) p=if t.path=p then some (Nx (Dc l p) t)else Dc l p
 | [],lo,t,p,_=>by
  unfold Nl;rw[Cy];show(if t.path=p then some (K8 t)else none)=_
  by_cases h:t.path=p<;>simp[h,Dc,Nx]
 |u::r,lo,t,p,⟨h1,h2,h3⟩=>by
  unfold Nl;split
  ·rename_i Dz;rw[Cy,Cy,RT t p h3]
   by_cases hu:u.path=p
   ·have:¬t.path=p:=fun e=>HQ Dz (hu.trans e.symm)
    simp[hu,this]
   ·simp[hu]
  ·rename_i Dz;split
   ·rename_i he;rw[Cy,Cy];show(if u.path=p then some (GD u t)else _)=_
    by_cases hu:u.path=p
    ·simp[hu,he▸hu,Nx]
    ·have:¬t.path=p:=fun e=>hu (he.trans e)
     simp[hu,this]
   ·rename_i he;rw[Cy];show(if t.path=p then some (K8 t)else _)=_
    by_cases ht:t.path=p
    ·have hn:Dc (u::r) p=none:=by
      rw[Cy];have hu:¬u.path=p:=fun e=>he (e.trans ht.symm);simp only[hu,F9];exact Hk h3 (by subst ht;simpa using Dz)
     simp[ht,hn,Nx]
    ·simp[ht]
def JJ(p:ByteArray)(o:Option Tm)(t:Tm):Option Tm:=if t.path=p then some (Nx o t)else o
theorem Qb(p:ByteArray):∀(l acc:List Tm),B3 none acc→Dc (l.foldl (fun acc t=>Nl t acc) acc) p=l.foldl (JJ p) (Dc acc p)
 | [],_,_=>rfl
 |t::l,acc,h=>by
  rw[Ea,Qb p l _ (LO t h fun _ e=>by cases e),RT t p h];rfl
theorem IR(l:List Tm)(p:ByteArray):Dc (EP l) p=l.foldl (JJ p) none:=Qb p l [] trivial
theorem L9:∀{a b:List Tm} {lo:Option ByteArray},B3 lo a→B3 lo b→(∀p,Dc a p=Dc b p)→a=b
 | [],[],_,_,_,_=>rfl
 | [],z::s,_,_,_,h=>by have:=h z.path;rw[Cy,Aq rfl]at this;cases this
 |z::s,[],_,_,_,h=>by have:=h z.path;rw[Cy,Aq rfl]at this;cases this
 |y::r,z::s,lo,⟨f1,f2,f3⟩,⟨g1,g2,g3⟩,h=>by
  have e:y=z:=by
   have a1:=h y.path;have a2:=h z.path;rw[Cy,Aq rfl,Cy]at a1;rw[Cy,Cy z,Aq rfl]at a2
   by_cases e:z.path=y.path
   ·rw[Aq e]at a1;exact Cr a1
   ·rw[Ai e]at a1;rw[Ai (fun c=>e c.symm)]at a2;have b1:=B3.low g3 y (EZ a1.symm);have b2:=B3.low f3 z (EZ a2)
    have:=DP b1 b2
    rw[C3]at this;cases this
  subst e
  congr 1
  refine L9 f3 g3 fun p=>?_;have hp:=h p;rw[Cy,Cy]at hp
  by_cases e:y.path=p
  ·subst e;rw[Hk f3 (C3 _),Hk g3 (C3 _)]
  ·simpa[e]using hp
theorem B3.filter(q:Tm→Bool):∀{l:List Tm} {lo:Option ByteArray},B3 lo l→B3 lo (l.filter q)
 | [],_,_=>trivial
 |t::r,lo,⟨h1,h2,h3⟩=>by
  have ih:=B3.filter q h3;rw[CT];split
  ·exact⟨h1,h2,ih⟩
  ·cases lo with
   |none=>exact ih.weak
   |some p=>exact ih.mono (h1 p rfl)
theorem Fw{l:List Tm}{lo:Option ByteArray}{t:Tm}(h:B3 lo l):t∈l↔Dc l t.path=some t:=by
 constructor
 ·induction l generalizing lo with
  |nil=>intro h;cases h
  |cons u r ih =>
   intro ht;rw[Cy];rcases Av.1 ht with rfl | ht
   ·rw[Aq rfl]
   ·have:=B3.low h.2.2 t ht
    rw[Ai (HQ this)];exact ih h.2.2 ht
 ·exact EZ
def Db(t:Tm)(o:Option Sl):Bool:=match o with | none=>t.absent | some x=>Cq x.ver&&has t.set (place x.ver)
theorem eK(t:Tm)(s:List Sl):Gr t s=Db t (BX s t.path):=by
 unfold Gr Db BX;rfl
theorem LB{s:List Sl}{p:ByteArray}{x:Sl}(h:BX s p=some x):x.path=p:=by
 have:=EF h;simpa using this
theorem I6{s:List Sl}{p:ByteArray}{x:Sl}(h:BX s p=some x):x∈s:=Cb h
theorem JA{s:List Sl}{p:ByteArray}:Ct s p=(BX s p).isSome:=by
 unfold Ct BX;rw[BN,List.find?_isSome,Bd]
theorem Yy(t:Tm)(o:Option Sl):Db (K8 t) o=Db t o:=by
 unfold Db K8;cases o<;>simp[G0]
theorem W6(u t:Tm)(o:Option Sl):Db (GD u t) o=(Db u o&&Db t o):=by
 unfold Db GD;cases o with
 |none=>rfl
 |some x=>simp only[Ur];cases Cq x.ver<;>simp
theorem MT(u t:Tm)(o:Option Sl):Db (Da u t) o=(Db u o||Db t o):=by
 unfold Db Da;cases o with
 |none=>rfl
 |some x=>simp only[aZ];cases Cq x.ver<;>simp
def TB(p:ByteArray)(o:Option Sl)(l:List Tm):Bool:=l.all fun t=>!decide (t.path=p)||Db t o
theorem Jz(p:ByteArray)(o:Option Sl):∀(l:List Tm) (a:Option Tm),(∀u,a=some u→u.path=p) →
  (l.foldl (JJ p) a=none↔a=none∧l.all (fun t=>!decide (t.path=p))=true)∧(∀u,l.foldl (JJ p) a=some u→u.path=p∧Db u o=((match a with | none=>true | some b=>Db b o)&&TB p o l))
 | [],a,ha=>by
  refine⟨by simp,fun u h=>?_⟩;have h:a=some u:=h;subst h;exact⟨ha u rfl,by simp[TB]⟩
 |t::l,a,ha=>by
  rw[Ea]
  by_cases e:t.path=p
  ·have hs:JJ p a t=some (Nx a t):=by unfold JJ;rw[Aq e]
   rw[hs];have ih:=Jz p o l (some (Nx a t)) (fun u h=>by cases h;rw[Pu a t fun u h=>(ha u h).trans e.symm];exact e);refine⟨⟨fun h=>?_,fun h=>?_⟩,fun u h=>?_⟩
   ·have:=ih.1.1 h;cases this.1
   ·simp[e]at h
   ·obtain⟨h1,h2⟩:=ih.2 u h;refine⟨h1,?_⟩;rw[h2]
    have:TB p o (t::l)=(Db t o&&TB p o l):=by simp[TB,e]
    rw[this];cases a with
    |none=>simp[Nx,Yy]
    |some b=>simp[Nx,W6,Bool.and_assoc]
  ·have hs:JJ p a t=a:=by unfold JJ;rw[Ai e]
   rw[hs];have ih:=Jz p o l a ha
   have:TB p o (t::l)=TB p o l:=by simp[TB,e]
   rw[this];refine⟨?_,ih.2⟩;rw[ih.1];simp[e]
theorem Bx{l:List Tm}{s:List Sl}:Bb l s=true↔∀t∈l,Db t (BX s t.path)=true:=by
 unfold Bb;rw[Bp];simp only[eK]
theorem Lh(l:List Tm)(s:List Sl):Bb (EP l) s=Bb l s:=by
 rw[BN,Bx,Bx];constructor
 ·intro h t ht
  have:=Jz t.path (BX s t.path) l none (fun _ e=>by cases e)
  rw[←IR]at this;cases e:Dc (EP l) t.path with
  |none =>
   have:=(this.1.1 e).2
   rw[Bp]at this
   have:=this t ht
   simp at this
  |some u =>
   obtain⟨h1,h2⟩:=this.2 u e;have hu:=h u (EZ e);rw[h1,h2]at hu;simp only[Ev,TB,Bp]at hu
   have:=hu t ht
   simpa using this
 ·intro h u hu;have e:=(Fw (Ei l)).1 hu
  have:=Jz u.path (BX s u.path) l none (fun _ e=>by cases e)
  rw[←IR]at this;obtain⟨h1,h2⟩:=this.2 u e;rw[h2];simp only[Ev,TB,Bp];intro t ht
  by_cases e:t.path=u.path
  ·have:=h t ht;rw[e]at this;simp[this]
  ·simp[e]
theorem YK{t:Tm}(h:Hw t=true)(o:Option Sl):Db t o=false:=by
 unfold Hw at h;simp only[Ae,CG,GB]at h;unfold Db;cases o with
 |none=>exact h.1
 |some x=>dsimp only;rw[h.2];simp[has]
def FV(s:List Sl):Prop:=∀x∈s,Cq x.ver=true
theorem JK{v:Ver}(h:Cq v=true):0≤v.a∧v.a≤999∧0≤v.b∧v.b≤999∧0≤v.c∧v.c≤999:=by
 unfold Cq at h;simp only[Ae]at h;obtain⟨⟨a,b⟩,c⟩:=h;obtain⟨a1,a2⟩:=Ba a;obtain⟨b1,b2⟩:=Ba b;obtain⟨c1,c2⟩:=Ba c;exact⟨a1,a2,b1,b2,c1,c2⟩
theorem Jh{v:Ver}(h:Cq v=true):0≤place v∧place v<1000000:=by
 have:=JK h;unfold place;omega
theorem TC{t:Tm}(h:Gi t=true){s:List Sl}(hs:FV s):Db t (BX s t.path)=true:=by
 unfold Gi at h;simp only[Ae,Au]at h;unfold Db;cases e:BX s t.path with
 |none=>exact h.1
 |some x =>
  have:=hs x (I6 e)
  have hp:=Jh this;dsimp only;rw[this,h.2];simp[has,BE,hp]
theorem CN{l:List Tm}{s:List Sl}(hs:FV s):Bb l s=(match CD l with | none=>false | some c=>Bb c s):=by
 unfold CD;split
 ·rename_i h;split at h
  ·rename_i hn;rw[←Lh,AM];intro hv;rw[Bx]at hv;obtain⟨t,ht,hn⟩:=Bd.1 hn
   have:=hv t ht
   rw[YK hn]at this;cases this
  ·cases h
 ·rename_i c h;split at h
  ·cases h
  ·rename_i hn;cases h;rw[←Lh,BN,Bx,Bx];constructor
   ·intro h t ht;exact h t (BH.1 ht).1
   ·intro h t ht;cases ha:Gi t with
    |true=>exact TC ha hs
    |false=>exact h t (BH.2 ⟨ht,by simp[ha]⟩)
theorem GK(a b:List Tm)(s:List Sl):Bb (a++b) s=(Bb a s&&Bb b s):=by unfold Bb;rw[List.all_append]
theorem EG{l c:List Tm}(h:CD l=some c):B3 none c:=by
 unfold CD at h;split at h
 ·cases h
 ·cases h;exact B3.filter _ (Ei l)
theorem FB{l r:List Tm}{p:ByteArray}{t:Tm}{s:List Sl}(hs:FV s)(h:Ff l p=some (t,r)):Bb l s=(Db t (BX s p)&&Bb r s)∧t.path=p:=by
 unfold Ff at h;cases hc:CD l with
 |none=>rw[hc]at h;cases h
 |some c =>
  rw[hc]at h;dsimp only at h;cases hf:Dc c p with
  |none=>rw[hf]at h;cases h
  |some u =>
   rw[hf]at h;cases h;have hp:=GO hf;refine⟨?_,hp⟩;rw[CN hs,hc];dsimp only;rw[BN,Ae,Bx,Bx];constructor
   ·intro h
    have:=h t (EZ hf)
    rw[hp]at this;exact⟨this,fun v hv=>h v (BH.1 hv).1⟩
   ·intro⟨h1,h2⟩ v hv
    by_cases e:v.path=p
    ·have:=(Fw (EG hc)).1 hv
     rw[e,hf]at this;cases this;rw[e];exact h1
    ·exact h2 v (BH.2 ⟨hv,by simp[e]⟩)
theorem Ta{a b o:List Tm}{p:ByteArray}{s:List Sl}(hs:FV s)(h:Bq a b p=(o,0))(hv:Bb o s=true):Bb a s=true∨Bb b s=true:=by
 unfold Bq at h;cases h1:Ff a p with
 |none=>rw[h1]at h;simp at h
 |some x =>
  cases h2:Ff b p with
  |none=>rw[h1,h2]at h;simp at h
  |some y =>
   obtain⟨t,r⟩:=x;obtain⟨u,m⟩:=y;rw[h1,h2]at h;dsimp only at h;cases hc:CD (r++m++[Da t u])with
   |none=>rw[hc]at h;simp at h
   |some c =>
    rw[hc]at h
    have:c=o:=by simpa using h
    subst this;have e:=CN (l:=r++m++[Da t u]) hs;rw[hc]at e;dsimp only at e;rw[hv,GK,GK]at e;simp only[Ae]at e;obtain⟨⟨e1,e2⟩,e3⟩:=e;obtain⟨va,pa⟩:=FB hs h1;obtain⟨vb,pb⟩:=FB hs h2;have e3:=Bx.1 e3 _ (Am.2 rfl)
    have:(Da t u).path=p:=pa
    rw[this,MT,Ci]at e3;rcases e3 with e3 | e3
    ·exact .inl (by rw[va,e3,e1];rfl)
    ·exact .inr (by rw[vb,e3,e2];rfl)
theorem Pr{l:List Tm}{s:List Sl}(hs:FV s)(Dt:Pq l≠[]):Bb (Pq l) s=Bb l s:=by
 have:=CN (l:=l) hs
 unfold Pq at *
 cases h:CD l with
 |none=>rw[h]at Dt;exact absurd rfl Dt
 |some c=>rw[h]at this;exact this.symm
-- paths
def GS(c:UInt8):Bool:=decide (97≤c)&&decide (c≤122)
def Vj(c:UInt8):Bool:=decide (65≤c)&&decide (c≤90)
def EO(c:UInt8):Bool:=decide (48≤c)&&decide (c≤57)
def Ma(c:UInt8):Bool:=GS c||Vj c||EO c||decide (c=95)
def fq:List UInt8:=[32,97,110,100,32,97,110,121,32,97,115,32,98,111,111,108,32,100,101,112,114,101,99,97,116,101,100,32,101,108,115,101,32,101,120,112,111,114,116,32,102,97,108,115,101,32,102,110,32,102,111,108,100,32,102,114,111,109,32,105,102,32,105,109,112,111,114,116,32,105,110,32,105,110,116,32,108,101,110,103,116,104,32,108,101,116,32,108,105,115,116,32,109,97,116,99,104,32,109,111,100,117,108,101,32,110,111,110,101,32,110,111,116,32,111,114,32,116,101,120,116,32,116,104,101,110,32,116,114,117,101,32,116,121,112,101,32,117,115,101,32]
def cg:List UInt8→List UInt8→Bool
 | [],_=>true
 |_::_,[]=>false
 |a::x,b::y=>decide (a=b)&&cg x y
def rU(x:List UInt8):List UInt8→Bool
 | []=>cg x []
 |b::y=>cg x (b::y)||rU x y
def YD(s:List UInt8):Bool:=rU (32::(s++[32])) fq
def H6(s:List UInt8):Bool:=!s.isEmpty&&decide (s.length≤32)&&GS (s.headD 0)&&s.all Ma&&!YD s
def L4(s:List UInt8):Bool:=H6 s&&s.all fun c=>GS c||EO c
def Gm(s:List UInt8):Int:=s.foldl (fun n c=>10*n+((c.toNat:Int)-48)) 0
def Lr(s:List UInt8):Option Int:=match s with
 |c::r=>if c=118 then(if r.isEmpty||decide (3<r.length)||(decide (1<r.length)&&decide (r.headD 0=48))||!r.all EO then none else some (Gm r))else none
 | []=>none
def Fe(c:UInt8):List UInt8→List (List UInt8)
 | []=>[[]]
 |b::r=>if b=c then []::Fe c r else match Fe c r with
  | []=>[[b]]
  |x::l=>(b::x)::l
def YH(p:List UInt8):Option Int:=match Lr ((Fe 47 p).getLastD [])with
 |none=>none
 |some n=>if 64<p.length||(Fe 47 p).length<2 then none else if(Fe 47 p).all L4 then some n else none
def CB(p:ByteArray):Option Int:=YH p.data.toList
-- indexes
def Gx(before:Option ByteArray)(q:Rq):Int :=
 if(CB q.path).isNone then 4 else if q.set.isEmpty||!decide (q.set=canon q.set)||(match before with | some b=>!Ep b q.path | none=>false)then 1 else 0
def FH(before:Option ByteArray):List Rq→Int
 | []=>0
 |q::r=>if Gx before q=0 then FH (some q.path) r else Gx before q
def BL(l:List Rq):Int:=if 16<l.length then 7 else FH none l
def EN(s:ByteArray):Bool:=decide (s.size=0)||decide (s.size=32)
def DD(r:Rl):Int:=match CB r.path with
 |none=>4
 |some m=>if !Cq r.ver||!decide (r.ver.a=m)then 2 else if BL r.reqs≠0 then BL r.reqs else if EN r.arch&&EN r.ifc&&EN r.cert then 0 else 1
def FI(a b:Int):Int:=if a<b then -1 else if b<a then 1 else 0
def JP(a b:ByteArray):Int:=if Ep a b then -1 else if Ep b a then 1 else 0
def NW(a b:Ver):Int:=if FI a.a b.a≠0 then FI a.a b.a else if FI a.b b.b≠0 then FI a.b b.b else FI a.c b.c
def Dy(a b:Rl):Int:=if JP a.path b.path≠0 then JP a.path b.path else NW a.ver b.ver
def Fc(r:Rl):Sl:=⟨r.path,r.ver⟩
def DG(before:Option Rl):List Rl→Int
 | []=>0
 |r::l=>if DD r≠0 then DD r else match before with
  |none=>DG (some r) l
  |some b=>if Fc b=Fc r then 5 else if 0<Dy b r then 1 else DG (some r) l
def AU(l:List Rl):Int:=if 256<l.length then 7 else DG none l
def DJ(x:List Rl)(y:Sl):Option Rl:=if AU x≠0 then none else x.find? fun r=>decide (Fc r=y)
def JY(x:List Rl)(p:ByteArray):List Rl:=if AU x≠0 then []else x.filter fun r=>decide (r.path=p)
def BZ(x:List Rl)(p:ByteArray):Bh:=canon (((JY x p).filter fun r=>!r.yanked).map fun r=>(plc r.ver,plc r.ver+1))
def Sq(before:Option ByteArray):List Sl→Bool
 | []=>true
 |y::r=>(match before with |some b=>Ep b y.path |none=>true)&&Sq (some y.path) r
def FK(s:List Sl):Bool:=Sq none s
-- solutions
-- derivations
def OD(x:List Rl)(p:ByteArray)(pl:Int):Option Rl:=x.find? fun r=>decide (r.path=p)&&decide (plc r.ver=pl)
def mt:ByteArray:=⟨#[]⟩
def Jf{α:Type}(l:List α)(i:Int):Option α:=if i<0 then none else l[i.toNat]?
def bF(l:List Tm):Option (List Tm):=if l.isEmpty then none else some l
def DN(x:List Rl)(roots:List Rq)(d:List (List Tm))(i:Nf):Option (List Tm) :=
 if i.kind=0 then
  if i.path=mt∧i.place=0∧i.left=0∧i.right=0 then(Jf roots i.number).map Jj else none
 else if i.kind=1 then
  if i.left=0∧i.right=0 then match OD x i.path i.place with
   |none=>none
   |some r=>match Jf r.reqs i.number with
    |none=>none
    |some q=>bF (Ed i.path i.place q)
  else none
 else if i.kind=2 then
  if i.place=0∧i.number=0∧i.left=0∧i.right=0 then bF (HM i.path (BZ x i.path))else none
 else if i.kind=3 then
  if i.place=0∧i.number=0 then match Jf d i.left,Jf d i.right with
   |some a,some b=>if(Bq a b i.path).2=0 then some (Bq a b i.path).1 else none
   |_,_=>none
  else none
 else none
def CX(x:List Rl)(roots:List Rq):List Nf→List (List Tm)→Option (List (List Tm))
 | [],d=>some d
 |i::l,d=>match DN x roots d i with
  |none=>none
  |some t=>CX x roots l (d++[t])
-- decisions
def Dk(before:List Sl):List Rq→Option ByteArray→Option ByteArray
 | [],acc=>acc
 |q::l,acc=>Dk before l (if Ct before q.path then acc else match acc with
  |none=>some q.path
  |some p=>if Ep q.path p then some q.path else some p)
def Kr(needs:List Rq)(before:List Sl):Option ByteArray:=Dk before needs none
structure xY where
 before:List Sl
 needs:List Rq
 rel:Rl
-- answers
-- the example
-- the order of releases
theorem Ki{a b:Int}(h:FI a b=0):a=b:=by
 unfold FI at h;split at h
 ·cases h
 ·split at h
  ·cases h
  ·omega
theorem Vm{a b:Int}(h:FI a b<0):a<b:=by
 unfold FI at h;split at h
 ·assumption
 ·split at h<;>omega
theorem Uj{a b:ByteArray}(h:JP a b=0):a=b:=by
 unfold JP at h;cases h1:Ep a b with
 |true=>rw[h1]at h;simp at h
 |false =>
  cases h2:Ep b a with
  |true=>rw[h1,h2]at h;simp at h
  |false=>exact Hi h1 h2
theorem iQ{a b:ByteArray}(h:JP a b<0):Ep a b=true:=by
 unfold JP at h;cases h1:Ep a b with
 |true=>rfl
 |false=>rw[h1]at h;cases h2:Ep b a<;>rw[h2]at h<;>simp at h
def jz(a b:Ver):Prop:=a.a<b.a∨(a.a=b.a∧(a.b<b.b∨(a.b=b.b∧a.c<b.c)))
def bC(a b:Rl):Prop:=Ep a.path b.path=true∨(a.path=b.path∧jz a.ver b.ver)
theorem Zg{a b:Ver}(h:NW a b<0):jz a b:=by
 unfold NW at h;split at h
 ·exact .inl (Vm h)
 ·rename_i h1;have h1:=Ki (B6.1 h1);split at h
  ·exact .inr ⟨h1,.inl (Vm h)⟩
  ·rename_i h2;exact .inr ⟨h1,.inr ⟨Ki (B6.1 h2),Vm h⟩⟩
theorem aL{a b:Ver}(h:NW a b=0):a=b:=by
 unfold NW at h;split at h
 ·rename_i h1;exact absurd h h1
 ·rename_i h1;have h1:=Ki (B6.1 h1);split at h
  ·rename_i h2;exact absurd h h2
  ·rename_i h2;have h2:=Ki (B6.1 h2);have h3:=Ki h;cases a;cases b;simp_all
theorem aJ{a b:Rl}(h:Dy a b=0):Fc a=Fc b:=by
 unfold Dy at h;split at h
 ·rename_i h1;exact absurd h h1
 ·rename_i h1;have h1:=Uj (B6.1 h1);have h2:=aL h;unfold Fc;rw[h1,h2]
theorem iR{a b:Rl}(h:Dy a b<0):bC a b:=by
 unfold Dy at h;split at h
 ·exact .inl (iQ h)
 ·rename_i h1;exact .inr ⟨Uj (B6.1 h1),Zg h⟩
theorem bD{a b c:Ver}(h:jz a b)(k:jz b c):jz a c:=by unfold jz at *;omega
theorem UD{a b c:Rl}(h:bC a b)(k:bC b c):bC a c:=by
 rcases h with h | ⟨h1,h2⟩
 ·rcases k with k | ⟨k1,k2⟩
  ·exact .inl (DP h k)
  ·exact .inl (k1▸h)
 ·rcases k with k | ⟨k1,k2⟩
  ·exact .inl (h1▸k)
  ·exact .inr ⟨h1.trans k1,bD h2 k2⟩
theorem HZ{a b:Rl}(h:bC a b)(k:Fc a=Fc b):False:=by
 unfold Fc at k;simp only[Sl.mk.injEq]at k;rcases h with h | ⟨_,h⟩
 ·rw[k.1,C3]at h;cases h
 ·rw[k.2]at h;unfold jz at h;omega
-- a valid index
structure Rp(r:Rl):Prop where
 maj:CB r.path=some r.ver.a
 val:Cq r.ver=true
 reqs:BL r.reqs=0
theorem Ye{r:Rl}(h:DD r=0):Rp r:=by
 unfold DD at h;split at h
 ·cases h
 ·rename_i m hm;split at h
  ·cases h
  ·rename_i h1;split at h
   ·rename_i h2;exact absurd h h2
   ·rename_i h2;simp only[Ci,CG,Jy,not_or,B6]at h1;refine⟨by rw[hm,h1.2],by simpa using h1.1,B6.1 h2⟩
theorem KK:∀{l:List Rl} {b:Option Rl},DG b l=0→(∀r∈l,Rp r)∧(l.Pairwise bC∧∀c,b=some c→∀r∈l,bC c r)
 | [],b,_=>⟨fun _ h=>(by cases h),.nil,fun _ _ _ h=>(by cases h)⟩
 |r::l,b,h=>by
  unfold DG at h;split at h
  ·rename_i h1;exact absurd h h1
  ·rename_i h1;have hr:=Ye (B6.1 h1);have go:DG (some r) l=0→(∀c,b=some c→bC c r)→(∀z∈r::l,Rp z)∧((r::l).Pairwise bC∧∀c,b=some c→∀z∈r::l,bC c z):=fun h hc=>by
    obtain⟨i1,i2,i3⟩:=KK h;refine⟨fun z hz=>?_,.cons (i3 r rfl) i2,fun c e z hz=>?_⟩
    ·rcases Av.1 hz with rfl | hz
     ·exact hr
     ·exact i1 z hz
    ·rcases Av.1 hz with rfl | hz
     ·exact hc c e
     ·exact UD (hc c e) (i3 r rfl z hz)
   cases b with
   |none=>exact go h fun _ e=>by cases e
   |some b =>
    dsimp only at h;split at h
    ·cases h
    ·rename_i hk;split at h
     ·cases h
     ·rename_i hc;refine go h fun c e=>?_;cases e;refine iR ?_
      have:Dy b r≠0:=fun e=>hk (aJ e)
      omega
theorem Co{l:List Rl}(h:AU l=0):(∀r∈l,Rp r)∧l.Pairwise bC:=by
 unfold AU at h;split at h
 ·cases h
 ·exact⟨(KK h).1,(KK h).2.1⟩
theorem SA{l:List Rl}(h:l.Pairwise bC){a b:Rl}(ha:a∈l)(hb:b∈l)(hk:Fc a=Fc b):a=b:=by
 induction h with
 |nil=>cases ha
 |cons h1 h2 ih =>
  rcases Av.1 ha with e1 | ha
  ·rcases Av.1 hb with e2 | hb
   ·exact e1.trans e2.symm
   ·exact(HZ (e1▸h1 b hb) hk).elim
  ·rcases Av.1 hb with e2 | hb
   ·exact(HZ (e2▸h1 a ha) hk.symm).elim
   ·exact ih ha hb
theorem Wc{a b:Ver}(ha:Cq a=true)(hb:Cq b=true)(h1:a.a=b.a)(h2:place a=place b):a=b:=by
 have:=JK ha
 have:=JK hb
 unfold place at h2;have e1:a.b=b.b:=by omega
 have e2:a.c=b.c:=by omega
 cases a;cases b;simp_all
theorem Rp.plc{r:Rl}(h:Rp r):plc r.ver=place r.ver:=by unfold Go.Eng.plc;rw[h.val];rfl
theorem ZU{l:List Rl}(h:(∀r∈l,Rp r)∧l.Pairwise bC){a b:Rl}(ha:a∈l)(hb:b∈l)(h1:a.path=b.path)(h2:place a.ver=place b.ver):a=b:=by
 refine SA h.2 ha hb ?_
 have:=h.1 a ha
 have:=h.1 b hb
 have e:a.ver.a=b.ver.a:=by
  have e1:=(h.1 a ha).maj;rw[h1,(h.1 b hb).maj]at e1;exact(Cr e1).symm
 unfold Fc;rw[h1,Wc (h.1 a ha).val (h.1 b hb).val e h2]
theorem HU{x:List Rl}{y:Sl}{r:Rl}(h:DJ x y=some r):AU x=0∧r∈x∧Fc r=y:=by
 unfold DJ at h;split at h
 ·cases h
 ·rename_i h1;refine⟨B6.1 h1,Cb h,?_⟩
  have:=EF h;simpa using this
structure nP(x:List Rl)(roots:List Rq)(s:List Sl):Prop where
 ix:AU x=0
 inc:FK s=true
 fnd:∀y∈s,∃r,DJ x y=some r∧r.yanked=false
 root:∀q∈roots,∃y,BX s q.path=some y∧has q.set (place y.ver)=true
 req:∀y∈s,∀r,DJ x y=some r→∀q∈r.reqs,∃z,BX s q.path=some z∧has q.set (place z.ver)=true
theorem Nk:∀{s:List Sl} {b:Option ByteArray},Sq b s=true→s.Pairwise (fun a b=>Ep a.path b.path=true)∧∀c,b=some c→∀y∈s,Ep c y.path=true
 | [],_,_=>⟨.nil,fun _ _ _ h=>by cases h⟩
 |y::r,b,h=>by
  unfold Sq at h;simp only[Ae]at h;obtain⟨h1,h2⟩:=h;obtain⟨i1,i2⟩:=Nk h2;refine⟨.cons (i2 _ rfl) i1,fun c e z hz=>?_⟩;subst e;rcases Av.1 hz with rfl | hz
  ·exact h1
  ·exact DP h1 (i2 _ rfl z hz)
theorem MQ{s:List Sl}(h:s.Pairwise (fun a b=>Ep a.path b.path=true)){y:Sl}(hy:y∈s):BX s y.path=some y:=by
 induction h with
 |nil=>cases hy
 |cons h1 h2 ih =>
  rename_i a l;unfold BX;rw[EE];rcases Av.1 hy with rfl | hy
  ·simp
  ·have:=HQ (h1 y hy)
   simp only[this,decide_false];exact ih hy
theorem WP{s:List Sl}(h:FK s=true){y:Sl}(hy:y∈s):BX s y.path=some y:=MQ (Nk h).1 hy
theorem nP.valid{x:List Rl}{roots:List Rq}{s:List Sl}(h:nP x roots s):FV s:=fun y hy=>by
 obtain⟨r,h1,_⟩:=h.fnd y hy;obtain⟨_,h2,h3⟩:=HU h1
 have:=((Co h.ix).1 r h2).val
 rw[←h3];exact this
-- soundness
theorem Qs{q:Rq}{s:List Sl}(h:∃y,BX s q.path=some y∧has q.set (place y.ver)=true):Db (Dx q) (BX s q.path)=false:=by
 obtain⟨y,h1,h2⟩:=h;rw[h1];unfold Db Dx;dsimp only;rw[Fx,h2];simp
theorem fV{l:List Tm}{s:List Sl}(hs:FV s)(hn:CD l≠none)(hv:Bb l s=false):Bb (Pq l) s=false:=by
 have:=CN (l:=l) hs
 unfold Pq;cases h:CD l with
 |none=>exact absurd h hn
 |some c=>rw[h,hv]at this;exact this.symm
theorem Xs{l:List Tm}{s:List Sl}(hs:FV s){o:List Tm}(h:bF (Pq l)=some o)(hv:Bb l s=false):Bb o s=false:=by
 unfold bF at h;split at h
 ·cases h
 ·rename_i Dt;cases h;rw[Pr hs (by intro e;rw[e]at Dt;exact Dt rfl)];exact hv
theorem Y0(q:Rq):CD [Dx q]≠none:=by
 unfold CD EP;simp only[List.foldl,Nl]
 have:Hw (K8 (Dx q))=false:=by simp[Hw,K8,Dx]
 simp[this]
theorem Oy{α:Type}{l:List α}{i:Int}{a:α}(h:Jf l i=some a):a∈l:=by
 unfold Jf at h;split at h
 ·cases h
 ·exact Ar h
theorem VG{x:List Rl}{roots:List Rq}{s:List Sl}(hs:nP x roots s){d:List (List Tm)}(hd:∀t∈d,Bb t s=false){i:Nf}{o:List Tm}(h:DN x roots d i=some o):Bb o s=false:=by
 have hv:=hs.valid;unfold DN at h;split at h
 ·split at h
  ·rw[AT]at h;obtain⟨q,hq,rfl⟩:=h;refine fV hv (Y0 q) ?_;rw[AM];intro hw
   have:=Bx.1 hw _ (Am.2 rfl)
   rw[show(Dx q).path=q.path from rfl,Qs (hs.root q (Oy hq))]at this;cases this
  ·cases h
 ·split at h
  ·split at h
   ·split at h
    ·cases h
    ·rename_i r hr;split at h
     ·cases h
     ·rename_i q hq;refine Xs hv h ?_;rw[AM];intro hw;have h1:=Bx.1 hw _ (Ab ..);have h2:=Bx.1 hw (Dx q) (by simp);rw[show(Dx q).path=q.path from rfl]at h2;dsimp only at h1;cases hf:BX s i.path with
      |none=>rw[hf]at h1;simp[Db]at h1
      |some y =>
       rw[hf]at h1;unfold Db at h1;simp only[Ae]at h1;have hp:place y.ver=i.place:=by
        have:=h1.2
        simp only[has,B4,List.any_nil,Bool.or_false,Ae,BE,Au]at this;omega
       have hy:=I6 hf;have uM:=LB hf;obtain⟨r',e1,e2⟩:=hs.fnd y hy;obtain⟨_,m1,k1⟩:=HU e1;have eT:r∈x:=Cb hr;have od:=EF hr;simp only[Ae,Au]at od;have Gl:=Co hs.ix
       have:r'=r:=by
        refine ZU Gl m1 eT ?_ ?_
        ·rw[od.1,←uM,←k1];rfl
        ·rw[←(Gl.1 r eT).plc,od.2,←hp,←k1];rfl
       subst this
       have:=hs.req y hy r' e1 q (Oy hq)
       rw[Qs this]at h2;cases h2
   ·cases h
  ·split at h
   ·split at h
    ·refine Xs hv h ?_;rw[AM];intro hw;have h1:=Bx.1 hw _ (Am.2 rfl);dsimp only at h1;cases hf:BX s i.path with
     |none=>rw[hf]at h1;simp[Db]at h1
     |some y =>
      rw[hf]at h1;unfold Db at h1;simp only[Ae]at h1;have hy:=I6 hf;have uM:=LB hf;obtain⟨r,e1,e2⟩:=hs.fnd y hy;obtain⟨_,m1,k1⟩:=HU e1;have Gl:=Co hs.ix;have h1:=h1.2;rw[Fx]at h1;have ii:=Jh (hv y hy)
      have:has (BZ x i.path) (place y.ver)=true:=by
       unfold BZ;rw[G0];unfold has;simp only[ii,decide_true,Ev,Bd,Ak,BH];refine⟨(plc r.ver,plc r.ver+1),⟨r,⟨?_,by simp[e2]⟩,rfl⟩,?_⟩
       ·unfold JY;simp only[hs.ix,UG,not_true,F9,BH,m1,true_and,Au];rw[←uM,←k1];rfl
       ·rw[(Gl.1 r m1).plc,←k1];rw[DC];exact⟨BO _,by show place r.ver<place r.ver+1;omega⟩
      rw[this]at h1;simp at h1
    ·cases h
   ·split at h
    ·split at h
     ·split at h
      ·rename_i a b ha hb;split at h
       ·rename_i h0;cases h;rw[AM];intro hw;rcases Ta hv (o:=(Bq a b i.path).1) (Prod.ext rfl h0) hw with hw | hw
        ·rw[hd a (Oy ha)]at hw;cases hw
        ·rw[hd b (Oy hb)]at hw;cases hw
       ·cases h
      ·cases h
     ·cases h
    ·cases h
theorem Ly{x:List Rl}{roots:List Rq}{s:List Sl}(hs:nP x roots s):∀{l:List Nf} {d d' : List (List Tm)},(∀t∈d,Bb t s=false)→CX x roots l d=some d'→∀t∈d',Bb t s=false
 | [],d,d',hd,h=>by cases h;exact hd
 |i::l,d,d',hd,h=>by
  unfold CX at h;split at h
  ·cases h
  ·rename_i o ho;refine Ly hs (fun t ht=>?_) h;rcases AW.1 ht with ht | ht
   ·exact hd t ht
   ·rw[Am.1 ht];exact VG hs hd ho
theorem H9{α:Type}[DecidableEq α]:∀{l m:List α},l.Nodup→(∀x∈l,x∈m)→l.length≤m.length
 | [],_,_,_=>AL _
 |a::l,m,hn,hs=>by
  rw[CI]at hn;have ha:a∈m:=hs a (Ab ..)
  have:=H9 (l:=l) (m:=m.erase a) hn.2 fun x hx=>by
   have:x≠a:=fun e=>hn.1 (e▸hx)
   exact(List.mem_erase_of_ne this).2 (hs x (Ah _ hx))
  rw[List.length_erase_of_mem ha]at this
  have:=List.length_pos_of_mem ha
  simp only[Ay];omega
abbrev U6(s:List Sl):Prop:=s.Pairwise (fun a b=>Ep a.path b.path=true)
-- the next path
theorem JG(before:List Sl):∀{l:List Rq} {acc:Option ByteArray},(∀p,acc=some p→Ct before p=false) →
  (∀p,Dk before l acc=some p→Ct before p=false∧(acc=some p∨∃q∈l,q.path=p))∧(Dk before l acc=none→acc=none∧∀q∈l,Ct before q.path=true)
 | [],acc,ha=>⟨fun p h=>⟨ha p h,.inl h⟩,fun h=>⟨h,fun _ h=>(by cases h)⟩⟩
 |q::l,acc,ha=>by
  unfold Dk
  have key:∀ao,(∀p,ao=some p→Ct before p=false)→(∀p,ao=some p→acc=some p∨q.path=p)→(ao=none→acc=none∧Ct before q.path=true) →
    (∀p,Dk before l ao=some p→Ct before p=false∧(acc=some p∨∃q'∈q::l,q'.path=p))∧(Dk before l ao=none→acc=none∧∀q'∈q::l,Ct before q'.path=true):=by
   intro ao h1 h2 h3;obtain⟨i1,i2⟩:=JG before (l:=l) h1;refine⟨fun p h=>?_,fun h=>?_⟩
   ·obtain⟨j1,j2⟩:=i1 p h;refine⟨j1,?_⟩;rcases j2 with j2 | ⟨q',j3,j4⟩
    ·rcases h2 p j2 with h2 | h2
     ·exact .inl h2
     ·exact .inr ⟨q,Ab ..,h2⟩
    ·exact .inr ⟨q',Ah _ j3,j4⟩
   ·obtain⟨j1,j2⟩:=i2 h;obtain⟨k1,k2⟩:=h3 j1;refine⟨k1,fun q' hq=>?_⟩;rcases Av.1 hq with rfl | hq
    ·exact k2
    ·exact j2 q' hq
  cases hb:Ct before q.path with
  |true=>simp only[Qh];exact key acc ha (fun p h=>.inl h) fun h=>⟨h,hb⟩
  |false =>
   simp only[Dd,F9];cases acc with
   |none=>exact key _ (fun p h=>by cases h;exact hb) (fun p h=>by cases h;exact .inr rfl) fun h=>by cases h
   |some p0 =>
    dsimp only;split
    ·exact key _ (fun p h=>by cases h;exact hb) (fun p h=>by cases h;exact .inr rfl) fun h=>by cases h
    ·exact key _ (fun p h=>by cases h;exact ha _ rfl) (fun p h=>by cases h;exact .inl rfl) fun h=>by cases h
theorem SM{needs:List Rq}{before:List Sl}{p:ByteArray}(h:Kr needs before=some p):Ct before p=false∧∃q∈needs,q.path=p:=by
 obtain⟨h1,h2⟩:=(JG before (l:=needs) (acc:=none) fun _ e=>by cases e).1 p h;rcases h2 with h2 | h2
 ·cases h2
 ·exact⟨h1,h2⟩
theorem YL{needs:List Rq}{before:List Sl}(h:Kr needs before=none):∀q∈needs,Ct before q.path=true :=
 ((JG before (l:=needs) (acc:=none) fun _ e=>by cases e).2 h).2
theorem Sc(a b:List Sl)(p:ByteArray):Ct (a++b) p=(Ct a p||Ct b p):=by unfold Ct;rw[He]
theorem KT{s:List Sl}{p:ByteArray}:Ct s p=true↔∃y∈s,y.path=p:=by unfold Ct;simp
theorem GZ{s:List Sl}{p:ByteArray}:Ct s p=true↔p∈s.map (·.path):=by rw[KT,Ak]
-- what is needed
-- skips
theorem Vp{t:List Tm}{b s:List Sl}(hs:FK s=true)(hb:∀y∈b,y∈s)(h:Cp t b=true):Bb t s=true:=by
 unfold Cp at h;simp only[Ae,CG,F3]at h;obtain⟨h1,h2⟩:=h;rw[Bx]at h1⊢;intro u hu
 have:=h2 u hu
 simp only[Bool.not_eq_false]at this;rw[JA]at this;cases hf:BX b u.path with
 |none=>rw[hf]at this;cases this
 |some y =>
  have h3:=h1 u hu;rw[hf]at h3
  have:=WP hs (hb y (I6 hf))
  rw[LB hf]at this;rw[this];exact h3
-- right answers
-- the first decision that differs
-- prefixes
theorem IP{x:List Rl}{roots:List Rq}:∀{l:List Nf} {d d' : List (List Tm)},CX x roots l d=some d'→d'.length=d.length+l.length
 | [],d,d',h=>by cases h;rfl
 |i::l,d,d',h=>by
  unfold CX at h;split at h
  ·cases h
  ·have:=IP h
   simp only[Ad,Ay,AG]at this⊢;omega
theorem GI{x:List Rl}{roots:List Rq}:∀(l m:List Nf) (d:List (List Tm)),CX x roots (l++m) d=match CX x roots l d with | none=>none | some d'=>CX x roots m d'
 | [],_,_=>rfl
 |i::l,m,d=>by
  show(match DN x roots d i with | none=>none | some t=>CX x roots (l++m) (d++[t]))=(match(match DN x roots d i with | none=>none | some t=>CX x roots l (d++[t]))with | none=>none | some d'=>CX x roots m d');cases DN x roots d i with
  |none=>rfl
  |some t=>exact GI l m _
theorem K9{x:List Rl}{roots:List Rq}:∀{l:List Nf} {d d' : List (List Tm)},CX x roots l d=some d'→d <+: d'
 | [],d,d',h=>by cases h;exact List.prefix_refl _
 |i::l,d,d',h=>by
  unfold CX at h;split at h
  ·cases h
  ·exact(NL _ _).trans (K9 h)
theorem MM{x:List Rl}{roots:List Rq}{l:List Nf}{d:List (List Tm)}(h:CX x roots l []=some d)(k:Nat):CX x roots (l.take k) []=some (d.take k):=by
 rw[←K5 k l,GI]at h;cases e:CX x roots (l.take k) []with
 |none=>rw[e]at h;cases h
 |some f =>
  rw[e]at h;dsimp only at h;have h1:=IP e;have h2:=IP h;have h3:=K9 h
  congr 1
  simp only[AG,AE,Dm]at h1 h2;obtain⟨z,rfl⟩:=h3
  by_cases hk:k≤l.length
  ·rw[GV (by omega),AD (by omega)]
  ·rw[Ad]at h2
   have:z=[]:=AN (by omega)
   subst this;rw[BT,AD (by omega)]
def KG(l:List Tm):Prop:=CD l=some l
theorem ci{l:List Tm}:∀(l2:List Tm),B3 none (l2++l)→l.foldl (fun acc t=>Nl t acc) l2=l2++l:=by
 induction l with
 |nil=>intro l2 _;simp
 |cons t r ih =>
  intro l2 h;have hi:Nl t l2=l2++[t]:=by
   have:∀(m:List Tm) (lo:Option ByteArray),B3 lo (m++t::r)→Nl t m=m++[t]:=by
    intro m
    induction m with
    |nil =>
     intro lo hm;have hc:Ew t.set:=hm.2.1;unfold Nl;rw[show K8 t=t from ny rfl rfl (I4 hc)];rfl
    |cons u m ihm =>
     intro lo hm;have hm:B3 lo (u::(m++t::r)):=hm;have Dz:=B3.low hm.2.2 t (by simp);unfold Nl;rw[Aq Dz,ihm _ hm.2.2];rfl
   exact this l2 none h
  rw[Ea,hi]
  have:=ih (l2++[t]) (by rw[BF];exact h)
  rw[this,BF];rfl
theorem Pn{l:List Tm}(h:B3 none l):EP l=l:=by
 have:=ci (l:=l) [] h
 simpa[EP]using this
theorem PX{l c:List Tm}(h:CD l=some c):KG c:=by
 have hs:=EG h;unfold KG;unfold CD at h⊢;rw[Pn hs];split at h
 ·cases h
 ·rename_i hn;cases h;rw[Ai]
  ·congr 1
   rw[List.filter_filter];simp
  ·rw[Bool.not_eq_true,F3]at hn⊢;intro t ht;exact hn t (BH.1 ht).1
theorem Od:KG []:=rfl
theorem LY(l:List Tm):KG (Pq l):=by
 unfold Pq;cases h:CD l with
 |none=>exact Od
 |some c=>exact PX h
theorem M0(a b:List Tm)(p:ByteArray):KG (Bq a b p).1:=by
 unfold Bq;split
 ·split
  ·rename_i h;exact PX h
  ·exact Od
 ·exact Od
theorem Xr{l o:List Tm}(h:bF l=some o):o=l:=by unfold bF at h;split at h<;>cases h;rfl
theorem Xa{x:List Rl}{roots:List Rq}{d:List (List Tm)}{i:Nf}{o:List Tm}(h:DN x roots d i=some o):KG o:=by
 unfold DN at h;split at h
 ·split at h
  ·rw[AT]at h;obtain⟨q,_,rfl⟩:=h;exact LY _
  ·cases h
 ·split at h
  ·split at h
   ·split at h
    ·cases h
    ·split at h
     ·cases h
     ·rw[Xr h];exact LY _
   ·cases h
  ·split at h
   ·split at h
    ·rw[Xr h];exact LY _
    ·cases h
   ·split at h
    ·split at h
     ·split at h
      ·split at h
       ·cases h;exact M0 _ _ _
       ·cases h
      ·cases h
     ·cases h
    ·cases h
theorem ML{x:List Rl}{roots:List Rq}:∀{l:List Nf} {d d' : List (List Tm)},(∀t∈d,KG t)→CX x roots l d=some d'→∀t∈d',KG t
 | [],d,d',hd,h=>by cases h;exact hd
 |i::l,d,d',hd,h=>by
  unfold CX at h;split at h
  ·cases h
  ·rename_i o ho;refine ML (fun t ht=>?_) h;rcases AW.1 ht with ht | ht
   ·exact hd t ht
   ·rw[Am.1 ht];exact Xa ho
-- tampering
end Go.Eng
