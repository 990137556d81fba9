/- Lemmas for the claims of this seat, without a condition: part 1 (P1, P2, P3, P4, P5, P6, P7). -/
import Derived.Test.YtmcbkdbfaneofaaGreatDoorEA00
namespace Go.Eng
def BL(p:Int)(s:Int×Int):Bool:=decide (s.1≤p)&&decide (p<s.2)
def has(s:List (Int×Int))(p:Int):Bool:=decide (0≤p)&&decide (p<1000000)&&s.any (BL p)
abbrev Bj:=List (Int×Int)
def EG(lo:Int):Bj→Prop
 | []=>True
 |y::r=>lo≤y.1∧y.1<y.2∧y.2≤1000000∧EG (y.2+1) r
abbrev EB(l:Bj):Prop:=EG 0 l
def VM(x:Int×Int):Bj→Bj
 | []=>[x]
 |y::r=>if x.2<y.1 then x::y::r else if y.2<x.1 then y::VM x r else VM (min x.1 y.1,max x.2 y.2) r
def Hh(x:Int×Int):Int×Int:=(max x.1 0,min x.2 1000000)
def canon:Bj→Bj
 | []=>[]
 |x::r=>if(Hh x).1<(Hh x).2 then VM (Hh x) (canon r)else canon r
def KV(at_:Int):Bj→Bj
 | []=>if at_<1000000 then [(at_,1000000)]else []
 |y::r=>if at_<y.1 then(at_,y.1)::KV y.2 r else KV y.2 r
def Ed(s:Bj):Bj:=KV 0 (canon s)
def Qp(l:List Bj):Bj:=canon l.flatten
def PQ(l:List Bj):Bj:=Ed (l.map Ed).flatten
def Pl(a b:Bj):Bj:=Qp [a,b]
def Nk(a b:Bj):Bj:=PQ [a,b]
def rh(a b:Bj):Bj:=Nk a (Ed b)
def wW(a b:Bj):Bool:=(rh a b).isEmpty
theorem EG.mono{lo HA : Int}:∀{l:Bj},EG lo l→HA≤lo→EG HA l
 | [],_,_=>trivial
 |_::_,⟨h1,h2,h3,h4⟩,h=>⟨Int.le_trans h h1,h2,h3,h4⟩
theorem EG.low{lo:Int}:∀{l:Bj},EG lo l→∀y∈l,lo≤y.1∧y.1<y.2∧y.2≤1000000
 |y::r,⟨h1,h2,h3,h4⟩,z,hz=>by
  rcases Aq.1 hz with rfl | hz
  ·exact⟨h1,h2,h3⟩
  ·have:=h4.low z hz
   exact⟨by omega,this.2.1,this.2.2⟩
theorem DN{p:Int}{s:Int×Int}:BL p s=true↔s.1≤p∧p<s.2:=by simp[BL]
theorem MA{lo:Int}{l:Bj}(h:EG lo l){p:Int}(hp:l.any (BL p)=true):lo≤p:=by
 obtain⟨y,hy,h2⟩:=Bb.1 hp
 have:=h.low y hy
 have:=DN.1 h2
 omega
theorem d4{lo:Int}{l:Bj}(h:EG lo l){p:Int}(hp:l.any (BL p)=true):p<1000000:=by
 obtain⟨y,hy,h2⟩:=Bb.1 hp
 have:=h.low y hy
 have:=DN.1 h2
 omega
theorem Nw:∀(l:Bj) {lo:Int} {x:Int×Int},EG lo l→lo≤x.1→x.1<x.2→x.2≤1000000→EG lo (VM x l)
 | [],lo,x,_,h1,h2,h3=>⟨h1,h2,h3,trivial⟩
 |y::r,lo,x,⟨g1,g2,g3,g4⟩,h1,h2,h3=>by
  unfold VM;split
  ·exact⟨h1,h2,h3,by omega,g2,g3,g4⟩
  ·split
   ·exact⟨g1,g2,g3,Nw r g4 (by omega) h2 h3⟩
   ·refine Nw r (g4.mono (by omega)) ?_ ?_ ?_<;>dsimp only<;>omega
theorem Ob:∀(l:Bj) {lo:Int} {x:Int×Int} (p:Int),EG lo l→x.1<x.2→(VM x l).any (BL p)=(BL p x||l.any (BL p))
 | [],lo,x,p,_,_=>by simp[VM]
 |y::r,lo,x,p,⟨g1,g2,g3,g4⟩,h2=>by
  unfold VM;split
  ·simp
  ·split
   ·rw[Ce,Ob r p g4 h2,Ce,←Bool.or_assoc,←Bool.or_assoc,Bool.or_comm (BL p y)]
   ·rw[Ob r p g4 (by dsimp only;omega),Ce,←Bool.or_assoc]
    congr 1
    simp only[BL];rw[BW];simp only[Ag,CE,AA];omega
theorem Cp:∀s:Bj,EB (canon s)
 | []=>trivial
 |x::r=>by
  unfold canon;split
  ·rename_i h;refine Nw _ (Cp r) ?_ h ?_<;>simp only[Hh]<;>omega
  ·exact Cp r
theorem Kq:∀(s:Bj) (p:Int),(canon s).any (BL p)=has s p
 | [],p=>by simp[has,canon]
 |x::r,p=>by
  have ih:=Kq r p;unfold canon;have hx:BL p (Hh x)=(decide (0≤p)&&decide (p<1000000)&&BL p x):=by
   simp only[BL,Hh];rw[BW];simp only[Ag,AA,Int.max_le,Int.lt_min];omega
  split
  ·rename_i h;rw[Ob _ p (Cp r) h,ih,hx];simp only[has,Ce];cases decide (0≤p)<;>cases decide (p<1000000)<;>simp
  ·rename_i h;rw[ih];simp only[has,Ce]
   have:BL p (Hh x)=false:=by
    rw[AI];intro h3
    have:=DN.1 h3
    omega
   rw[this]at hx;cases h1:decide (0≤p)<;>cases h2:decide (p<1000000)<;>simp_all
theorem Hw{l:Bj}(h:EB l)(p:Int):has l p=l.any (BL p):=by
 unfold has;cases e:l.any (BL p)with
 |false=>simp
 |true=>have h1:0≤p:=MA h e;have h2:=d4 h e;simp[h1,h2]
theorem G7(s:Bj)(p:Int):has (canon s) p=has s p:=by
 rw[Hw (Cp s),Kq]
theorem M6:∀{a b:Bj} {lo:Int},EG lo a→EG lo b→(∀p,a.any (BL p)=b.any (BL p))→a=b
 | [],[],_,_,_,_=>rfl
 | [],z::s,_,_,⟨g1,g2,g3,g4⟩,h=>by
  have:=h z.1
  rw[Ce,DN.2 ⟨AZ _,g2⟩]at this;simp at this
 |y::r,[],_,⟨g1,g2,g3,g4⟩,_,h=>by
  have:=h y.1
  rw[Ce,DN.2 ⟨AZ _,g2⟩]at this;simp at this
 |y::r,z::s,lo,⟨f1,f2,f3,f4⟩,⟨g1,g2,g3,g4⟩,h=>by
  have below:∀{x:Int×Int} {t:Bj} {p:Int},EG (x.2+1) t→(x::t).any (BL p)=true→p≤x.2→x.1≤p∧p<x.2:=fun {x t p} ht hp Hi=>by
   rw[Ce,CE]at hp;rcases hp with hp | hp
   ·exact DN.1 hp
   ·have:=MA ht hp;omega
  have low:∀{x:Int×Int} {t:Bj} {p:Int},x.1<x.2→EG (x.2+1) t→(x::t).any (BL p)=true→x.1≤p:=fun {x t p} hx ht hp=>by
   rw[Ce,CE]at hp;rcases hp with hp | hp
   ·exact(DN.1 hp).1
   ·have:=MA ht hp;omega
  have cov:∀{x:Int×Int} {t:Bj} {p:Int},x.1≤p→p<x.2→(x::t).any (BL p)=true:=fun {x t p} h1 h2=>by
   rw[Ce,DN.2 ⟨h1,h2⟩,Bool.true_or]
  have e1:y.1=z.1:=by
   have a1:=low f2 f4 ((h z.1).trans (cov (AZ _) g2));have a2:=low g2 g4 ((h y.1).symm.trans (cov (AZ _) f2));omega
  have e2:y.2=z.2:=by
   rcases Int.lt_trichotomy y.2 z.2 with hl | he | hl
   ·have:=below f4 ((h y.2).trans (cov (by omega) hl)) (AZ _);omega
   ·exact he
   ·have:=below g4 ((h z.2).symm.trans (cov (by omega) hl)) (AZ _);omega
  have e:y=z:=Prod.ext e1 e2;subst e
  congr 1
  refine M6 f4 g4 fun p=>?_;have hp:=h p;simp only[Ce]at hp;cases hs:BL p y with
  |false=>rw[hs,LL,LL]at hp;exact hp
  |true =>
   have:=DN.1 hs
   have n:∀{t:Bj},EG (y.2+1) t→t.any (BL p)=false:=fun {t} ht=>by
    rw[AI];intro hx;have:=MA ht hx;omega
   rw[n f4,n g4]
theorem Hq{a b:Bj}(ha:EB a)(hb:EB b)(h:∀p,has a p=has b p):a=b :=
 M6 ha hb fun p=>by rw[←Hw ha,←Hw hb,h]
theorem Sh{a s:Bj}(ha:EB a)(h:∀p,has a p=has s p):a=canon s :=
 Hq ha (Cp s) fun p=>by rw[h,G7]
theorem Jb{a:Bj}(ha:EB a):canon a=a:=(Sh ha fun _=>rfl).symm
theorem L9{s:Bj}{p:Int}(h:has s p=true):0≤p∧p<1000000:=by
 unfold has at h;simp only[Ag,AA]at h;exact h.1
def LH(p:Int):Bool:=decide (0≤p)&&decide (p<1000000)
theorem KW:∀(l:Bj) {at_ lo:Int},0≤at_→EG lo l→lo≤at_+1→at_≤lo→EG at_ (KV at_ l)∧∀p,(KV at_ l).any (BL p)=(decide (at_≤p)&&decide (p<1000000)&&!l.any (BL p))
 | [],at_,lo,h0,_,h1,h2=>by
  unfold KV;split
  ·exact⟨⟨AZ _,by dsimp only;omega,AZ _,trivial⟩,fun p=>by simp[BL]⟩
  ·refine⟨trivial,fun p=>?_⟩
   have:(decide (at_≤p)&&decide (p<1000000))=false:=by
    rw[AI];simp only[Vj,Ag,AA];omega
   simp[this]
 |y::r,at_,lo,h0,⟨g1,g2,g3,g4⟩,h1,h2=>by
  have ih:=KW r (at_:=y.2) (by omega) g4 (AZ _) (by omega);have key:∀p,(decide (at_≤p)&&decide (p<y.1)||(KV y.2 r).any (BL p))=(decide (at_≤p)&&decide (p<1000000)&&!(y::r).any (BL p)):=fun p=>by
   rw[ih.2,Ce];cases hr:r.any (BL p)with
   |true =>
    have:=MA g4 hr
    have a:decide (p<y.1)=false:=Ar (by omega);simp[a]
   |false =>
    rw[BW];simp only[BL,Ag,CE,AA,CT,Bool.or_false,Bool.and_eq_false_iff,JI,Bool.not_false,and_true];omega
  unfold KV;split
  ·rename_i h;refine⟨⟨AZ _,h,by dsimp only;omega,ih.1 |> fun c=>?_⟩,fun p=>?_⟩
   ·dsimp only;cases e:KV y.2 r with
    |nil=>trivial
    |cons z s =>
     rw[e]at c;exact⟨by have:=c.1;omega,c.2⟩
   ·rw[Ce,←key];rfl
  ·rename_i h;refine⟨ih.1.mono (by omega),fun p=>?_⟩;rw[←key]
   have:(decide (at_≤p)&&decide (p<y.1))=false:=by
    rw[AI];simp only[Vj,Ag,AA];omega
   rw[this,LL]
theorem G5(s:Bj):EB (Ed s):=by
 unfold Ed;exact(KW _ (AZ _) (Cp s) (by omega) (AZ _)).1
theorem FD(s:Bj)(p:Int):has (Ed s) p=(LH p&&!has s p):=by
 rw[Hw (G5 s)];unfold Ed;rw[(KW _ (AZ _) (Cp s) (by omega) (AZ _)).2,Kq];rfl
theorem Ze(a b:Bj)(p:Int):has (a++b) p=(has a p||has b p):=by
 simp only[has,Hk];cases decide (0≤p)<;>cases decide (p<1000000)<;>simp
theorem L8:∀(l:List Bj) (p:Int),has l.flatten p=l.any fun s=>has s p
 | [],p=>by simp[has]
 |s::l,p=>by rw[By,Ze,L8 l p,Ce]
theorem SL(l:List Bj)(p:Int):has (Qp l) p=l.any fun s=>has s p:=by
 unfold Qp;rw[G7,L8]
theorem WF(l:List Bj):EB (Qp l):=Cp _
theorem Wm(l:List Bj):EB (PQ l):=G5 _
theorem SK(l:List Bj)(p:Int):has (PQ l) p=(LH p&&l.all fun s=>has s p):=by
 unfold PQ;rw[FD,L8,List.any_map];cases h:LH p with
 |false=>rfl
 |true =>
  rw[EA,EA,List.not_any_eq_all_not]
  congr 1
  funext s
  simp[FD,h]
theorem Yt(a b:Bj):EB (Pl a b):=Cp _
theorem QQ(a b:Bj):EB (Nk a b):=G5 _
theorem cf(a b:Bj)(p:Int):has (Pl a b) p=(has a p||has b p):=by
 unfold Pl;rw[SL];simp
theorem U2(a b:Bj)(p:Int):has (Nk a b) p=(has a p&&has b p):=by
 unfold Nk;rw[SK];simp only[List.all_cons,List.all_nil,Bool.and_true];cases h:has a p with
 |false=>simp
 |true=>have:=L9 h;simp[LH,this]
theorem Zn(s:Bj):Nk s s=canon s:=Hq (QQ _ _) (Cp _) fun p=>by rw[U2,G7,Bool.and_self]
theorem Ue{s:Bj}:canon s=[]↔∀p,has s p=false:=by
 constructor
 ·intro h p;rw[←G7,h];simp[has]
 ·intro h;exact Hq (Cp s) (b:=[]) trivial fun p=>by rw[G7,h p];simp[has]
theorem PW{s:Bj}(hs:EB s):s=[]↔∀p,has s p=false:=by
 rw[←Ue,Jb hs]
def dJ(l:List Bj)(p:Int):Nat:=l.countP fun s=>has s p
theorem Sg:∀{l:Bj} {lo:Int},EG lo l→lo≤1000000→(l.length:Int)≤1000000-lo
 | [],lo,_,h=>by simp;omega
 |y::r,lo,⟨g1,g2,g3,g4⟩,h=>by
  by_cases h3:y.2+1≤1000000
  ·have:=Sg g4 h3
   simp only[Au];omega
  ·cases r with
   |nil=>simp;omega
   |cons z s=>have:=g4.1;have:=g4.2.1;have:=g4.2.2.1;omega
theorem HW{l:Bj}(h:EB l):l.length≤1000000:=by have:=Sg h (by omega);omega
structure Ver where
 (a b c:Int)
structure Rq where
 path:ByteArray
 set:List (Int×Int)
structure Rl where
 path:ByteArray
 ver:Ver
 reqs:List Rq
 (arch ifc cert:ByteArray)
 yanked:Bool
structure Sl where
 path:ByteArray
 ver:Ver
structure Tm where
 path:ByteArray
 absent:Bool
 set:List (Int×Int)
structure Nf where
 kind:Int
 path:ByteArray
 (place number left right:Int)
structure Sk where
 path:ByteArray
 (place inf:Int)
structure An where
 found:Bool
 sel:List Sl
 infs:List Nf
 skips:List Sk
instance:DecidableEq Ver:=fun x y=>decidable_of_iff (x.a=y.a∧x.b=y.b∧x.c=y.c) ⟨fun⟨h1,h2,h3⟩=>by cases x;cases y;simp_all,fun h=>by subst h;exact⟨rfl,rfl,rfl⟩⟩
instance:DecidableEq Sl:=fun x y=>decidable_of_iff (x.path=y.path∧x.ver=y.ver) ⟨fun⟨h1,h2⟩=>by cases x;cases y;simp_all,fun h=>by subst h;exact⟨rfl,rfl⟩⟩
theorem oz{x y:Tm}(h1:x.path=y.path)(h2:x.absent=y.absent)(h3:x.set=y.set):x=y:=by cases x;cases y;simp_all
def okPart(n:Int):Prop:=0≤n∧n≤999
instance (n:Int):Decidable (okPart n):=by unfold okPart;infer_instance
def CN(v:Ver):Bool:=decide (okPart v.a)&&decide (okPart v.b)&&decide (okPart v.c)
def place(v:Ver):Int:=1000*v.b+v.c
def plc(v:Ver):Int:=if CN v then place v else 0
def Cb(s:List Sl)(p:ByteArray):Option Sl:=s.find? fun x=>decide (x.path=p)
def Gz(t:Tm)(s:List Sl):Bool :=
 match s.find? (fun x=>decide (x.path=t.path))with
 |none=>t.absent
 |some x=>CN x.ver&&has t.set (place x.ver)
def CH(s:List Sl)(p:ByteArray):Bool:=s.any fun x=>decide (x.path=p)
def Bg(l:List Tm)(s:List Sl):Bool:=l.all fun t=>Gz t s
def CD(l:List Tm)(s:List Sl):Bool:=Bg l s&&!l.any fun t=>!CH s t.path
def J6:List UInt8→List UInt8→Bool
 | [],[]=>false
 | [],_::_=>true
 |_::_,[]=>false
 |a::x,b::y=>decide (a<b)||(decide (a=b)&&J6 x y)
def Fg(a b:ByteArray):Bool:=J6 a.data.toList b.data.toList
theorem QS:∀x,J6 x x=false
 | []=>rfl
 |a::x=>by
  unfold J6;simp[QS x]
theorem Tn:∀{x y z},J6 x y=true→J6 y z=true→J6 x z=true
 | [],[],_,h,_=>by simp[J6]at h
 | [],_::_,[],_,h=>by simp[J6]at h
 | [],_::_,_::_,_,_=>rfl
 |_::_,[],_,h,_=>by simp[J6]at h
 |_::_,_::_,[],_,h=>by simp[J6]at h
 |a::x,b::y,c::z,h1,h2=>by
  unfold J6 at *
  simp only[CE,Ag,AA]at *
  rcases h1 with h1 | ⟨rfl,h1⟩
  ·rcases h2 with h2 | ⟨rfl,h2⟩
   ·exact .inl (UInt8.lt_trans h1 h2)
   ·exact .inl h1
  ·rcases h2 with h2 | ⟨rfl,h2⟩
   ·exact .inl h2
   ·exact .inr ⟨rfl,Tn h1 h2⟩
theorem XW:∀{x y},J6 x y=false→J6 y x=false→x=y
 | [],[],_,_=>rfl
 | [],_::_,h,_=>by simp[J6]at h
 |_::_,[],_,h=>by simp[J6]at h
 |a::x,b::y,h1,h2=>by
  unfold J6 at *
  simp only[Bool.or_eq_false_iff,Bool.and_eq_false_iff,JI]at *
  have e:a=b:=by
   have l1:=UInt8.not_lt.1 h1.1;have l2:=UInt8.not_lt.1 h2.1;exact UInt8.le_antisymm l2 l1
  subst e
  have:=XW (x:=x) (y:=y) (by simpa using h1.2) (by simpa using h2.2)
  rw[this]
theorem th{a b:ByteArray}(h:a.data.toList=b.data.toList):a=b:=by
 cases a;cases b;simp only[ByteArray.mk.injEq];exact Iy.1 h
theorem Dg(a:ByteArray):Fg a a=false:=QS _
theorem Ev{a b c:ByteArray}(h:Fg a b=true)(k:Fg b c=true):Fg a c=true:=Tn h k
theorem Hp{a b:ByteArray}(h:Fg a b=false)(k:Fg b a=false):a=b:=th (XW h k)
theorem YP{a b:ByteArray}(h:Fg a b=true):a≠b:=fun e=>by subst e;rw[Dg]at h;cases h
theorem PD{a b:ByteArray}(h:Fg a b=true):Fg b a=false:=by
 rw[AI];intro k;have:=Ev h k;rw[Dg]at this;cases this
def Lt(t:Tm):Tm:=⟨t.path,t.absent,canon t.set⟩
def GM(u t:Tm):Tm:=⟨u.path,u.absent&&t.absent,Nk u.set t.set⟩
def NK(t:Tm):List Tm→List Tm
 | []=>[Lt t]
 |u::r=>if Fg u.path t.path then u::NK t r else if u.path=t.path then GM u t::r else Lt t::u::r
def ET(l:List Tm):List Tm:=l.foldl (fun acc t=>NK t acc) []
def HC(t:Tm):Bool:=!t.absent&&t.set.isEmpty
def Gn(t:Tm):Bool:=t.absent&&decide (t.set=[(0,1000000)])
def CP(l:List Tm):Option (List Tm):=if(ET l).any HC then none else some ((ET l).filter fun t=>!Gn t)
def PY(l:List Tm):List Tm:=(CP l).getD []
def DG(q:Rq):Tm:=⟨q.path,true,Ed q.set⟩
def Jt(q:Rq):List Tm:=PY [DG q]
def Ei(path:ByteArray)(pl:Int)(q:Rq):List Tm:=PY [⟨path,false,[(pl,pl+1)]⟩,DG q]
def HR(path:ByteArray)(px:Bj):List Tm:=PY [⟨path,false,Ed px⟩]
def Dj(l:List Tm)(p:ByteArray):Option Tm:=l.find? fun t=>decide (t.path=p)
def FI(l:List Tm)(p:ByteArray):List Tm:=l.filter fun t=>!decide (t.path=p)
def Dh(a b:Tm):Tm:=⟨a.path,a.absent||b.absent,Pl a.set b.set⟩
def Fk(l:List Tm)(p:ByteArray):Option (Tm×List Tm):=match CP l with
 |none=>none
 |some c=>match Dj c p with
  |none=>none
  |some t=>some (t,FI c p)
def Bw(a b:List Tm)(p:ByteArray):List Tm×Int :=
 match Fk a p,Fk b p with
 |some (t,r),some (u,m)=>match CP (r++m++[Dh t u])with
  |some o=>(o,0)
  |none=>([],8)
 |_,_=>([],1)
def Cc(lo:Option ByteArray):List Tm→Prop
 | []=>True
 |t::r=>(∀p,lo=some p→Fg p t.path=true)∧EB t.set∧Cc (some t.path) r
theorem Cc.weak{lo:Option ByteArray}:∀{l:List Tm},Cc lo l→Cc none l
 | [],_=>trivial
 |_::_,⟨_,h2,h3⟩=>⟨fun _ h=>(by cases h),h2,h3⟩
theorem Cc.low{p:ByteArray}:∀{l:List Tm},Cc (some p) l→∀t∈l,Fg p t.path=true
 |t::r,⟨h1,h2,h3⟩,u,hu=>by
  rcases Aq.1 hu with rfl | hu
  ·exact h1 p rfl
  ·exact Ev (h1 p rfl) (h3.low u hu)
theorem Cc.canon{lo:Option ByteArray}:∀{l:List Tm},Cc lo l→∀t∈l,EB t.set
 |t::r,⟨h1,h2,h3⟩,u,hu=>by
  rcases Aq.1 hu with rfl | hu
  ·exact h2
  ·exact h3.canon u hu
theorem Cc.mono{p q:ByteArray}:∀{l:List Tm},Cc (some p) l→Fg q p=true→Cc (some q) l
 | [],_,_=>trivial
 |t::r,⟨h1,h2,h3⟩,h=>⟨fun _ e=>by cases e;exact Ev h (h1 p rfl),h2,h3⟩
theorem Mc:∀{l:List Tm} {lo:Option ByteArray} (t:Tm),Cc lo l→(∀p,lo=some p→Fg p t.path=true)→Cc lo (NK t l)
 | [],lo,t,_,h=>⟨h,Cp _,trivial⟩
 |u::r,lo,t,⟨h1,h2,h3⟩,h=>by
  unfold NK;split
  ·rename_i DI;exact⟨h1,h2,Mc t h3 fun p e=>by cases e;exact DI⟩
  ·rename_i DI;split
   ·rename_i he;exact⟨h1,QQ _ _,h3⟩
   ·rename_i he;refine⟨h,Cp _,fun p e=>?_,h2,h3⟩;cases e
    have:Fg u.path t.path=false:=by simpa using DI
    cases hb:Fg t.path u.path with
    |true=>exact hb
    |false=>exact absurd (Hp this hb) he
theorem OE:∀(l acc:List Tm),Cc none acc→Cc none (l.foldl (fun acc t=>NK t acc) acc)
 | [],_,h=>h
 |t::l,acc,h=>OE l _ (Mc t h fun _ e=>by cases e)
theorem Eo(l:List Tm):Cc none (ET l):=OE l [] trivial
theorem CM(t:Tm)(r:List Tm)(p:ByteArray):Dj (t::r) p=if t.path=p then some t else Dj r p:=by
 unfold Dj;rw[Fs];by_cases h:t.path=p<;>simp[h]
theorem Hr{p q:ByteArray}{l:List Tm}(h:Cc (some p) l)(hq:Fg p q=false):Dj l q=none:=by
 unfold Dj;rw[Em];intro t ht
 have:=h.low t ht
 simp only[AA];intro e;subst e;rw[hq]at this;cases this
def NW(o:Option Tm)(t:Tm):Tm:=match o with | none=>Lt t | some u=>GM u t
theorem Qb(o:Option Tm)(t:Tm)(h:∀u,o=some u→u.path=t.path):(NW o t).path=t.path:=by
 cases o with
 |none=>rfl
 |some u=>exact h u rfl
theorem GY{l:List Tm}{p:ByteArray}{u:Tm}(h:Dj l p=some u):u.path=p:=by
 have:=Ft h;simpa using this
theorem E5{l:List Tm}{p:ByteArray}{u:Tm}(h:Dj l p=some u):u∈l:=CJ h
theorem SA:∀{l:List Tm} {lo:Option ByteArray} (t:Tm) (p:ByteArray),Cc lo l→Dj (NK t l) p=if t.path=p then some (NW (Dj l p) t)else Dj l p
 | [],lo,t,p,_=>by
  unfold NK;rw[CM];show(if t.path=p then some (Lt t)else none)=_
  by_cases h:t.path=p<;>simp[h,Dj,NW]
 |u::r,lo,t,p,⟨h1,h2,h3⟩=>by
  unfold NK;split
  ·rename_i DI;rw[CM,CM,SA t p h3]
   by_cases hu:u.path=p
   ·have:¬t.path=p:=fun e=>YP DI (hu.trans e.symm)
    simp[hu,this]
   ·simp[hu]
  ·rename_i DI;split
   ·rename_i he;rw[CM,CM];show(if u.path=p then some (GM u t)else _)=_
    by_cases hu:u.path=p
    ·simp[hu,he▸hu,NW]
    ·have:¬t.path=p:=fun e=>hu (he.trans e)
     simp[hu,this]
   ·rename_i he;rw[CM];show(if t.path=p then some (Lt t)else _)=_
    by_cases ht:t.path=p
    ·have hn:Dj (u::r) p=none:=by
      rw[CM];have hu:¬u.path=p:=fun e=>he (e.trans ht.symm);simp only[hu,Fc];exact Hr h3 (by subst ht;simpa using DI)
     simp[ht,hn,NW]
    ·simp[ht]
def JS(p:ByteArray)(o:Option Tm)(t:Tm):Option Tm:=if t.path=p then some (NW o t)else o
theorem QK(p:ByteArray):∀(l acc:List Tm),Cc none acc→Dj (l.foldl (fun acc t=>NK t acc) acc) p=l.foldl (JS p) (Dj acc p)
 | [],_,_=>rfl
 |t::l,acc,h=>by
  rw[Fu,QK p l _ (Mc t h fun _ e=>by cases e),SA t p h];rfl
theorem IX(l:List Tm)(p:ByteArray):Dj (ET l) p=l.foldl (JS p) none:=QK p l [] trivial
theorem Mx:∀{a b:List Tm} {lo:Option ByteArray},Cc lo a→Cc lo b→(∀p,Dj a p=Dj b p)→a=b
 | [],[],_,_,_,_=>rfl
 | [],z::s,_,_,_,h=>by have:=h z.path;rw[CM,Aw rfl]at this;cases this
 |z::s,[],_,_,_,h=>by have:=h z.path;rw[CM,Aw rfl]at this;cases this
 |y::r,z::s,lo,⟨f1,f2,f3⟩,⟨g1,g2,g3⟩,h=>by
  have e:y=z:=by
   have a1:=h y.path;have a2:=h z.path;rw[CM,Aw rfl,CM]at a1;rw[CM,CM z,Aw rfl]at a2
   by_cases e:z.path=y.path
   ·rw[Aw e]at a1;exact BM a1
   ·rw[Ah e]at a1;rw[Ah (fun c=>e c.symm)]at a2;have b1:=Cc.low g3 y (E5 a1.symm);have b2:=Cc.low f3 z (E5 a2)
    have:=Ev b1 b2
    rw[Dg]at this;cases this
  subst e
  congr 1
  refine Mx f3 g3 fun p=>?_;have hp:=h p;rw[CM,CM]at hp
  by_cases e:y.path=p
  ·subst e;rw[Hr f3 (Dg _),Hr g3 (Dg _)]
  ·simpa[e]using hp
theorem Cc.filter(q:Tm→Bool):∀{l:List Tm} {lo:Option ByteArray},Cc lo l→Cc lo (l.filter q)
 | [],_,_=>trivial
 |t::r,lo,⟨h1,h2,h3⟩=>by
  have ih:=Cc.filter q h3;rw[DK];split
  ·exact⟨h1,h2,ih⟩
  ·cases lo with
   |none=>exact ih.weak
   |some p=>exact ih.mono (h1 p rfl)
theorem FC{l:List Tm}{lo:Option ByteArray}{t:Tm}(h:Cc lo l):t∈l↔Dj l t.path=some t:=by
 constructor
 ·induction l generalizing lo with
  |nil=>intro h;cases h
  |cons u r ih =>
   intro ht;rw[CM];rcases Aq.1 ht with rfl | ht
   ·rw[Aw rfl]
   ·have:=Cc.low h.2.2 t ht
    rw[Ah (YP this)];exact ih h.2.2 ht
 ·exact E5
def Di(t:Tm)(o:Option Sl):Bool:=match o with | none=>t.absent | some x=>CN x.ver&&has t.set (place x.ver)
theorem fT(t:Tm)(s:List Sl):Gz t s=Di t (Cb s t.path):=by
 unfold Gz Di Cb;rfl
theorem L3{s:List Sl}{p:ByteArray}{x:Sl}(h:Cb s p=some x):x.path=p:=by
 have:=Ft h;simpa using this
theorem Jc{s:List Sl}{p:ByteArray}{x:Sl}(h:Cb s p=some x):x∈s:=CJ h
theorem JK{s:List Sl}{p:ByteArray}:CH s p=(Cb s p).isSome:=by
 unfold CH Cb;rw[BW,List.find?_isSome,Bb]
theorem Zi(t:Tm)(o:Option Sl):Di (Lt t) o=Di t o:=by
 unfold Di Lt;cases o<;>simp[G7]
theorem XK(u t:Tm)(o:Option Sl):Di (GM u t) o=(Di u o&&Di t o):=by
 unfold Di GM;cases o with
 |none=>rfl
 |some x=>simp only[U2];cases CN x.ver<;>simp
theorem Nj(u t:Tm)(o:Option Sl):Di (Dh u t) o=(Di u o||Di t o):=by
 unfold Di Dh;cases o with
 |none=>rfl
 |some x=>simp only[cf];cases CN x.ver<;>simp
def Ua(p:ByteArray)(o:Option Sl)(l:List Tm):Bool:=l.all fun t=>!decide (t.path=p)||Di t o
theorem JJ(p:ByteArray)(o:Option Sl):∀(l:List Tm) (a:Option Tm),(∀u,a=some u→u.path=p) →
  (l.foldl (JS p) a=none↔a=none∧l.all (fun t=>!decide (t.path=p))=true)∧(∀u,l.foldl (JS p) a=some u→u.path=p∧Di u o=((match a with | none=>true | some b=>Di b o)&&Ua p o l))
 | [],a,ha=>by
  refine⟨by simp,fun u h=>?_⟩;have h:a=some u:=h;subst h;exact⟨ha u rfl,by simp[Ua]⟩
 |t::l,a,ha=>by
  rw[Fu]
  by_cases e:t.path=p
  ·have hs:JS p a t=some (NW a t):=by unfold JS;rw[Aw e]
   rw[hs];have ih:=JJ p o l (some (NW a t)) (fun u h=>by cases h;rw[Qb a t fun u h=>(ha u h).trans e.symm];exact e);refine⟨⟨fun h=>?_,fun h=>?_⟩,fun u h=>?_⟩
   ·have:=ih.1.1 h;cases this.1
   ·simp[e]at h
   ·obtain⟨h1,h2⟩:=ih.2 u h;refine⟨h1,?_⟩;rw[h2]
    have:Ua p o (t::l)=(Di t o&&Ua p o l):=by simp[Ua,e]
    rw[this];cases a with
    |none=>simp[NW,Zi]
    |some b=>simp[NW,XK,Bool.and_assoc]
  ·have hs:JS p a t=a:=by unfold JS;rw[Ah e]
   rw[hs];have ih:=JJ p o l a ha
   have:Ua p o (t::l)=Ua p o l:=by simp[Ua,e]
   rw[this];refine⟨?_,ih.2⟩;rw[ih.1];simp[e]
theorem BA{l:List Tm}{s:List Sl}:Bg l s=true↔∀t∈l,Di t (Cb s t.path)=true:=by
 unfold Bg;rw[Br];simp only[fT]
theorem LC(l:List Tm)(s:List Sl):Bg (ET l) s=Bg l s:=by
 rw[BW,BA,BA];constructor
 ·intro h t ht
  have:=JJ t.path (Cb s t.path) l none (fun _ e=>by cases e)
  rw[←IX]at this;cases e:Dj (ET l) t.path with
  |none =>
   have:=(this.1.1 e).2
   rw[Br]at this
   have:=this t ht
   simp at this
  |some u =>
   obtain⟨h1,h2⟩:=this.2 u e;have hu:=h u (E5 e);rw[h1,h2]at hu;simp only[EA,Ua,Br]at hu
   have:=hu t ht
   simpa using this
 ·intro h u hu;have e:=(FC (Eo l)).1 hu
  have:=JJ u.path (Cb s u.path) l none (fun _ e=>by cases e)
  rw[←IX]at this;obtain⟨h1,h2⟩:=this.2 u e;rw[h2];simp only[EA,Ua,Br];intro t ht
  by_cases e:t.path=u.path
  ·have:=h t ht;rw[e]at this;simp[this]
  ·simp[e]
theorem Zy{t:Tm}(h:HC t=true)(o:Option Sl):Di t o=false:=by
 unfold HC at h;simp only[Ag,CT,GJ]at h;unfold Di;cases o with
 |none=>exact h.1
 |some x=>dsimp only;rw[h.2];simp[has]
def FY(s:List Sl):Prop:=∀x∈s,CN x.ver=true
theorem JT{v:Ver}(h:CN v=true):0≤v.a∧v.a≤999∧0≤v.b∧v.b≤999∧0≤v.c∧v.c≤999:=by
 unfold CN at h;simp only[Ag]at h;obtain⟨⟨a,b⟩,c⟩:=h;obtain⟨a1,a2⟩:=BF a;obtain⟨b1,b2⟩:=BF b;obtain⟨c1,c2⟩:=BF c;exact⟨a1,a2,b1,b2,c1,c2⟩
theorem Js{v:Ver}(h:CN v=true):0≤place v∧place v<1000000:=by
 have:=JT h;unfold place;omega
theorem Ub{t:Tm}(h:Gn t=true){s:List Sl}(hs:FY s):Di t (Cb s t.path)=true:=by
 unfold Gn at h;simp only[Ag,AA]at h;unfold Di;cases e:Cb s t.path with
 |none=>exact h.1
 |some x =>
  have:=hs x (Jc e)
  have hp:=Js this;dsimp only;rw[this,h.2];simp[has,BL,hp]
theorem CY{l:List Tm}{s:List Sl}(hs:FY s):Bg l s=(match CP l with | none=>false | some c=>Bg c s):=by
 unfold CP;split
 ·rename_i h;split at h
  ·rename_i hn;rw[←LC,AI];intro hv;rw[BA]at hv;obtain⟨t,ht,hn⟩:=Bb.1 hn
   have:=hv t ht
   rw[Zy hn]at this;cases this
  ·cases h
 ·rename_i c h;split at h
  ·cases h
  ·rename_i hn;cases h;rw[←LC,BW,BA,BA];constructor
   ·intro h t ht;exact h t (Bo.1 ht).1
   ·intro h t ht;cases ha:Gn t with
    |true=>exact Ub ha hs
    |false=>exact h t (Bo.2 ⟨ht,by simp[ha]⟩)
theorem GU(a b:List Tm)(s:List Sl):Bg (a++b) s=(Bg a s&&Bg b s):=by unfold Bg;rw[List.all_append]
theorem EJ{l c:List Tm}(h:CP l=some c):Cc none c:=by
 unfold CP at h;split at h
 ·cases h
 ·cases h;exact Cc.filter _ (Eo l)
theorem FH{l r:List Tm}{p:ByteArray}{t:Tm}{s:List Sl}(hs:FY s)(h:Fk l p=some (t,r)):Bg l s=(Di t (Cb s p)&&Bg r s)∧t.path=p:=by
 unfold Fk at h;cases hc:CP l with
 |none=>rw[hc]at h;cases h
 |some c =>
  rw[hc]at h;dsimp only at h;cases hf:Dj c p with
  |none=>rw[hf]at h;cases h
  |some u =>
   rw[hf]at h;cases h;have hp:=GY hf;refine⟨?_,hp⟩;rw[CY hs,hc];dsimp only;rw[BW,Ag,BA,BA];constructor
   ·intro h
    have:=h t (E5 hf)
    rw[hp]at this;exact⟨this,fun v hv=>h v (Bo.1 hv).1⟩
   ·intro⟨h1,h2⟩ v hv
    by_cases e:v.path=p
    ·have:=(FC (EJ hc)).1 hv
     rw[e,hf]at this;cases this;rw[e];exact h1
    ·exact h2 v (Bo.2 ⟨hv,by simp[e]⟩)
theorem TO{a b o:List Tm}{p:ByteArray}{s:List Sl}(hs:FY s)(h:Bw a b p=(o,0))(hv:Bg o s=true):Bg a s=true∨Bg b s=true:=by
 unfold Bw at h;cases h1:Fk a p with
 |none=>rw[h1]at h;simp at h
 |some x =>
  cases h2:Fk b p with
  |none=>rw[h1,h2]at h;simp at h
  |some y =>
   obtain⟨t,r⟩:=x;obtain⟨u,m⟩:=y;rw[h1,h2]at h;dsimp only at h;cases hc:CP (r++m++[Dh t u])with
   |none=>rw[hc]at h;simp at h
   |some c =>
    rw[hc]at h
    have:c=o:=by simpa using h
    subst this;have e:=CY (l:=r++m++[Dh t u]) hs;rw[hc]at e;dsimp only at e;rw[hv,GU,GU]at e;simp only[Ag]at e;obtain⟨⟨e1,e2⟩,e3⟩:=e;obtain⟨va,pa⟩:=FH hs h1;obtain⟨vb,pb⟩:=FH hs h2;have e3:=BA.1 e3 _ (Am.2 rfl)
    have:(Dh t u).path=p:=pa
    rw[this,Nj,CE]at e3;rcases e3 with e3 | e3
    ·exact .inl (by rw[va,e3,e1];rfl)
    ·exact .inr (by rw[vb,e3,e2];rfl)
theorem PZ{l:List Tm}{s:List Sl}(hs:FY s)(DC:PY l≠[]):Bg (PY l) s=Bg l s:=by
 have:=CY (l:=l) hs
 unfold PY at *
 cases h:CP l with
 |none=>rw[h]at DC;exact absurd rfl DC
 |some c=>rw[h]at this;exact this.symm
-- paths
def G0(c:UInt8):Bool:=decide (97≤c)&&decide (c≤122)
def VU(c:UInt8):Bool:=decide (65≤c)&&decide (c≤90)
def ER(c:UInt8):Bool:=decide (48≤c)&&decide (c≤57)
def My(c:UInt8):Bool:=G0 c||VU c||ER c||decide (c=95)
def gn:List UInt8:=[32,97,110,100,32,97,110,121,32,97,115,32,98,111,111,108,32,100,101,112,114,101,99,97,116,101,100,32,101,108,115,101,32,101,120,112,111,114,116,32,102,97,108,115,101,32,102,110,32,102,111,108,100,32,102,114,111,109,32,105,102,32,105,109,112,111,114,116,32,105,110,32,105,110,116,32,108,101,110,103,116,104,32,108,101,116,32,108,105,115,116,32,109,97,116,99,104,32,109,111,100,117,108,101,32,110,111,110,101,32,110,111,116,32,111,114,32,116,101,120,116,32,116,104,101,110,32,116,114,117,101,32,116,121,112,101,32,117,115,101,32]
def dq:List UInt8→List UInt8→Bool
 | [],_=>true
 |_::_,[]=>false
 |a::x,b::y=>decide (a=b)&&dq x y
def sK(x:List UInt8):List UInt8→Bool
 | []=>dq x []
 |b::y=>dq x (b::y)||sK x y
def Zp(s:List UInt8):Bool:=sK (32::(s++[32])) gn
def Ie(s:List UInt8):Bool:=!s.isEmpty&&decide (s.length≤32)&&G0 (s.headD 0)&&s.all My&&!Zp s
def Mr(s:List UInt8):Bool:=Ie s&&s.all fun c=>G0 c||ER c
def Gv(s:List UInt8):Int:=s.foldl (fun n c=>10*n+((c.toNat:Int)-48)) 0
def LK(s:List UInt8):Option Int:=match s with
 |c::r=>if c=118 then(if r.isEmpty||decide (3<r.length)||(decide (1<r.length)&&decide (r.headD 0=48))||!r.all ER then none else some (Gv r))else none
 | []=>none
def Fj(c:UInt8):List UInt8→List (List UInt8)
 | []=>[[]]
 |b::r=>if b=c then []::Fj c r else match Fj c r with
  | []=>[[b]]
  |x::l=>(b::x)::l
def Zu(p:List UInt8):Option Int:=match LK ((Fj 47 p).getLastD [])with
 |none=>none
 |some n=>if 64<p.length||(Fj 47 p).length<2 then none else if(Fj 47 p).all Mr then some n else none
def Cs(p:ByteArray):Option Int:=Zu p.data.toList
-- indexes
def GE(before:Option ByteArray)(q:Rq):Int :=
 if(Cs q.path).isNone then 4 else if q.set.isEmpty||!decide (q.set=canon q.set)||(match before with | some b=>!Fg b q.path | none=>false)then 1 else 0
def FM(before:Option ByteArray):List Rq→Int
 | []=>0
 |q::r=>if GE before q=0 then FM (some q.path) r else GE before q
def BS(l:List Rq):Int:=if 16<l.length then 7 else FM none l
def EQ(s:ByteArray):Bool:=decide (s.size=0)||decide (s.size=32)
def Dv(r:Rl):Int:=match Cs r.path with
 |none=>4
 |some m=>if !CN r.ver||!decide (r.ver.a=m)then 2 else if BS r.reqs≠0 then BS r.reqs else if EQ r.arch&&EQ r.ifc&&EQ r.cert then 0 else 1
def FN(a b:Int):Int:=if a<b then -1 else if b<a then 1 else 0
def Gq(a b:ByteArray):Int:=if Fg a b then -1 else if Fg b a then 1 else 0
def LW(a b:Ver):Int:=if FN a.a b.a≠0 then FN a.a b.a else if FN a.b b.b≠0 then FN a.b b.b else FN a.c b.c
def Sm(a b:Rl):Int:=if Gq a.path b.path≠0 then Gq a.path b.path else LW a.ver b.ver
def GO(r:Rl):Sl:=⟨r.path,r.ver⟩
def Dw(before:Option Rl):List Rl→Int
 | []=>0
 |r::l=>if Dv r≠0 then Dv r else match before with
  |none=>Dw (some r) l
  |some b=>if GO b=GO r then 5 else if 0<Sm b r then 1 else Dw (some r) l
def A4(l:List Rl):Int:=if 256<l.length then 7 else Dw none l
def NE(x:List Rl)(y:Sl):Option Rl:=if A4 x≠0 then none else x.find? fun r=>decide (GO r=y)
def J8(x:List Rl)(p:ByteArray):List Rl:=if A4 x≠0 then []else x.filter fun r=>decide (r.path=p)
def B8(x:List Rl)(p:ByteArray):Bj:=canon (((J8 x p).filter fun r=>!r.yanked).map fun r=>(plc r.ver,plc r.ver+1))
def SX(before:Option ByteArray):List Sl→Bool
 | []=>true
 |y::r=>(match before with |some b=>Fg b y.path |none=>true)&&SX (some y.path) r
def K8(s:List Sl):Bool:=SX none s
-- solutions
-- derivations
def Pb(x:List Rl)(p:ByteArray)(pl:Int):Option Rl:=x.find? fun r=>decide (r.path=p)&&decide (plc r.ver=pl)
def mt:ByteArray:=⟨#[]⟩
def Jp{α:Type}(l:List α)(i:Int):Option α:=if i<0 then none else l[i.toNat]?
def cL(l:List Tm):Option (List Tm):=if l.isEmpty then none else some l
def DU(x:List Rl)(roots:List Rq)(d:List (List Tm))(i:Nf):Option (List Tm) :=
 if i.kind=0 then
  if i.path=mt∧i.place=0∧i.left=0∧i.right=0 then(Jp roots i.number).map Jt else none
 else if i.kind=1 then
  if i.left=0∧i.right=0 then match Pb x i.path i.place with
   |none=>none
   |some r=>match Jp r.reqs i.number with
    |none=>none
    |some q=>cL (Ei i.path i.place q)
  else none
 else if i.kind=2 then
  if i.place=0∧i.number=0∧i.left=0∧i.right=0 then cL (HR i.path (B8 x i.path))else none
 else if i.kind=3 then
  if i.place=0∧i.number=0 then match Jp d i.left,Jp d i.right with
   |some a,some b=>if(Bw a b i.path).2=0 then some (Bw a b i.path).1 else none
   |_,_=>none
  else none
 else none
def Dd(x:List Rl)(roots:List Rq):List Nf→List (List Tm)→Option (List (List Tm))
 | [],d=>some d
 |i::l,d=>match DU x roots d i with
  |none=>none
  |some t=>Dd x roots l (d++[t])
-- decisions
def Ds(before:List Sl):List Rq→Option ByteArray→Option ByteArray
 | [],acc=>acc
 |q::l,acc=>Ds before l (if CH before q.path then acc else match acc with
  |none=>some q.path
  |some p=>if Fg q.path p then some q.path else some p)
def KC(needs:List Rq)(before:List Sl):Option ByteArray:=Ds before needs none
structure yK where
 before:List Sl
 needs:List Rq
 rel:Rl
-- answers
-- the example
-- the order of releases
theorem Kr{a b:Int}(h:FN a b=0):a=b:=by
 unfold FN at h;split at h
 ·cases h
 ·split at h
  ·cases h
  ·omega
theorem VY{a b:Int}(h:FN a b<0):a<b:=by
 unfold FN at h;split at h
 ·assumption
 ·split at h<;>omega
theorem UR{a b:ByteArray}(h:Gq a b=0):a=b:=by
 unfold Gq at h;cases h1:Fg a b with
 |true=>rw[h1]at h;simp at h
 |false =>
  cases h2:Fg b a with
  |true=>rw[h1,h2]at h;simp at h
  |false=>exact Hp h1 h2
theorem jL{a b:ByteArray}(h:Gq a b<0):Fg a b=true:=by
 unfold Gq at h;cases h1:Fg a b with
 |true=>rfl
 |false=>rw[h1]at h;cases h2:Fg b a<;>rw[h2]at h<;>simp at h
def gw(a b:Ver):Prop:=a.a<b.a∨(a.a=b.a∧(a.b<b.b∨(a.b=b.b∧a.c<b.c)))
def RC(a b:Rl):Prop:=Fg a.path b.path=true∨(a.path=b.path∧gw a.ver b.ver)
theorem af{a b:Ver}(h:LW a b<0):gw a b:=by
 unfold LW at h;split at h
 ·exact .inl (VY h)
 ·rename_i h1;have h1:=Kr (BT.1 h1);split at h
  ·exact .inr ⟨h1,.inl (VY h)⟩
  ·rename_i h2;exact .inr ⟨h1,.inr ⟨Kr (BT.1 h2),VY h⟩⟩
theorem US{a b:Ver}(h:LW a b=0):a=b:=by
 unfold LW at h;split at h
 ·rename_i h1;exact absurd h h1
 ·rename_i h1;have h1:=Kr (BT.1 h1);split at h
  ·rename_i h2;exact absurd h h2
  ·rename_i h2;have h2:=Kr (BT.1 h2);have h3:=Kr h;cases a;cases b;simp_all
theorem bR{a b:Rl}(h:Sm a b=0):GO a=GO b:=by
 unfold Sm at h;split at h
 ·rename_i h1;exact absurd h h1
 ·rename_i h1;have h1:=UR (BT.1 h1);have h2:=US h;unfold GO;rw[h1,h2]
theorem jM{a b:Rl}(h:Sm a b<0):RC a b:=by
 unfold Sm at h;split at h
 ·exact .inl (jL h)
 ·rename_i h1;exact .inr ⟨UR (BT.1 h1),af h⟩
theorem cJ{a b c:Ver}(h:gw a b)(k:gw b c):gw a c:=by unfold gw at *;omega
theorem Vh{a b c:Rl}(h:RC a b)(k:RC b c):RC a c:=by
 rcases h with h | ⟨h1,h2⟩
 ·rcases k with k | ⟨k1,k2⟩
  ·exact .inl (Ev h k)
  ·exact .inl (k1▸h)
 ·rcases k with k | ⟨k1,k2⟩
  ·exact .inl (h1▸k)
  ·exact .inr ⟨h1.trans k1,cJ h2 k2⟩
theorem Jl{a b:Rl}(h:RC a b)(k:GO a=GO b):False:=by
 unfold GO at k;simp only[Sl.mk.injEq]at k;rcases h with h | ⟨_,h⟩
 ·rw[k.1,Dg]at h;cases h
 ·rw[k.2]at h;unfold gw at h;omega
-- a valid index
structure RR(r:Rl):Prop where
 maj:Cs r.path=some r.ver.a
 val:CN r.ver=true
 reqs:BS r.reqs=0
theorem YT{r:Rl}(h:Dv r=0):RR r:=by
 unfold Dv at h;split at h
 ·cases h
 ·rename_i m hm;split at h
  ·cases h
  ·rename_i h1;split at h
   ·rename_i h2;exact absurd h h2
   ·rename_i h2;simp only[CE,CT,JI,not_or,BT]at h1;refine⟨by rw[hm,h1.2],by simpa using h1.1,BT.1 h2⟩
theorem KR:∀{l:List Rl} {b:Option Rl},Dw b l=0→(∀r∈l,RR r)∧(l.Pairwise RC∧∀c,b=some c→∀r∈l,RC c r)
 | [],b,_=>⟨fun _ h=>(by cases h),.nil,fun _ _ _ h=>(by cases h)⟩
 |r::l,b,h=>by
  unfold Dw at h;split at h
  ·rename_i h1;exact absurd h h1
  ·rename_i h1;have hr:=YT (BT.1 h1);have go:Dw (some r) l=0→(∀c,b=some c→RC c r)→(∀z∈r::l,RR z)∧((r::l).Pairwise RC∧∀c,b=some c→∀z∈r::l,RC c z):=fun h hc=>by
    obtain⟨i1,i2,i3⟩:=KR h;refine⟨fun z hz=>?_,.cons (i3 r rfl) i2,fun c e z hz=>?_⟩
    ·rcases Aq.1 hz with rfl | hz
     ·exact hr
     ·exact i1 z hz
    ·rcases Aq.1 hz with rfl | hz
     ·exact hc c e
     ·exact Vh (hc c e) (i3 r rfl z hz)
   cases b with
   |none=>exact go h fun _ e=>by cases e
   |some b =>
    dsimp only at h;split at h
    ·cases h
    ·rename_i hk;split at h
     ·cases h
     ·rename_i hc;refine go h fun c e=>?_;cases e;refine jM ?_
      have:Sm b r≠0:=fun e=>hk (bR e)
      omega
theorem Cg{l:List Rl}(h:A4 l=0):(∀r∈l,RR r)∧l.Pairwise RC:=by
 unfold A4 at h;split at h
 ·cases h
 ·exact⟨(KR h).1,(KR h).2.1⟩
theorem Th{l:List Rl}(h:l.Pairwise RC){a b:Rl}(ha:a∈l)(hb:b∈l)(hk:GO a=GO b):a=b:=by
 induction h with
 |nil=>cases ha
 |cons h1 h2 ih =>
  rcases Aq.1 ha with e1 | ha
  ·rcases Aq.1 hb with e2 | hb
   ·exact e1.trans e2.symm
   ·exact(Jl (e1▸h1 b hb) hk).elim
  ·rcases Aq.1 hb with e2 | hb
   ·exact(Jl (e2▸h1 a ha) hk.symm).elim
   ·exact ih ha hb
theorem WI{a b:Ver}(ha:CN a=true)(hb:CN b=true)(h1:a.a=b.a)(h2:place a=place b):a=b:=by
 have:=JT ha
 have:=JT hb
 unfold place at h2;have e1:a.b=b.b:=by omega
 have e2:a.c=b.c:=by omega
 cases a;cases b;simp_all
theorem RR.plc{r:Rl}(h:RR r):plc r.ver=place r.ver:=by unfold Go.Eng.plc;rw[h.val];rfl
theorem aZ{l:List Rl}(h:(∀r∈l,RR r)∧l.Pairwise RC){a b:Rl}(ha:a∈l)(hb:b∈l)(h1:a.path=b.path)(h2:place a.ver=place b.ver):a=b:=by
 refine Th h.2 ha hb ?_
 have:=h.1 a ha
 have:=h.1 b hb
 have e:a.ver.a=b.ver.a:=by
  have e1:=(h.1 a ha).maj;rw[h1,(h.1 b hb).maj]at e1;exact(BM e1).symm
 unfold GO;rw[h1,WI (h.1 a ha).val (h.1 b hb).val e h2]
theorem PM{x:List Rl}{y:Sl}{r:Rl}(h:NE x y=some r):A4 x=0∧r∈x∧GO r=y:=by
 unfold NE at h;split at h
 ·cases h
 ·rename_i h1;refine⟨BT.1 h1,CJ h,?_⟩
  have:=Ft h;simpa using this
structure oM(x:List Rl)(roots:List Rq)(s:List Sl):Prop where
 ix:A4 x=0
 inc:K8 s=true
 fnd:∀y∈s,∃r,NE x y=some r∧r.yanked=false
 root:∀q∈roots,∃y,Cb s q.path=some y∧has q.set (place y.ver)=true
 req:∀y∈s,∀r,NE x y=some r→∀q∈r.reqs,∃z,Cb s q.path=some z∧has q.set (place z.ver)=true
theorem S7:∀{s:List Sl} {b:Option ByteArray},SX b s=true→s.Pairwise (fun a b=>Fg a.path b.path=true)∧∀c,b=some c→∀y∈s,Fg c y.path=true
 | [],_,_=>⟨.nil,fun _ _ _ h=>by cases h⟩
 |y::r,b,h=>by
  unfold SX at h;simp only[Ag]at h;obtain⟨h1,h2⟩:=h;obtain⟨i1,i2⟩:=S7 h2;refine⟨.cons (i2 _ rfl) i1,fun c e z hz=>?_⟩;subst e;rcases Aq.1 hz with rfl | hz
  ·exact h1
  ·exact Ev h1 (i2 _ rfl z hz)
theorem Ng{s:List Sl}(h:s.Pairwise (fun a b=>Fg a.path b.path=true)){y:Sl}(hy:y∈s):Cb s y.path=some y:=by
 induction h with
 |nil=>cases hy
 |cons h1 h2 ih =>
  rename_i a l;unfold Cb;rw[Fs];rcases Aq.1 hy with rfl | hy
  ·simp
  ·have:=YP (h1 y hy)
   simp only[this,decide_false];exact ih hy
theorem Xt{s:List Sl}(h:K8 s=true){y:Sl}(hy:y∈s):Cb s y.path=some y:=Ng (S7 h).1 hy
theorem oM.valid{x:List Rl}{roots:List Rq}{s:List Sl}(h:oM x roots s):FY s:=fun y hy=>by
 obtain⟨r,h1,_⟩:=h.fnd y hy;obtain⟨_,h2,h3⟩:=PM h1
 have:=((Cg h.ix).1 r h2).val
 rw[←h3];exact this
-- soundness
theorem QZ{q:Rq}{s:List Sl}(h:∃y,Cb s q.path=some y∧has q.set (place y.ver)=true):Di (DG q) (Cb s q.path)=false:=by
 obtain⟨y,h1,h2⟩:=h;rw[h1];unfold Di DG;dsimp only;rw[FD,h2];simp
theorem gU{l:List Tm}{s:List Sl}(hs:FY s)(hn:CP l≠none)(hv:Bg l s=false):Bg (PY l) s=false:=by
 have:=CY (l:=l) hs
 unfold PY;cases h:CP l with
 |none=>exact absurd h hn
 |some c=>rw[h,hv]at this;exact this.symm
theorem X6{l:List Tm}{s:List Sl}(hs:FY s){o:List Tm}(h:cL (PY l)=some o)(hv:Bg l s=false):Bg o s=false:=by
 unfold cL at h;split at h
 ·cases h
 ·rename_i DC;cases h;rw[PZ hs (by intro e;rw[e]at DC;exact DC rfl)];exact hv
theorem ZO(q:Rq):CP [DG q]≠none:=by
 unfold CP ET;simp only[List.foldl,NK]
 have:HC (Lt (DG q))=false:=by simp[HC,Lt,DG]
 simp[this]
theorem OY{α:Type}{l:List α}{i:Int}{a:α}(h:Jp l i=some a):a∈l:=by
 unfold Jp at h;split at h
 ·cases h
 ·exact Av h
theorem Wj{x:List Rl}{roots:List Rq}{s:List Sl}(hs:oM x roots s){d:List (List Tm)}(hd:∀t∈d,Bg t s=false){i:Nf}{o:List Tm}(h:DU x roots d i=some o):Bg o s=false:=by
 have hv:=hs.valid;unfold DU at h;split at h
 ·split at h
  ·rw[A1]at h;obtain⟨q,hq,rfl⟩:=h;refine gU hv (ZO q) ?_;rw[AI];intro hw
   have:=BA.1 hw _ (Am.2 rfl)
   rw[show(DG q).path=q.path from rfl,QZ (hs.root q (OY hq))]at this;cases this
  ·cases h
 ·split at h
  ·split at h
   ·split at h
    ·cases h
    ·rename_i r hr;split at h
     ·cases h
     ·rename_i q hq;refine X6 hv h ?_;rw[AI];intro hw;have h1:=BA.1 hw _ (Aa ..);have h2:=BA.1 hw (DG q) (by simp);rw[show(DG q).path=q.path from rfl]at h2;dsimp only at h1;cases hf:Cb s i.path with
      |none=>rw[hf]at h1;simp[Di]at h1
      |some y =>
       rw[hf]at h1;unfold Di at h1;simp only[Ag]at h1;have hp:place y.ver=i.place:=by
        have:=h1.2
        simp only[has,Ce,List.any_nil,Bool.or_false,Ag,BL,AA]at this;omega
       have hy:=Jc hf;have vw:=L3 hf;obtain⟨r',e1,e2⟩:=hs.fnd y hy;obtain⟨_,m1,k1⟩:=PM e1;have cp:r∈x:=CJ hr;have lX:=Ft hr;simp only[Ag,AA]at lX;have Gu:=Cg hs.ix
       have:r'=r:=by
        refine aZ Gu m1 cp ?_ ?_
        ·rw[lX.1,←vw,←k1];rfl
        ·rw[←(Gu.1 r cp).plc,lX.2,←hp,←k1];rfl
       subst this
       have:=hs.req y hy r' e1 q (OY hq)
       rw[QZ this]at h2;cases h2
   ·cases h
  ·split at h
   ·split at h
    ·refine X6 hv h ?_;rw[AI];intro hw;have h1:=BA.1 hw _ (Am.2 rfl);dsimp only at h1;cases hf:Cb s i.path with
     |none=>rw[hf]at h1;simp[Di]at h1
     |some y =>
      rw[hf]at h1;unfold Di at h1;simp only[Ag]at h1;have hy:=Jc hf;have vw:=L3 hf;obtain⟨r,e1,e2⟩:=hs.fnd y hy;obtain⟨_,m1,k1⟩:=PM e1;have Gu:=Cg hs.ix;have h1:=h1.2;rw[FD]at h1;have jg:=Js (hv y hy)
      have:has (B8 x i.path) (place y.ver)=true:=by
       unfold B8;rw[G7];unfold has;simp only[jg,decide_true,EA,Bb,Ak,Bo];refine⟨(plc r.ver,plc r.ver+1),⟨r,⟨?_,by simp[e2]⟩,rfl⟩,?_⟩
       ·unfold J8;simp only[hs.ix,Vj,not_true,Fc,Bo,m1,true_and,AA];rw[←vw,←k1];rfl
       ·rw[(Gu.1 r m1).plc,←k1];rw[DN];exact⟨AZ _,by show place r.ver<place r.ver+1;omega⟩
      rw[this]at h1;simp at h1
    ·cases h
   ·split at h
    ·split at h
     ·split at h
      ·rename_i a b ha hb;split at h
       ·rename_i h0;cases h;rw[AI];intro hw;rcases TO hv (o:=(Bw a b i.path).1) (Prod.ext rfl h0) hw with hw | hw
        ·rw[hd a (OY ha)]at hw;cases hw
        ·rw[hd b (OY hb)]at hw;cases hw
       ·cases h
      ·cases h
     ·cases h
    ·cases h
theorem LY{x:List Rl}{roots:List Rq}{s:List Sl}(hs:oM x roots s):∀{l:List Nf} {d d' : List (List Tm)},(∀t∈d,Bg t s=false)→Dd x roots l d=some d'→∀t∈d',Bg t s=false
 | [],d,d',hd,h=>by cases h;exact hd
 |i::l,d,d',hd,h=>by
  unfold Dd at h;split at h
  ·cases h
  ·rename_i o ho;refine LY hs (fun t ht=>?_) h;rcases A7.1 ht with ht | ht
   ·exact hd t ht
   ·rw[Am.1 ht];exact Wj hs hd ho
theorem Ih{α:Type}[DecidableEq α]:∀{l m:List α},l.Nodup→(∀x∈l,x∈m)→l.length≤m.length
 | [],_,_,_=>AO _
 |a::l,m,hn,hs=>by
  rw[CF]at hn;have ha:a∈m:=hs a (Aa ..)
  have:=Ih (l:=l) (m:=m.erase a) hn.2 fun x hx=>by
   have:x≠a:=fun e=>hn.1 (e▸hx)
   exact(List.mem_erase_of_ne this).2 (hs x (Ae _ hx))
  rw[List.length_erase_of_mem ha]at this
  have:=List.length_pos_of_mem ha
  simp only[Au];omega
abbrev VI(s:List Sl):Prop:=s.Pairwise (fun a b=>Fg a.path b.path=true)
-- the next path
theorem JP(before:List Sl):∀{l:List Rq} {acc:Option ByteArray},(∀p,acc=some p→CH before p=false) →
  (∀p,Ds before l acc=some p→CH before p=false∧(acc=some p∨∃q∈l,q.path=p))∧(Ds before l acc=none→acc=none∧∀q∈l,CH before q.path=true)
 | [],acc,ha=>⟨fun p h=>⟨ha p h,.inl h⟩,fun h=>⟨h,fun _ h=>(by cases h)⟩⟩
 |q::l,acc,ha=>by
  unfold Ds
  have key:∀bx,(∀p,bx=some p→CH before p=false)→(∀p,bx=some p→acc=some p∨q.path=p)→(bx=none→acc=none∧CH before q.path=true) →
    (∀p,Ds before l bx=some p→CH before p=false∧(acc=some p∨∃q'∈q::l,q'.path=p))∧(Ds before l bx=none→acc=none∧∀q'∈q::l,CH before q'.path=true):=by
   intro bx h1 h2 h3;obtain⟨i1,i2⟩:=JP before (l:=l) h1;refine⟨fun p h=>?_,fun h=>?_⟩
   ·obtain⟨j1,j2⟩:=i1 p h;refine⟨j1,?_⟩;rcases j2 with j2 | ⟨q',j3,j4⟩
    ·rcases h2 p j2 with h2 | h2
     ·exact .inl h2
     ·exact .inr ⟨q,Aa ..,h2⟩
    ·exact .inr ⟨q',Ae _ j3,j4⟩
   ·obtain⟨j1,j2⟩:=i2 h;obtain⟨k1,k2⟩:=h3 j1;refine⟨k1,fun q' hq=>?_⟩;rcases Aq.1 hq with rfl | hq
    ·exact k2
    ·exact j2 q' hq
  cases hb:CH before q.path with
  |true=>simp only[Kw];exact key acc ha (fun p h=>.inl h) fun h=>⟨h,hb⟩
  |false =>
   simp only[Cw,Fc];cases acc with
   |none=>exact key _ (fun p h=>by cases h;exact hb) (fun p h=>by cases h;exact .inr rfl) fun h=>by cases h
   |some p0 =>
    dsimp only;split
    ·exact key _ (fun p h=>by cases h;exact hb) (fun p h=>by cases h;exact .inr rfl) fun h=>by cases h
    ·exact key _ (fun p h=>by cases h;exact ha _ rfl) (fun p h=>by cases h;exact .inl rfl) fun h=>by cases h
theorem Ty{needs:List Rq}{before:List Sl}{p:ByteArray}(h:KC needs before=some p):CH before p=false∧∃q∈needs,q.path=p:=by
 obtain⟨h1,h2⟩:=(JP before (l:=needs) (acc:=none) fun _ e=>by cases e).1 p h;rcases h2 with h2 | h2
 ·cases h2
 ·exact⟨h1,h2⟩
theorem Zz{needs:List Rq}{before:List Sl}(h:KC needs before=none):∀q∈needs,CH before q.path=true :=
 ((JP before (l:=needs) (acc:=none) fun _ e=>by cases e).2 h).2
theorem SJ(a b:List Sl)(p:ByteArray):CH (a++b) p=(CH a p||CH b p):=by unfold CH;rw[Hk]
theorem K4{s:List Sl}{p:ByteArray}:CH s p=true↔∃y∈s,y.path=p:=by unfold CH;simp
theorem G6{s:List Sl}{p:ByteArray}:CH s p=true↔p∈s.map (·.path):=by rw[K4,Ak]
-- what is needed
-- skips
theorem V1{t:List Tm}{b s:List Sl}(hs:K8 s=true)(hb:∀y∈b,y∈s)(h:CD t b=true):Bg t s=true:=by
 unfold CD at h;simp only[Ag,CT,F5]at h;obtain⟨h1,h2⟩:=h;rw[BA]at h1⊢;intro u hu
 have:=h2 u hu
 simp only[Bool.not_eq_false]at this;rw[JK]at this;cases hf:Cb b u.path with
 |none=>rw[hf]at this;cases this
 |some y =>
  have h3:=h1 u hu;rw[hf]at h3
  have:=Xt hs (hb y (Jc hf))
  rw[L3 hf]at this;rw[this];exact h3
-- right answers
-- the first decision that differs
-- prefixes
theorem IV{x:List Rl}{roots:List Rq}:∀{l:List Nf} {d d' : List (List Tm)},Dd x roots l d=some d'→d'.length=d.length+l.length
 | [],d,d',h=>by cases h;rfl
 |i::l,d,d',h=>by
  unfold Dd at h;split at h
  ·cases h
  ·have:=IV h
   simp only[Ad,Au,AC]at this⊢;omega
theorem GR{x:List Rl}{roots:List Rq}:∀(l m:List Nf) (d:List (List Tm)),Dd x roots (l++m) d=match Dd x roots l d with | none=>none | some d'=>Dd x roots m d'
 | [],_,_=>rfl
 |i::l,m,d=>by
  show(match DU x roots d i with | none=>none | some t=>Dd x roots (l++m) (d++[t]))=(match(match DU x roots d i with | none=>none | some t=>Dd x roots l (d++[t]))with | none=>none | some d'=>Dd x roots m d');cases DU x roots d i with
  |none=>rfl
  |some t=>exact GR l m _
theorem Lu{x:List Rl}{roots:List Rq}:∀{l:List Nf} {d d' : List (List Tm)},Dd x roots l d=some d'→d <+: d'
 | [],d,d',h=>by cases h;exact List.prefix_refl _
 |i::l,d,d',h=>by
  unfold Dd at h;split at h
  ·cases h
  ·exact(N8 _ _).trans (Lu h)
theorem M8{x:List Rl}{roots:List Rq}{l:List Nf}{d:List (List Tm)}(h:Dd x roots l []=some d)(k:Nat):Dd x roots (l.take k) []=some (d.take k):=by
 rw[←Lq k l,GR]at h;cases e:Dd x roots (l.take k) []with
 |none=>rw[e]at h;cases h
 |some f =>
  rw[e]at h;dsimp only at h;have h1:=IV e;have h2:=IV h;have h3:=Lu h
  congr 1
  simp only[AC,AJ,As]at h1 h2;obtain⟨z,rfl⟩:=h3
  by_cases hk:k≤l.length
  ·rw[D5 (by omega),AT (by omega)]
  ·rw[Ad]at h2
   have:z=[]:=AB (by omega)
   subst this;rw[B1,AT (by omega)]
def KN(l:List Tm):Prop:=CP l=some l
theorem dt{l:List Tm}:∀(l2:List Tm),Cc none (l2++l)→l.foldl (fun acc t=>NK t acc) l2=l2++l:=by
 induction l with
 |nil=>intro l2 _;simp
 |cons t r ih =>
  intro l2 h;have hi:NK t l2=l2++[t]:=by
   have:∀(m:List Tm) (lo:Option ByteArray),Cc lo (m++t::r)→NK t m=m++[t]:=by
    intro m
    induction m with
    |nil =>
     intro lo hm;have hc:EB t.set:=hm.2.1;unfold NK;rw[show Lt t=t from oz rfl rfl (Jb hc)];rfl
    |cons u m ihm =>
     intro lo hm;have hm:Cc lo (u::(m++t::r)):=hm;have DI:=Cc.low hm.2.2 t (by simp);unfold NK;rw[Aw DI,ihm _ hm.2.2];rfl
   exact this l2 none h
  rw[Fu,hi]
  have:=ih (l2++[t]) (by rw[AP];exact h)
  rw[this,AP];rfl
theorem PU{l:List Tm}(h:Cc none l):ET l=l:=by
 have:=dt (l:=l) [] h
 simpa[ET]using this
theorem QF{l c:List Tm}(h:CP l=some c):KN c:=by
 have hs:=EJ h;unfold KN;unfold CP at h⊢;rw[PU hs];split at h
 ·cases h
 ·rename_i hn;cases h;rw[Ah]
  ·congr 1
   rw[List.filter_filter];simp
  ·rw[Bool.not_eq_true,F5]at hn⊢;intro t ht;exact hn t (Bo.1 ht).1
theorem OF:KN []:=rfl
theorem Mm(l:List Tm):KN (PY l):=by
 unfold PY;cases h:CP l with
 |none=>exact OF
 |some c=>exact QF h
theorem Ns(a b:List Tm)(p:ByteArray):KN (Bw a b p).1:=by
 unfold Bw;split
 ·split
  ·rename_i h;exact QF h
  ·exact OF
 ·exact OF
theorem X5{l o:List Tm}(h:cL l=some o):o=l:=by unfold cL at h;split at h<;>cases h;rfl
theorem XP{x:List Rl}{roots:List Rq}{d:List (List Tm)}{i:Nf}{o:List Tm}(h:DU x roots d i=some o):KN o:=by
 unfold DU at h;split at h
 ·split at h
  ·rw[A1]at h;obtain⟨q,_,rfl⟩:=h;exact Mm _
  ·cases h
 ·split at h
  ·split at h
   ·split at h
    ·cases h
    ·split at h
     ·cases h
     ·rw[X5 h];exact Mm _
   ·cases h
  ·split at h
   ·split at h
    ·rw[X5 h];exact Mm _
    ·cases h
   ·split at h
    ·split at h
     ·split at h
      ·split at h
       ·cases h;exact Ns _ _ _
       ·cases h
      ·cases h
     ·cases h
    ·cases h
theorem M7{x:List Rl}{roots:List Rq}:∀{l:List Nf} {d d' : List (List Tm)},(∀t∈d,KN t)→Dd x roots l d=some d'→∀t∈d',KN t
 | [],d,d',hd,h=>by cases h;exact hd
 |i::l,d,d',hd,h=>by
  unfold Dd at h;split at h
  ·cases h
  ·rename_i o ho;refine M7 (fun t ht=>?_) h;rcases A7.1 ht with ht | ht
   ·exact hd t ht
   ·rw[Am.1 ht];exact XP ho
-- tampering
end Go.Eng
