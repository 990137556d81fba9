/- Lemmas for the claims of this seat, without a condition: part 1 (P1, P2, P3, P4, P5, P6, P7). -/
import Derived.Test.YtddfphmpfnmknaaGreatDoorDA00
namespace Go.Eng
def BL(p:Int)(s:Int×Int):Bool:=decide (s.1≤p)&&decide (p<s.2)
def has(s:List (Int×Int))(p:Int):Bool:=decide (0≤p)&&decide (p<1000000)&&s.any (BL p)
abbrev Ba:=List (Int×Int)
def EW(lo:Int):Ba→Prop
 | []=>True
 |y::r=>lo≤y.1∧y.1<y.2∧y.2≤1000000∧EW (y.2+1) r
abbrev EM(l:Ba):Prop:=EW 0 l
def Wj(x:Int×Int):Ba→Ba
 | []=>[x]
 |y::r=>if x.2<y.1 then x::y::r else if y.2<x.1 then y::Wj x r else Wj (min x.1 y.1,max x.2 y.2) r
def Ee(x:Int×Int):Int×Int:=(max x.1 0,min x.2 1000000)
def canon:Ba→Ba
 | []=>[]
 |x::r=>if(Ee x).1<(Ee x).2 then Wj (Ee x) (canon r)else canon r
def Lc(at_:Int):Ba→Ba
 | []=>if at_<1000000 then [(at_,1000000)]else []
 |y::r=>if at_<y.1 then(at_,y.1)::Lc y.2 r else Lc y.2 r
def Et(s:Ba):Ba:=Lc 0 (canon s)
def QJ(l:List Ba):Ba:=canon l.flatten
def Qe(l:List Ba):Ba:=Et (l.map Et).flatten
def PF(a b:Ba):Ba:=QJ [a,b]
def Pc(a b:Ba):Ba:=Qe [a,b]
theorem EW.mono{lo HS : Int}:∀{l:Ba},EW lo l→HS≤lo→EW HS l
 | [],_,_=>trivial
 |_::_,⟨h1,h2,h3,h4⟩,h=>⟨Int.le_trans h h1,h2,h3,h4⟩
theorem EW.low{lo:Int}:∀{l:Ba},EW lo l→∀y∈l,lo≤y.1∧y.1<y.2∧y.2≤1000000
 |y::r,⟨h1,h2,h3,h4⟩,z,hz=>by
  rcases AA.1 hz with rfl | hz
  ·exact⟨h1,h2,h3⟩
  ·have:=h4.low z hz
   exact⟨by omega,this.2.1,this.2.2⟩
theorem DN{p:Int}{s:Int×Int}:BL p s=true↔s.1≤p∧p<s.2:=by simp[BL]
theorem MD{lo:Int}{l:Ba}(h:EW lo l){p:Int}(hp:l.any (BL p)=true):lo≤p:=by
 obtain⟨y,hy,h2⟩:=Bc.1 hp
 have:=h.low y hy
 have:=DN.1 h2
 omega
theorem eT{lo:Int}{l:Ba}(h:EW lo l){p:Int}(hp:l.any (BL p)=true):p<1000000:=by
 obtain⟨y,hy,h2⟩:=Bc.1 hp
 have:=h.low y hy
 have:=DN.1 h2
 omega
theorem NF:∀(l:Ba) {lo:Int} {x:Int×Int},EW lo l→lo≤x.1→x.1<x.2→x.2≤1000000→EW lo (Wj x l)
 | [],lo,x,_,h1,h2,h3=>⟨h1,h2,h3,trivial⟩
 |y::r,lo,x,⟨g1,g2,g3,g4⟩,h1,h2,h3=>by
  unfold Wj;split
  ·exact⟨h1,h2,h3,by omega,g2,g3,g4⟩
  ·split
   ·exact⟨g1,g2,g3,NF r g4 (by omega) h2 h3⟩
   ·refine NF r (g4.mono (by omega)) ?_ ?_ ?_<;>dsimp only<;>omega
theorem Ov:∀(l:Ba) {lo:Int} {x:Int×Int} (p:Int),EW lo l→x.1<x.2→(Wj x l).any (BL p)=(BL p x||l.any (BL p))
 | [],lo,x,p,_,_=>by simp[Wj]
 |y::r,lo,x,p,⟨g1,g2,g3,g4⟩,h2=>by
  unfold Wj;split
  ·simp
  ·split
   ·rw[B6,Ov r p g4 h2,B6,←Bool.or_assoc,←Bool.or_assoc,Bool.or_comm (BL p y)]
   ·rw[Ov r p g4 (by dsimp only;omega),B6,←Bool.or_assoc]
    congr 1
    simp only[BL];rw[BR];simp only[Ah,Cj,Au];omega
theorem Ck:∀s:Ba,EM (canon s)
 | []=>trivial
 |x::r=>by
  unfold canon;split
  ·rename_i h;refine NF _ (Ck r) ?_ h ?_<;>simp only[Ee]<;>omega
  ·exact Ck r
theorem KC:∀(s:Ba) (p:Int),(canon s).any (BL p)=has s p
 | [],p=>by simp[has,canon]
 |x::r,p=>by
  have ih:=KC r p;unfold canon;have hx:BL p (Ee x)=(decide (0≤p)&&decide (p<1000000)&&BL p x):=by
   simp only[BL,Ee];rw[BR];simp only[Ah,Au,Int.max_le,Int.lt_min];omega
  split
  ·rename_i h;rw[Ov _ p (Ck r) h,ih,hx];simp only[has,B6];cases decide (0≤p)<;>cases decide (p<1000000)<;>simp
  ·rename_i h;rw[ih];simp only[has,B6]
   have:BL p (Ee x)=false:=by
    rw[AK];intro h3
    have:=DN.1 h3
    omega
   rw[this]at hx;cases h1:decide (0≤p)<;>cases h2:decide (p<1000000)<;>simp_all
theorem HP{l:Ba}(h:EM l)(p:Int):has l p=l.any (BL p):=by
 unfold has;cases e:l.any (BL p)with
 |false=>simp
 |true=>have h1:0≤p:=MD h e;have h2:=eT h e;simp[h1,h2]
theorem Hp(s:Ba)(p:Int):has (canon s) p=has s p:=by
 rw[HP (Ck s),KC]
theorem Nh:∀{a b:Ba} {lo:Int},EW lo a→EW lo b→(∀p,a.any (BL p)=b.any (BL p))→a=b
 | [],[],_,_,_,_=>rfl
 | [],z::s,_,_,⟨g1,g2,g3,g4⟩,h=>by
  have:=h z.1
  rw[B6,DN.2 ⟨BJ _,g2⟩]at this;simp at this
 |y::r,[],_,⟨g1,g2,g3,g4⟩,_,h=>by
  have:=h y.1
  rw[B6,DN.2 ⟨BJ _,g2⟩]at this;simp at this
 |y::r,z::s,lo,⟨f1,f2,f3,f4⟩,⟨g1,g2,g3,g4⟩,h=>by
  have below:∀{x:Int×Int} {t:Ba} {p:Int},EW (x.2+1) t→(x::t).any (BL p)=true→p≤x.2→x.1≤p∧p<x.2:=fun {x t p} ht hp He=>by
   rw[B6,Cj]at hp;rcases hp with hp | hp
   ·exact DN.1 hp
   ·have:=MD ht hp;omega
  have low:∀{x:Int×Int} {t:Ba} {p:Int},x.1<x.2→EW (x.2+1) t→(x::t).any (BL p)=true→x.1≤p:=fun {x t p} hx ht hp=>by
   rw[B6,Cj]at hp;rcases hp with hp | hp
   ·exact(DN.1 hp).1
   ·have:=MD ht hp;omega
  have cov:∀{x:Int×Int} {t:Ba} {p:Int},x.1≤p→p<x.2→(x::t).any (BL p)=true:=fun {x t p} h1 h2=>by
   rw[B6,DN.2 ⟨h1,h2⟩,Bool.true_or]
  have e1:y.1=z.1:=by
   have a1:=low f2 f4 ((h z.1).trans (cov (BJ _) g2));have a2:=low g2 g4 ((h y.1).symm.trans (cov (BJ _) f2));omega
  have e2:y.2=z.2:=by
   rcases Int.lt_trichotomy y.2 z.2 with hl | he | hl
   ·have:=below f4 ((h y.2).trans (cov (by omega) hl)) (BJ _);omega
   ·exact he
   ·have:=below g4 ((h z.2).symm.trans (cov (by omega) hl)) (BJ _);omega
  have e:y=z:=Prod.ext e1 e2;subst e
  congr 1
  refine Nh f4 g4 fun p=>?_;have hp:=h p;simp only[B6]at hp;cases hs:BL p y with
  |false=>rw[hs,Jp,Jp]at hp;exact hp
  |true =>
   have:=DN.1 hs
   have n:∀{t:Ba},EW (y.2+1) t→t.any (BL p)=false:=fun {t} ht=>by
    rw[AK];intro hx;have:=MD ht hx;omega
   rw[n f4,n g4]
theorem HI{a b:Ba}(ha:EM a)(hb:EM b)(h:∀p,has a p=has b p):a=b :=
 Nh ha hb fun p=>by rw[←HP ha,←HP hb,h]
theorem SK{a s:Ba}(ha:EM a)(h:∀p,has a p=has s p):a=canon s :=
 HI ha (Ck s) fun p=>by rw[h,Hp]
theorem Js{a:Ba}(ha:EM a):canon a=a:=(SK ha fun _=>rfl).symm
theorem Ma{s:Ba}{p:Int}(h:has s p=true):0≤p∧p<1000000:=by
 unfold has at h;simp only[Ah,Au]at h;exact h.1
def LO(p:Int):Bool:=decide (0≤p)&&decide (p<1000000)
theorem Ld:∀(l:Ba) {at_ lo:Int},0≤at_→EW lo l→lo≤at_+1→at_≤lo→EW at_ (Lc at_ l)∧∀p,(Lc at_ l).any (BL p)=(decide (at_≤p)&&decide (p<1000000)&&!l.any (BL p))
 | [],at_,lo,h0,_,h1,h2=>by
  unfold Lc;split
  ·exact⟨⟨BJ _,by dsimp only;omega,BJ _,trivial⟩,fun p=>by simp[BL]⟩
  ·refine⟨trivial,fun p=>?_⟩
   have:(decide (at_≤p)&&decide (p<1000000))=false:=by
    rw[AK];simp only[VC,Ah,Au];omega
   simp[this]
 |y::r,at_,lo,h0,⟨g1,g2,g3,g4⟩,h1,h2=>by
  have ih:=Ld r (at_:=y.2) (by omega) g4 (BJ _) (by omega);have key:∀p,(decide (at_≤p)&&decide (p<y.1)||(Lc y.2 r).any (BL p))=(decide (at_≤p)&&decide (p<1000000)&&!(y::r).any (BL p)):=fun p=>by
   rw[ih.2,B6];cases hr:r.any (BL p)with
   |true =>
    have:=MD g4 hr
    have a:decide (p<y.1)=false:=Ao (by omega);simp[a]
   |false =>
    rw[BR];simp only[BL,Ah,Cj,Au,CT,Bool.or_false,Bool.and_eq_false_iff,J0,Bool.not_false,and_true];omega
  unfold Lc;split
  ·rename_i h;refine⟨⟨BJ _,h,by dsimp only;omega,ih.1 |> fun c=>?_⟩,fun p=>?_⟩
   ·dsimp only;cases e:Lc y.2 r with
    |nil=>trivial
    |cons z s =>
     rw[e]at c;exact⟨by have:=c.1;omega,c.2⟩
   ·rw[B6,←key];rfl
  ·rename_i h;refine⟨ih.1.mono (by omega),fun p=>?_⟩;rw[←key]
   have:(decide (at_≤p)&&decide (p<y.1))=false:=by
    rw[AK];simp only[VC,Ah,Au];omega
   rw[this,Jp]
theorem Hm(s:Ba):EM (Et s):=by
 unfold Et;exact(Ld _ (BJ _) (Ck s) (by omega) (BJ _)).1
theorem FS(s:Ba)(p:Int):has (Et s) p=(LO p&&!has s p):=by
 rw[HP (Hm s)];unfold Et;rw[(Ld _ (BJ _) (Ck s) (by omega) (BJ _)).2,KC];rfl
theorem ZC(a b:Ba)(p:Int):has (a++b) p=(has a p||has b p):=by
 simp only[has,HE];cases decide (0≤p)<;>cases decide (p<1000000)<;>simp
theorem L9:∀(l:List Ba) (p:Int),has l.flatten p=l.any fun s=>has s p
 | [],p=>by simp[has]
 |s::l,p=>by rw[BC,ZC,L9 l p,B6]
theorem Tp(l:List Ba)(p:Int):has (QJ l) p=l.any fun s=>has s p:=by
 unfold QJ;rw[Hp,L9]
theorem Xa(l:List Ba):EM (QJ l):=Ck _
theorem WT(l:List Ba):EM (Qe l):=Hm _
theorem To(l:List Ba)(p:Int):has (Qe l) p=(LO p&&l.all fun s=>has s p):=by
 unfold Qe;rw[FS,L9,List.any_map];cases h:LO p with
 |false=>rfl
 |true =>
  rw[EL,EL,List.not_any_eq_all_not]
  congr 1
  funext s
  simp[FS,h]
theorem YX(a b:Ba):EM (PF a b):=Ck _
theorem Rk(a b:Ba):EM (Pc a b):=Hm _
theorem cA(a b:Ba)(p:Int):has (PF a b) p=(has a p||has b p):=by
 unfold PF;rw[Tp];simp
theorem Vj(a b:Ba)(p:Int):has (Pc a b) p=(has a p&&has b p):=by
 unfold Pc;rw[To];simp only[List.all_cons,List.all_nil,Bool.and_true];cases h:has a p with
 |false=>simp
 |true=>have:=Ma h;simp[LO,this]
theorem ZL(s:Ba):Pc s s=canon s:=HI (Rk _ _) (Ck _) fun p=>by rw[Vj,Hp,Bool.and_self]
theorem UB{s:Ba}:canon s=[]↔∀p,has s p=false:=by
 constructor
 ·intro h p;rw[←Hp,h];simp[has]
 ·intro h;exact HI (Ck s) (b:=[]) trivial fun p=>by rw[Hp,h p];simp[has]
theorem Qn{s:Ba}(hs:EM s):s=[]↔∀p,has s p=false:=by
 rw[←UB,Js hs]
def dX(l:List Ba)(p:Int):Nat:=l.countP fun s=>has s p
theorem SJ:∀{l:Ba} {lo:Int},EW lo l→lo≤1000000→(l.length:Int)≤1000000-lo
 | [],lo,_,h=>by simp;omega
 |y::r,lo,⟨g1,g2,g3,g4⟩,h=>by
  by_cases h3:y.2+1≤1000000
  ·have:=SJ g4 h3
   simp only[Az];omega
  ·cases r with
   |nil=>simp;omega
   |cons z s=>have:=g4.1;have:=g4.2.1;have:=g4.2.2.1;omega
theorem Il{l:Ba}(h:EM l):l.length≤1000000:=by have:=SJ h (by omega);omega
structure Ver where
 (a b c:Int)
structure Rq where
 path:ByteArray
 set:List (Int×Int)
structure Rl where
 path:ByteArray
 ver:Ver
 reqs:List Rq
 (arch ifc cert:ByteArray)
 yanked:Bool
structure Sl where
 path:ByteArray
 ver:Ver
structure Tm where
 path:ByteArray
 absent:Bool
 set:List (Int×Int)
structure Nf where
 kind:Int
 path:ByteArray
 (place number left right:Int)
structure Sk where
 path:ByteArray
 (place inf:Int)
structure An where
 found:Bool
 sel:List Sl
 infs:List Nf
 skips:List Sk
instance:DecidableEq Ver:=fun x y=>decidable_of_iff (x.a=y.a∧x.b=y.b∧x.c=y.c) ⟨fun⟨h1,h2,h3⟩=>by cases x;cases y;simp_all,fun h=>by subst h;exact⟨rfl,rfl,rfl⟩⟩
instance:DecidableEq Sl:=fun x y=>decidable_of_iff (x.path=y.path∧x.ver=y.ver) ⟨fun⟨h1,h2⟩=>by cases x;cases y;simp_all,fun h=>by subst h;exact⟨rfl,rfl⟩⟩
theorem pq{x y:Tm}(h1:x.path=y.path)(h2:x.absent=y.absent)(h3:x.set=y.set):x=y:=by cases x;cases y;simp_all
def okPart(n:Int):Prop:=0≤n∧n≤999
instance (n:Int):Decidable (okPart n):=by unfold okPart;infer_instance
def Cr(v:Ver):Bool:=decide (okPart v.a)&&decide (okPart v.b)&&decide (okPart v.c)
def place(v:Ver):Int:=1000*v.b+v.c
def plc(v:Ver):Int:=if Cr v then place v else 0
def B4(s:List Sl)(p:ByteArray):Option Sl:=s.find? fun x=>decide (x.path=p)
def GS(t:Tm)(s:List Sl):Bool :=
 match s.find? (fun x=>decide (x.path=t.path))with
 |none=>t.absent
 |some x=>Cr x.ver&&has t.set (place x.ver)
def CJ(s:List Sl)(p:ByteArray):Bool:=s.any fun x=>decide (x.path=p)
def Bf(l:List Tm)(s:List Sl):Bool:=l.all fun t=>GS t s
def CG(l:List Tm)(s:List Sl):Bool:=Bf l s&&!l.any fun t=>!CJ s t.path
def Ip:List UInt8→List UInt8→Bool
 | [],[]=>false
 | [],_::_=>true
 |_::_,[]=>false
 |a::x,b::y=>decide (a<b)||(decide (a=b)&&Ip x y)
def Eg(a b:ByteArray):Bool:=Ip a.data.toList b.data.toList
theorem Rp:∀x,Ip x x=false
 | []=>rfl
 |a::x=>by
  unfold Ip;simp[Rp x]
theorem N2:∀{x y z},Ip x y=true→Ip y z=true→Ip x z=true
 | [],[],_,h,_=>by simp[Ip]at h
 | [],_::_,[],_,h=>by simp[Ip]at h
 | [],_::_,_::_,_,_=>rfl
 |_::_,[],_,h,_=>by simp[Ip]at h
 |_::_,_::_,[],_,h=>by simp[Ip]at h
 |a::x,b::y,c::z,h1,h2=>by
  unfold Ip at *
  simp only[Cj,Ah,Au]at *
  rcases h1 with h1 | ⟨rfl,h1⟩
  ·rcases h2 with h2 | ⟨rfl,h2⟩
   ·exact .inl (UInt8.lt_trans h1 h2)
   ·exact .inl h1
  ·rcases h2 with h2 | ⟨rfl,h2⟩
   ·exact .inl h2
   ·exact .inr ⟨rfl,N2 h1 h2⟩
theorem TO:∀{x y},Ip x y=false→Ip y x=false→x=y
 | [],[],_,_=>rfl
 | [],_::_,h,_=>by simp[Ip]at h
 |_::_,[],_,h=>by simp[Ip]at h
 |a::x,b::y,h1,h2=>by
  unfold Ip at *
  simp only[Bool.or_eq_false_iff,Bool.and_eq_false_iff,J0]at *
  have e:a=b:=by
   have l1:=UInt8.not_lt.1 h1.1;have l2:=UInt8.not_lt.1 h2.1;exact UInt8.le_antisymm l2 l1
  subst e
  have:=TO (x:=x) (y:=y) (by simpa using h1.2) (by simpa using h2.2)
  rw[this]
theorem uP{a b:ByteArray}(h:a.data.toList=b.data.toList):a=b:=by
 cases a;cases b;simp only[ByteArray.mk.injEq];exact IN.1 h
theorem Dd(a:ByteArray):Eg a a=false:=Rp _
theorem DX{a b c:ByteArray}(h:Eg a b=true)(k:Eg b c=true):Eg a c=true:=N2 h k
theorem HH{a b:ByteArray}(h:Eg a b=false)(k:Eg b a=false):a=b:=uP (TO h k)
theorem Ik{a b:ByteArray}(h:Eg a b=true):a≠b:=fun e=>by subst e;rw[Dd]at h;cases h
theorem MG{a b:ByteArray}(h:Eg a b=true):Eg b a=false:=by
 rw[AK];intro k;have:=DX h k;rw[Dd]at this;cases this
def Lz(t:Tm):Tm:=⟨t.path,t.absent,canon t.set⟩
def G3(u t:Tm):Tm:=⟨u.path,u.absent&&t.absent,Pc u.set t.set⟩
def NX(t:Tm):List Tm→List Tm
 | []=>[Lz t]
 |u::r=>if Eg u.path t.path then u::NX t r else if u.path=t.path then G3 u t::r else Lz t::u::r
def Fa(l:List Tm):List Tm:=l.foldl (fun acc t=>NX t acc) []
def HX(t:Tm):Bool:=!t.absent&&t.set.isEmpty
def GL(t:Tm):Bool:=t.absent&&decide (t.set=[(0,1000000)])
def CR(l:List Tm):Option (List Tm):=if(Fa l).any HX then none else some ((Fa l).filter fun t=>!GL t)
def Qo(l:List Tm):List Tm:=(CR l).getD []
def DJ(q:Rq):Tm:=⟨q.path,true,Et q.set⟩
def JH(q:Rq):List Tm:=Qo [DJ q]
def Es(path:ByteArray)(pl:Int)(q:Rq):List Tm:=Qo [⟨path,false,[(pl,pl+1)]⟩,DJ q]
def Ig(path:ByteArray)(qu:Ba):List Tm:=Qo [⟨path,false,Et qu⟩]
def Dt(l:List Tm)(p:ByteArray):Option Tm:=l.find? fun t=>decide (t.path=p)
def FY(l:List Tm)(p:ByteArray):List Tm:=l.filter fun t=>!decide (t.path=p)
def Dq(a b:Tm):Tm:=⟨a.path,a.absent||b.absent,PF a.set b.set⟩
def FB(l:List Tm)(p:ByteArray):Option (Tm×List Tm):=match CR l with
 |none=>none
 |some c=>match Dt c p with
  |none=>none
  |some t=>some (t,FY c p)
def Bz(a b:List Tm)(p:ByteArray):List Tm×Int :=
 match FB a p,FB b p with
 |some (t,r),some (u,m)=>match CR (r++m++[Dq t u])with
  |some o=>(o,0)
  |none=>([],8)
 |_,_=>([],1)
def Cc(lo:Option ByteArray):List Tm→Prop
 | []=>True
 |t::r=>(∀p,lo=some p→Eg p t.path=true)∧EM t.set∧Cc (some t.path) r
theorem Cc.weak{lo:Option ByteArray}:∀{l:List Tm},Cc lo l→Cc none l
 | [],_=>trivial
 |_::_,⟨_,h2,h3⟩=>⟨fun _ h=>(by cases h),h2,h3⟩
theorem Cc.low{p:ByteArray}:∀{l:List Tm},Cc (some p) l→∀t∈l,Eg p t.path=true
 |t::r,⟨h1,h2,h3⟩,u,hu=>by
  rcases AA.1 hu with rfl | hu
  ·exact h1 p rfl
  ·exact DX (h1 p rfl) (h3.low u hu)
theorem Cc.canon{lo:Option ByteArray}:∀{l:List Tm},Cc lo l→∀t∈l,EM t.set
 |t::r,⟨h1,h2,h3⟩,u,hu=>by
  rcases AA.1 hu with rfl | hu
  ·exact h2
  ·exact h3.canon u hu
theorem Cc.mono{p q:ByteArray}:∀{l:List Tm},Cc (some p) l→Eg q p=true→Cc (some q) l
 | [],_,_=>trivial
 |t::r,⟨h1,h2,h3⟩,h=>⟨fun _ e=>by cases e;exact DX h (h1 p rfl),h2,h3⟩
theorem Mh:∀{l:List Tm} {lo:Option ByteArray} (t:Tm),Cc lo l→(∀p,lo=some p→Eg p t.path=true)→Cc lo (NX t l)
 | [],lo,t,_,h=>⟨h,Ck _,trivial⟩
 |u::r,lo,t,⟨h1,h2,h3⟩,h=>by
  unfold NX;split
  ·rename_i DB;exact⟨h1,h2,Mh t h3 fun p e=>by cases e;exact DB⟩
  ·rename_i DB;split
   ·rename_i he;exact⟨h1,Rk _ _,h3⟩
   ·rename_i he;refine⟨h,Ck _,fun p e=>?_,h2,h3⟩;cases e
    have:Eg u.path t.path=false:=by simpa using DB
    cases hb:Eg t.path u.path with
    |true=>exact hb
    |false=>exact absurd (HH this hb) he
theorem OU:∀(l acc:List Tm),Cc none acc→Cc none (l.foldl (fun acc t=>NX t acc) acc)
 | [],_,h=>h
 |t::l,acc,h=>OU l _ (Mh t h fun _ e=>by cases e)
theorem Ey(l:List Tm):Cc none (Fa l):=OU l [] trivial
theorem CN(t:Tm)(r:List Tm)(p:ByteArray):Dt (t::r) p=if t.path=p then some t else Dt r p:=by
 unfold Dt;rw[E0];by_cases h:t.path=p<;>simp[h]
theorem HJ{p q:ByteArray}{l:List Tm}(h:Cc (some p) l)(hq:Eg p q=false):Dt l q=none:=by
 unfold Dt;rw[DC];intro t ht
 have:=h.low t ht
 simp only[Au];intro e;subst e;rw[hq]at this;cases this
def N9(o:Option Tm)(t:Tm):Tm:=match o with | none=>Lz t | some u=>G3 u t
theorem Qr(o:Option Tm)(t:Tm)(h:∀u,o=some u→u.path=t.path):(N9 o t).path=t.path:=by
 cases o with
 |none=>rfl
 |some u=>exact h u rfl
theorem Hd{l:List Tm}{p:ByteArray}{u:Tm}(h:Dt l p=some u):u.path=p:=by
 have:=E1 h;simpa using this
theorem Fm{l:List Tm}{p:ByteArray}{u:Tm}(h:Dt l p=some u):u∈l:=Cn h
theorem Td:∀{l:List Tm} {lo:Option ByteArray} (t:Tm) (p:ByteArray),Cc lo l→Dt (NX t l) p=if t.path=p then some (N9 (Dt l p) t)else Dt l p
 | [],lo,t,p,_=>by
  unfold NX;rw[CN];show(if t.path=p then some (Lz t)else none)=_
  by_cases h:t.path=p<;>simp[h,Dt,N9]
 |u::r,lo,t,p,⟨h1,h2,h3⟩=>by
  unfold NX;split
  ·rename_i DB;rw[CN,CN,Td t p h3]
   by_cases hu:u.path=p
   ·have:¬t.path=p:=fun e=>Ik DB (hu.trans e.symm)
    simp[hu,this]
   ·simp[hu]
  ·rename_i DB;split
   ·rename_i he;rw[CN,CN];show(if u.path=p then some (G3 u t)else _)=_
    by_cases hu:u.path=p
    ·simp[hu,he▸hu,N9]
    ·have:¬t.path=p:=fun e=>hu (he.trans e)
     simp[hu,this]
   ·rename_i he;rw[CN];show(if t.path=p then some (Lz t)else _)=_
    by_cases ht:t.path=p
    ·have hn:Dt (u::r) p=none:=by
      rw[CN];have hu:¬u.path=p:=fun e=>he (e.trans ht.symm);simp only[hu,GF];exact HJ h3 (by subst ht;simpa using DB)
     simp[ht,hn,N9]
    ·simp[ht]
def Kc(p:ByteArray)(o:Option Tm)(t:Tm):Option Tm:=if t.path=p then some (N9 o t)else o
theorem Rb(p:ByteArray):∀(l acc:List Tm),Cc none acc→Dt (l.foldl (fun acc t=>NX t acc) acc) p=l.foldl (Kc p) (Dt acc p)
 | [],_,_=>rfl
 |t::l,acc,h=>by
  rw[Eo,Rb p l _ (Mh t h fun _ e=>by cases e),Td t p h];rfl
theorem Jc(l:List Tm)(p:ByteArray):Dt (Fa l) p=l.foldl (Kc p) none:=Rb p l [] trivial
theorem MB:∀{a b:List Tm} {lo:Option ByteArray},Cc lo a→Cc lo b→(∀p,Dt a p=Dt b p)→a=b
 | [],[],_,_,_,_=>rfl
 | [],z::s,_,_,_,h=>by have:=h z.path;rw[CN,Ap rfl]at this;cases this
 |z::s,[],_,_,_,h=>by have:=h z.path;rw[CN,Ap rfl]at this;cases this
 |y::r,z::s,lo,⟨f1,f2,f3⟩,⟨g1,g2,g3⟩,h=>by
  have e:y=z:=by
   have a1:=h y.path;have a2:=h z.path;rw[CN,Ap rfl,CN]at a1;rw[CN,CN z,Ap rfl]at a2
   by_cases e:z.path=y.path
   ·rw[Ap e]at a1;exact Ca a1
   ·rw[Aj e]at a1;rw[Aj (fun c=>e c.symm)]at a2;have b1:=Cc.low g3 y (Fm a1.symm);have b2:=Cc.low f3 z (Fm a2)
    have:=DX b1 b2
    rw[Dd]at this;cases this
  subst e
  congr 1
  refine MB f3 g3 fun p=>?_;have hp:=h p;rw[CN,CN]at hp
  by_cases e:y.path=p
  ·subst e;rw[HJ f3 (Dd _),HJ g3 (Dd _)]
  ·simpa[e]using hp
theorem Cc.filter(q:Tm→Bool):∀{l:List Tm} {lo:Option ByteArray},Cc lo l→Cc lo (l.filter q)
 | [],_,_=>trivial
 |t::r,lo,⟨h1,h2,h3⟩=>by
  have ih:=Cc.filter q h3;rw[Ch];split
  ·exact⟨h1,h2,ih⟩
  ·cases lo with
   |none=>exact ih.weak
   |some p=>exact ih.mono (h1 p rfl)
theorem FR{l:List Tm}{lo:Option ByteArray}{t:Tm}(h:Cc lo l):t∈l↔Dt l t.path=some t:=by
 constructor
 ·induction l generalizing lo with
  |nil=>intro h;cases h
  |cons u r ih =>
   intro ht;rw[CN];rcases AA.1 ht with rfl | ht
   ·rw[Ap rfl]
   ·have:=Cc.low h.2.2 t ht
    rw[Aj (Ik this)];exact ih h.2.2 ht
 ·exact Fm
def Ds(t:Tm)(o:Option Sl):Bool:=match o with | none=>t.absent | some x=>Cr x.ver&&has t.set (place x.ver)
theorem gJ(t:Tm)(s:List Sl):GS t s=Ds t (B4 s t.path):=by
 unfold GS Ds B4;rfl
theorem L4{s:List Sl}{p:ByteArray}{x:Sl}(h:B4 s p=some x):x.path=p:=by
 have:=E1 h;simpa using this
theorem Ju{s:List Sl}{p:ByteArray}{x:Sl}(h:B4 s p=some x):x∈s:=Cn h
theorem J4{s:List Sl}{p:ByteArray}:CJ s p=(B4 s p).isSome:=by
 unfold CJ B4;rw[BR,List.find?_isSome,Bc]
theorem ZH(t:Tm)(o:Option Sl):Ds (Lz t) o=Ds t o:=by
 unfold Ds Lz;cases o<;>simp[Hp]
theorem Yb(u t:Tm)(o:Option Sl):Ds (G3 u t) o=(Ds u o&&Ds t o):=by
 unfold Ds G3;cases o with
 |none=>rfl
 |some x=>simp only[Vj];cases Cr x.ver<;>simp
theorem Nr(u t:Tm)(o:Option Sl):Ds (Dq u t) o=(Ds u o||Ds t o):=by
 unfold Ds Dq;cases o with
 |none=>rfl
 |some x=>simp only[cA];cases Cr x.ver<;>simp
def Ux(p:ByteArray)(o:Option Sl)(l:List Tm):Bool:=l.all fun t=>!decide (t.path=p)||Ds t o
theorem J3(p:ByteArray)(o:Option Sl):∀(l:List Tm) (a:Option Tm),(∀u,a=some u→u.path=p) →
  (l.foldl (Kc p) a=none↔a=none∧l.all (fun t=>!decide (t.path=p))=true)∧(∀u,l.foldl (Kc p) a=some u→u.path=p∧Ds u o=((match a with | none=>true | some b=>Ds b o)&&Ux p o l))
 | [],a,ha=>by
  refine⟨by simp,fun u h=>?_⟩;have h:a=some u:=h;subst h;exact⟨ha u rfl,by simp[Ux]⟩
 |t::l,a,ha=>by
  rw[Eo]
  by_cases e:t.path=p
  ·have hs:Kc p a t=some (N9 a t):=by unfold Kc;rw[Ap e]
   rw[hs];have ih:=J3 p o l (some (N9 a t)) (fun u h=>by cases h;rw[Qr a t fun u h=>(ha u h).trans e.symm];exact e);refine⟨⟨fun h=>?_,fun h=>?_⟩,fun u h=>?_⟩
   ·have:=ih.1.1 h;cases this.1
   ·simp[e]at h
   ·obtain⟨h1,h2⟩:=ih.2 u h;refine⟨h1,?_⟩;rw[h2]
    have:Ux p o (t::l)=(Ds t o&&Ux p o l):=by simp[Ux,e]
    rw[this];cases a with
    |none=>simp[N9,ZH]
    |some b=>simp[N9,Yb,Bool.and_assoc]
  ·have hs:Kc p a t=a:=by unfold Kc;rw[Aj e]
   rw[hs];have ih:=J3 p o l a ha
   have:Ux p o (t::l)=Ux p o l:=by simp[Ux,e]
   rw[this];refine⟨?_,ih.2⟩;rw[ih.1];simp[e]
theorem BE{l:List Tm}{s:List Sl}:Bf l s=true↔∀t∈l,Ds t (B4 s t.path)=true:=by
 unfold Bf;rw[AY];simp only[gJ]
theorem LI(l:List Tm)(s:List Sl):Bf (Fa l) s=Bf l s:=by
 rw[BR,BE,BE];constructor
 ·intro h t ht
  have:=J3 t.path (B4 s t.path) l none (fun _ e=>by cases e)
  rw[←Jc]at this;cases e:Dt (Fa l) t.path with
  |none =>
   have:=(this.1.1 e).2
   rw[AY]at this
   have:=this t ht
   simp at this
  |some u =>
   obtain⟨h1,h2⟩:=this.2 u e;have hu:=h u (Fm e);rw[h1,h2]at hu;simp only[EL,Ux,AY]at hu
   have:=hu t ht
   simpa using this
 ·intro h u hu;have e:=(FR (Ey l)).1 hu
  have:=J3 u.path (B4 s u.path) l none (fun _ e=>by cases e)
  rw[←Jc]at this;obtain⟨h1,h2⟩:=this.2 u e;rw[h2];simp only[EL,Ux,AY];intro t ht
  by_cases e:t.path=u.path
  ·have:=h t ht;rw[e]at this;simp[this]
  ·simp[e]
theorem ZU{t:Tm}(h:HX t=true)(o:Option Sl):Ds t o=false:=by
 unfold HX at h;simp only[Ah,CT,F4]at h;unfold Ds;cases o with
 |none=>exact h.1
 |some x=>dsimp only;rw[h.2];simp[has]
def Gm(s:List Sl):Prop:=∀x∈s,Cr x.ver=true
theorem Kd{v:Ver}(h:Cr v=true):0≤v.a∧v.a≤999∧0≤v.b∧v.b≤999∧0≤v.c∧v.c≤999:=by
 unfold Cr at h;simp only[Ah]at h;obtain⟨⟨a,b⟩,c⟩:=h;obtain⟨a1,a2⟩:=A5 a;obtain⟨b1,b2⟩:=A5 b;obtain⟨c1,c2⟩:=A5 c;exact⟨a1,a2,b1,b2,c1,c2⟩
theorem JG{v:Ver}(h:Cr v=true):0≤place v∧place v<1000000:=by
 have:=Kd h;unfold place;omega
theorem Uy{t:Tm}(h:GL t=true){s:List Sl}(hs:Gm s):Ds t (B4 s t.path)=true:=by
 unfold GL at h;simp only[Ah,Au]at h;unfold Ds;cases e:B4 s t.path with
 |none=>exact h.1
 |some x =>
  have:=hs x (Ju e)
  have hp:=JG this;dsimp only;rw[this,h.2];simp[has,BL,hp]
theorem Dc{l:List Tm}{s:List Sl}(hs:Gm s):Bf l s=(match CR l with | none=>false | some c=>Bf c s):=by
 unfold CR;split
 ·rename_i h;split at h
  ·rename_i hn;rw[←LI,AK];intro hv;rw[BE]at hv;obtain⟨t,ht,hn⟩:=Bc.1 hn
   have:=hv t ht
   rw[ZU hn]at this;cases this
  ·cases h
 ·rename_i c h;split at h
  ·cases h
  ·rename_i hn;cases h;rw[←LI,BR,BE,BE];constructor
   ·intro h t ht;exact h t (BO.1 ht).1
   ·intro h t ht;cases ha:GL t with
    |true=>exact Uy ha hs
    |false=>exact h t (BO.2 ⟨ht,by simp[ha]⟩)
theorem Ha(a b:List Tm)(s:List Sl):Bf (a++b) s=(Bf a s&&Bf b s):=by unfold Bf;rw[List.all_append]
theorem E2{l c:List Tm}(h:CR l=some c):Cc none c:=by
 unfold CR at h;split at h
 ·cases h
 ·cases h;exact Cc.filter _ (Ey l)
theorem FX{l r:List Tm}{p:ByteArray}{t:Tm}{s:List Sl}(hs:Gm s)(h:FB l p=some (t,r)):Bf l s=(Ds t (B4 s p)&&Bf r s)∧t.path=p:=by
 unfold FB at h;cases hc:CR l with
 |none=>rw[hc]at h;cases h
 |some c =>
  rw[hc]at h;dsimp only at h;cases hf:Dt c p with
  |none=>rw[hf]at h;cases h
  |some u =>
   rw[hf]at h;cases h;have hp:=Hd hf;refine⟨?_,hp⟩;rw[Dc hs,hc];dsimp only;rw[BR,Ah,BE,BE];constructor
   ·intro h
    have:=h t (Fm hf)
    rw[hp]at this;exact⟨this,fun v hv=>h v (BO.1 hv).1⟩
   ·intro⟨h1,h2⟩ v hv
    by_cases e:v.path=p
    ·have:=(FR (E2 hc)).1 hv
     rw[e,hf]at this;cases this;rw[e];exact h1
    ·exact h2 v (BO.2 ⟨hv,by simp[e]⟩)
theorem Ub{a b o:List Tm}{p:ByteArray}{s:List Sl}(hs:Gm s)(h:Bz a b p=(o,0))(hv:Bf o s=true):Bf a s=true∨Bf b s=true:=by
 unfold Bz at h;cases h1:FB a p with
 |none=>rw[h1]at h;simp at h
 |some x =>
  cases h2:FB b p with
  |none=>rw[h1,h2]at h;simp at h
  |some y =>
   obtain⟨t,r⟩:=x;obtain⟨u,m⟩:=y;rw[h1,h2]at h;dsimp only at h;cases hc:CR (r++m++[Dq t u])with
   |none=>rw[hc]at h;simp at h
   |some c =>
    rw[hc]at h
    have:c=o:=by simpa using h
    subst this;have e:=Dc (l:=r++m++[Dq t u]) hs;rw[hc]at e;dsimp only at e;rw[hv,Ha,Ha]at e;simp only[Ah]at e;obtain⟨⟨e1,e2⟩,e3⟩:=e;obtain⟨va,pa⟩:=FX hs h1;obtain⟨vb,pb⟩:=FX hs h2;have e3:=BE.1 e3 _ (Aq.2 rfl)
    have:(Dq t u).path=p:=pa
    rw[this,Nr,Cj]at e3;rcases e3 with e3 | e3
    ·exact .inl (by rw[va,e3,e1];rfl)
    ·exact .inr (by rw[vb,e3,e2];rfl)
theorem Qp{l:List Tm}{s:List Sl}(hs:Gm s)(DF:Qo l≠[]):Bf (Qo l) s=Bf l s:=by
 have:=Dc (l:=l) hs
 unfold Qo at *
 cases h:CR l with
 |none=>rw[h]at DF;exact absurd rfl DF
 |some c=>rw[h]at this;exact this.symm
-- paths
def EG(c:UInt8):Bool:=decide (97≤c)&&decide (c≤122)
def LX(c:UInt8):Bool:=decide (65≤c)&&decide (c≤90)
def CA(c:UInt8):Bool:=decide (48≤c)&&decide (c≤57)
def FZ(c:UInt8):Bool:=EG c||LX c||CA c||decide (c=95)
def ZO:List UInt8:=[32,97,110,100,32,97,110,121,32,97,115,32,98,111,111,108,32,100,101,112,114,101,99,97,116,101,100,32,101,108,115,101,32,101,120,112,111,114,116,32,102,97,108,115,101,32,102,110,32,102,111,108,100,32,102,114,111,109,32,105,102,32,105,109,112,111,114,116,32,105,110,32,105,110,116,32,108,101,110,103,116,104,32,108,101,116,32,108,105,115,116,32,109,97,116,99,104,32,109,111,100,117,108,101,32,110,111,110,101,32,110,111,116,32,111,114,32,116,101,120,116,32,116,104,101,110,32,116,114,117,101,32,116,121,112,101,32,117,115,101,32]
def Na:List UInt8→List UInt8→Bool
 | [],_=>true
 |_::_,[]=>false
 |a::x,b::y=>decide (a=b)&&Na x y
def gU(x:List UInt8):List UInt8→Bool
 | []=>Na x []
 |b::y=>Na x (b::y)||gU x y
def UL(s:List UInt8):Bool:=gU (32::(s++[32])) ZO
def Gr(s:List UInt8):Bool:=!s.isEmpty&&decide (s.length≤32)&&EG (s.headD 0)&&s.all FZ&&!UL s
def G6(s:List UInt8):Bool:=Gr s&&s.all fun c=>EG c||CA c
def DY(s:List UInt8):Int:=s.foldl (fun n c=>10*n+((c.toNat:Int)-48)) 0
def Gq(s:List UInt8):Option Int:=match s with
 |c::r=>if c=118 then(if r.isEmpty||decide (3<r.length)||(decide (1<r.length)&&decide (r.headD 0=48))||!r.all CA then none else some (DY r))else none
 | []=>none
def CH(c:UInt8):List UInt8→List (List UInt8)
 | []=>[[]]
 |b::r=>if b=c then []::CH c r else match CH c r with
  | []=>[[b]]
  |x::l=>(b::x)::l
def Qk(p:List UInt8):Option Int:=match Gq ((CH 47 p).getLastD [])with
 |none=>none
 |some n=>if 64<p.length||(CH 47 p).length<2 then none else if(CH 47 p).all G6 then some n else none
def Bu(p:ByteArray):Option Int:=Qk p.data.toList
-- indexes
def F9(before:Option ByteArray)(q:Rq):Int :=
 if(Bu q.path).isNone then 4 else if q.set.isEmpty||!decide (q.set=canon q.set)||(match before with | some b=>!Eg b q.path | none=>false)then 1 else 0
def D8(before:Option ByteArray):List Rq→Int
 | []=>0
 |q::r=>if F9 before q=0 then D8 (some q.path) r else F9 before q
def Bp(l:List Rq):Int:=if 16<l.length then 7 else D8 none l
def DQ(s:ByteArray):Bool:=decide (s.size=0)||decide (s.size=32)
def CW(r:Rl):Int:=match Bu r.path with
 |none=>4
 |some m=>if !Cr r.ver||!decide (r.ver.a=m)then 2 else if Bp r.reqs≠0 then Bp r.reqs else if DQ r.arch&&DQ r.ifc&&DQ r.cert then 0 else 1
def E9(a b:Int):Int:=if a<b then -1 else if b<a then 1 else 0
def IS(a b:ByteArray):Int:=if Eg a b then -1 else if Eg b a then 1 else 0
def Im(a b:Ver):Int:=if E9 a.a b.a≠0 then E9 a.a b.a else if E9 a.b b.b≠0 then E9 a.b b.b else E9 a.c b.c
def Dh(a b:Rl):Int:=if IS a.path b.path≠0 then IS a.path b.path else Im a.ver b.ver
def EY(r:Rl):Sl:=⟨r.path,r.ver⟩
def CV(before:Option Rl):List Rl→Int
 | []=>0
 |r::l=>if CW r≠0 then CW r else match before with
  |none=>CV (some r) l
  |some b=>if EY b=EY r then 5 else if 0<Dh b r then 1 else CV (some r) l
def AQ(l:List Rl):Int:=if 256<l.length then 7 else CV none l
def CK(x:List Rl)(y:Sl):Option Rl:=if AQ x≠0 then none else x.find? fun r=>decide (EY r=y)
def Kn(x:List Rl)(p:ByteArray):List Rl:=if AQ x≠0 then []else x.filter fun r=>decide (r.path=p)
def B8(x:List Rl)(p:ByteArray):Ba:=canon (((Kn x p).filter fun r=>!r.yanked).map fun r=>(plc r.ver,plc r.ver+1))
def Me(before:Option ByteArray):List Sl→Bool
 | []=>true
 |y::r=>(match before with |some b=>Eg b y.path |none=>true)&&Me (some y.path) r
def CO(s:List Sl):Bool:=Me none s
-- solutions
-- derivations
def Pr(x:List Rl)(p:ByteArray)(pl:Int):Option Rl:=x.find? fun r=>decide (r.path=p)&&decide (plc r.ver=pl)
def mt:ByteArray:=⟨#[]⟩
def JE{α:Type}(l:List α)(i:Int):Option α:=if i<0 then none else l[i.toNat]?
def c9(l:List Tm):Option (List Tm):=if l.isEmpty then none else some l
def DW(x:List Rl)(roots:List Rq)(d:List (List Tm))(i:Nf):Option (List Tm) :=
 if i.kind=0 then
  if i.path=mt∧i.place=0∧i.left=0∧i.right=0 then(JE roots i.number).map JH else none
 else if i.kind=1 then
  if i.left=0∧i.right=0 then match Pr x i.path i.place with
   |none=>none
   |some r=>match JE r.reqs i.number with
    |none=>none
    |some q=>c9 (Es i.path i.place q)
  else none
 else if i.kind=2 then
  if i.place=0∧i.number=0∧i.left=0∧i.right=0 then c9 (Ig i.path (B8 x i.path))else none
 else if i.kind=3 then
  if i.place=0∧i.number=0 then match JE d i.left,JE d i.right with
   |some a,some b=>if(Bz a b i.path).2=0 then some (Bz a b i.path).1 else none
   |_,_=>none
  else none
 else none
def Dn(x:List Rl)(roots:List Rq):List Nf→List (List Tm)→Option (List (List Tm))
 | [],d=>some d
 |i::l,d=>match DW x roots d i with
  |none=>none
  |some t=>Dn x roots l (d++[t])
-- decisions
def Dy(before:List Sl):List Rq→Option ByteArray→Option ByteArray
 | [],acc=>acc
 |q::l,acc=>Dy before l (if CJ before q.path then acc else match acc with
  |none=>some q.path
  |some p=>if Eg q.path p then some q.path else some p)
def KN(needs:List Rq)(before:List Sl):Option ByteArray:=Dy before needs none
structure Vis where
 before:List Sl
 needs:List Rq
 rel:Rl
-- answers
-- the example
def bs(l:List UInt8):ByteArray:=⟨⟨l⟩⟩
-- the order of releases
theorem KD{a b:Int}(h:E9 a b=0):a=b:=by
 unfold E9 at h;split at h
 ·cases h
 ·split at h
  ·cases h
  ·omega
theorem Ww{a b:Int}(h:E9 a b<0):a<b:=by
 unfold E9 at h;split at h
 ·assumption
 ·split at h<;>omega
theorem Vb{a b:ByteArray}(h:IS a b=0):a=b:=by
 unfold IS at h;cases h1:Eg a b with
 |true=>rw[h1]at h;simp at h
 |false =>
  cases h2:Eg b a with
  |true=>rw[h1,h2]at h;simp at h
  |false=>exact HH h1 h2
theorem ki{a b:ByteArray}(h:IS a b<0):Eg a b=true:=by
 unfold IS at h;cases h1:Eg a b with
 |true=>rfl
 |false=>rw[h1]at h;cases h2:Eg b a<;>rw[h2]at h<;>simp at h
def li(a b:Ver):Prop:=a.a<b.a∨(a.a=b.a∧(a.b<b.b∨(a.b=b.b∧a.c<b.c)))
def cY(a b:Rl):Prop:=Eg a.path b.path=true∨(a.path=b.path∧li a.ver b.ver)
theorem aE{a b:Ver}(h:Im a b<0):li a b:=by
 unfold Im at h;split at h
 ·exact .inl (Ww h)
 ·rename_i h1;have h1:=KD (BV.1 h1);split at h
  ·exact .inr ⟨h1,.inl (Ww h)⟩
  ·rename_i h2;exact .inr ⟨h1,.inr ⟨KD (BV.1 h2),Ww h⟩⟩
theorem ce{a b:Ver}(h:Im a b=0):a=b:=by
 unfold Im at h;split at h
 ·rename_i h1;exact absurd h h1
 ·rename_i h1;have h1:=KD (BV.1 h1);split at h
  ·rename_i h2;exact absurd h h2
  ·rename_i h2;have h2:=KD (BV.1 h2);have h3:=KD h;cases a;cases b;simp_all
theorem Vc{a b:Rl}(h:Dh a b=0):EY a=EY b:=by
 unfold Dh at h;split at h
 ·rename_i h1;exact absurd h h1
 ·rename_i h1;have h1:=Vb (BV.1 h1);have h2:=ce h;unfold EY;rw[h1,h2]
theorem kj{a b:Rl}(h:Dh a b<0):cY a b:=by
 unfold Dh at h;split at h
 ·exact .inl (ki h)
 ·rename_i h1;exact .inr ⟨Vb (BV.1 h1),aE h⟩
theorem cZ{a b c:Ver}(h:li a b)(k:li b c):li a c:=by unfold li at *;omega
theorem Vz{a b c:Rl}(h:cY a b)(k:cY b c):cY a c:=by
 rcases h with h | ⟨h1,h2⟩
 ·rcases k with k | ⟨k1,k2⟩
  ·exact .inl (DX h k)
  ·exact .inl (k1▸h)
 ·rcases k with k | ⟨k1,k2⟩
  ·exact .inl (h1▸k)
  ·exact .inr ⟨h1.trans k1,cZ h2 k2⟩
theorem Ir{a b:Rl}(h:cY a b)(k:EY a=EY b):False:=by
 unfold EY at k;simp only[Sl.mk.injEq]at k;rcases h with h | ⟨_,h⟩
 ·rw[k.1,Dd]at h;cases h
 ·rw[k.2]at h;unfold li at h;omega
-- a valid index
structure Sx(r:Rl):Prop where
 maj:Bu r.path=some r.ver.a
 val:Cr r.ver=true
 reqs:Bp r.reqs=0
theorem Zm{r:Rl}(h:CW r=0):Sx r:=by
 unfold CW at h;split at h
 ·cases h
 ·rename_i m hm;split at h
  ·cases h
  ·rename_i h1;split at h
   ·rename_i h2;exact absurd h h2
   ·rename_i h2;simp only[Cj,CT,J0,not_or,BV]at h1;refine⟨by rw[hm,h1.2],by simpa using h1.1,BV.1 h2⟩
theorem K9:∀{l:List Rl} {b:Option Rl},CV b l=0→(∀r∈l,Sx r)∧(l.Pairwise cY∧∀c,b=some c→∀r∈l,cY c r)
 | [],b,_=>⟨fun _ h=>(by cases h),.nil,fun _ _ _ h=>(by cases h)⟩
 |r::l,b,h=>by
  unfold CV at h;split at h
  ·rename_i h1;exact absurd h h1
  ·rename_i h1;have hr:=Zm (BV.1 h1);have go:CV (some r) l=0→(∀c,b=some c→cY c r)→(∀z∈r::l,Sx z)∧((r::l).Pairwise cY∧∀c,b=some c→∀z∈r::l,cY c z):=fun h hc=>by
    obtain⟨i1,i2,i3⟩:=K9 h;refine⟨fun z hz=>?_,.cons (i3 r rfl) i2,fun c e z hz=>?_⟩
    ·rcases AA.1 hz with rfl | hz
     ·exact hr
     ·exact i1 z hz
    ·rcases AA.1 hz with rfl | hz
     ·exact hc c e
     ·exact Vz (hc c e) (i3 r rfl z hz)
   cases b with
   |none=>exact go h fun _ e=>by cases e
   |some b =>
    dsimp only at h;split at h
    ·cases h
    ·rename_i hk;split at h
     ·cases h
     ·rename_i hc;refine go h fun c e=>?_;cases e;refine kj ?_
      have:Dh b r≠0:=fun e=>hk (Vc e)
      omega
theorem CF{l:List Rl}(h:AQ l=0):(∀r∈l,Sx r)∧l.Pairwise cY:=by
 unfold AQ at h;split at h
 ·cases h
 ·exact⟨(K9 h).1,(K9 h).2.1⟩
theorem TJ{l:List Rl}(h:l.Pairwise cY){a b:Rl}(ha:a∈l)(hb:b∈l)(hk:EY a=EY b):a=b:=by
 induction h with
 |nil=>cases ha
 |cons h1 h2 ih =>
  rcases AA.1 ha with e1 | ha
  ·rcases AA.1 hb with e2 | hb
   ·exact e1.trans e2.symm
   ·exact(Ir (e1▸h1 b hb) hk).elim
  ·rcases AA.1 hb with e2 | hb
   ·exact(Ir (e2▸h1 a ha) hk.symm).elim
   ·exact ih ha hb
theorem Xd{a b:Ver}(ha:Cr a=true)(hb:Cr b=true)(h1:a.a=b.a)(h2:place a=place b):a=b:=by
 have:=Kd ha
 have:=Kd hb
 unfold place at h2;have e1:a.b=b.b:=by omega
 have e2:a.c=b.c:=by omega
 cases a;cases b;simp_all
theorem Sx.plc{r:Rl}(h:Sx r):plc r.ver=place r.ver:=by unfold Go.Eng.plc;rw[h.val];rfl
theorem bz{l:List Rl}(h:(∀r∈l,Sx r)∧l.Pairwise cY){a b:Rl}(ha:a∈l)(hb:b∈l)(h1:a.path=b.path)(h2:place a.ver=place b.ver):a=b:=by
 refine TJ h.2 ha hb ?_
 have:=h.1 a ha
 have:=h.1 b hb
 have e:a.ver.a=b.ver.a:=by
  have e1:=(h.1 a ha).maj;rw[h1,(h.1 b hb).maj]at e1;exact(Ca e1).symm
 unfold EY;rw[h1,Xd (h.1 a ha).val (h.1 b hb).val e h2]
theorem KI{x:List Rl}{y:Sl}{r:Rl}(h:CK x y=some r):AQ x=0∧r∈x∧EY r=y:=by
 unfold CK at h;split at h
 ·cases h
 ·rename_i h1;refine⟨BV.1 h1,Cn h,?_⟩
  have:=E1 h;simpa using this
structure pN(x:List Rl)(roots:List Rq)(s:List Sl):Prop where
 ix:AQ x=0
 inc:CO s=true
 fnd:∀y∈s,∃r,CK x y=some r∧r.yanked=false
 root:∀q∈roots,∃y,B4 s q.path=some y∧has q.set (place y.ver)=true
 req:∀y∈s,∀r,CK x y=some r→∀q∈r.reqs,∃z,B4 s q.path=some z∧has q.set (place z.ver)=true
theorem NW:∀{s:List Sl} {b:Option ByteArray},Me b s=true→s.Pairwise (fun a b=>Eg a.path b.path=true)∧∀c,b=some c→∀y∈s,Eg c y.path=true
 | [],_,_=>⟨.nil,fun _ _ _ h=>by cases h⟩
 |y::r,b,h=>by
  unfold Me at h;simp only[Ah]at h;obtain⟨h1,h2⟩:=h;obtain⟨i1,i2⟩:=NW h2;refine⟨.cons (i2 _ rfl) i1,fun c e z hz=>?_⟩;subst e;rcases AA.1 hz with rfl | hz
  ·exact h1
  ·exact DX h1 (i2 _ rfl z hz)
theorem No{s:List Sl}(h:s.Pairwise (fun a b=>Eg a.path b.path=true)){y:Sl}(hy:y∈s):B4 s y.path=some y:=by
 induction h with
 |nil=>cases hy
 |cons h1 h2 ih =>
  rename_i a l;unfold B4;rw[E0];rcases AA.1 hy with rfl | hy
  ·simp
  ·have:=Ik (h1 y hy)
   simp only[this,decide_false];exact ih hy
theorem XT{s:List Sl}(h:CO s=true){y:Sl}(hy:y∈s):B4 s y.path=some y:=No (NW h).1 hy
theorem pN.valid{x:List Rl}{roots:List Rq}{s:List Sl}(h:pN x roots s):Gm s:=fun y hy=>by
 obtain⟨r,h1,_⟩:=h.fnd y hy;obtain⟨_,h2,h3⟩:=KI h1
 have:=((CF h.ix).1 r h2).val
 rw[←h3];exact this
-- soundness
theorem Rx{q:Rq}{s:List Sl}(h:∃y,B4 s q.path=some y∧has q.set (place y.ver)=true):Ds (DJ q) (B4 s q.path)=false:=by
 obtain⟨y,h1,h2⟩:=h;rw[h1];unfold Ds DJ;dsimp only;rw[FS,h2];simp
theorem iH{l:List Tm}{s:List Sl}(hs:Gm s)(hn:CR l≠none)(hv:Bf l s=false):Bf (Qo l) s=false:=by
 have:=Dc (l:=l) hs
 unfold Qo;cases h:CR l with
 |none=>exact absurd h hn
 |some c=>rw[h,hv]at this;exact this.symm
theorem YA{l:List Tm}{s:List Sl}(hs:Gm s){o:List Tm}(h:c9 (Qo l)=some o)(hv:Bf l s=false):Bf o s=false:=by
 unfold c9 at h;split at h
 ·cases h
 ·rename_i DF;cases h;rw[Qp hs (by intro e;rw[e]at DF;exact DF rfl)];exact hv
theorem ao(q:Rq):CR [DJ q]≠none:=by
 unfold CR Fa;simp only[List.foldl,NX]
 have:HX (Lz (DJ q))=false:=by simp[HX,Lz,DJ]
 simp[this]
theorem Pn{α:Type}{l:List α}{i:Int}{a:α}(h:JE l i=some a):a∈l:=by
 unfold JE at h;split at h
 ·cases h
 ·exact Av h
theorem WR{x:List Rl}{roots:List Rq}{s:List Sl}(hs:pN x roots s){d:List (List Tm)}(hd:∀t∈d,Bf t s=false){i:Nf}{o:List Tm}(h:DW x roots d i=some o):Bf o s=false:=by
 have hv:=hs.valid;unfold DW at h;split at h
 ·split at h
  ·rw[AU]at h;obtain⟨q,hq,rfl⟩:=h;refine iH hv (ao q) ?_;rw[AK];intro hw
   have:=BE.1 hw _ (Aq.2 rfl)
   rw[show(DJ q).path=q.path from rfl,Rx (hs.root q (Pn hq))]at this;cases this
  ·cases h
 ·split at h
  ·split at h
   ·split at h
    ·cases h
    ·rename_i r hr;split at h
     ·cases h
     ·rename_i q hq;refine YA hv h ?_;rw[AK];intro hw;have h1:=BE.1 hw _ (Ab ..);have h2:=BE.1 hw (DJ q) (by simp);rw[show(DJ q).path=q.path from rfl]at h2;dsimp only at h1;cases hf:B4 s i.path with
      |none=>rw[hf]at h1;simp[Ds]at h1
      |some y =>
       rw[hf]at h1;unfold Ds at h1;simp only[Ah]at h1;have hp:place y.ver=i.place:=by
        have:=h1.2
        simp only[has,B6,List.any_nil,Bool.or_false,Ah,BL,Au]at this;omega
       have hy:=Ju hf;have xz:=L4 hf;obtain⟨r',e1,e2⟩:=hs.fnd y hy;obtain⟨_,m1,k1⟩:=KI e1;have gM:r∈x:=Cn hr;have qa:=E1 hr;simp only[Ah,Au]at qa;have GO:=CF hs.ix
       have:r'=r:=by
        refine bz GO m1 gM ?_ ?_
        ·rw[qa.1,←xz,←k1];rfl
        ·rw[←(GO.1 r gM).plc,qa.2,←hp,←k1];rfl
       subst this
       have:=hs.req y hy r' e1 q (Pn hq)
       rw[Rx this]at h2;cases h2
   ·cases h
  ·split at h
   ·split at h
    ·refine YA hv h ?_;rw[AK];intro hw;have h1:=BE.1 hw _ (Aq.2 rfl);dsimp only at h1;cases hf:B4 s i.path with
     |none=>rw[hf]at h1;simp[Ds]at h1
     |some y =>
      rw[hf]at h1;unfold Ds at h1;simp only[Ah]at h1;have hy:=Ju hf;have xz:=L4 hf;obtain⟨r,e1,e2⟩:=hs.fnd y hy;obtain⟨_,m1,k1⟩:=KI e1;have GO:=CF hs.ix;have h1:=h1.2;rw[FS]at h1;have Y3:=JG (hv y hy)
      have:has (B8 x i.path) (place y.ver)=true:=by
       unfold B8;rw[Hp];unfold has;simp only[Y3,decide_true,EL,Bc,Am,BO];refine⟨(plc r.ver,plc r.ver+1),⟨r,⟨?_,by simp[e2]⟩,rfl⟩,?_⟩
       ·unfold Kn;simp only[hs.ix,VC,not_true,GF,BO,m1,true_and,Au];rw[←xz,←k1];rfl
       ·rw[(GO.1 r m1).plc,←k1];rw[DN];exact⟨BJ _,by show place r.ver<place r.ver+1;omega⟩
      rw[this]at h1;simp at h1
    ·cases h
   ·split at h
    ·split at h
     ·split at h
      ·rename_i a b ha hb;split at h
       ·rename_i h0;cases h;rw[AK];intro hw;rcases Ub hv (o:=(Bz a b i.path).1) (Prod.ext rfl h0) hw with hw | hw
        ·rw[hd a (Pn ha)]at hw;cases hw
        ·rw[hd b (Pn hb)]at hw;cases hw
       ·cases h
      ·cases h
     ·cases h
    ·cases h
theorem L0{x:List Rl}{roots:List Rq}{s:List Sl}(hs:pN x roots s):∀{l:List Nf} {d d' : List (List Tm)},(∀t∈d,Bf t s=false)→Dn x roots l d=some d'→∀t∈d',Bf t s=false
 | [],d,d',hd,h=>by cases h;exact hd
 |i::l,d,d',hd,h=>by
  unfold Dn at h;split at h
  ·cases h
  ·rename_i o ho;refine L0 hs (fun t ht=>?_) h;rcases A1.1 ht with ht | ht
   ·exact hd t ht
   ·rw[Aq.1 ht];exact WR hs hd ho
theorem Iy{α:Type}[DecidableEq α]:∀{l m:List α},l.Nodup→(∀x∈l,x∈m)→l.length≤m.length
 | [],_,_,_=>AD _
 |a::l,m,hn,hs=>by
  rw[CU]at hn;have ha:a∈m:=hs a (Ab ..)
  have:=Iy (l:=l) (m:=m.erase a) hn.2 fun x hx=>by
   have:x≠a:=fun e=>hn.1 (e▸hx)
   exact(List.mem_erase_of_ne this).2 (hs x (Ai _ hx))
  rw[List.length_erase_of_mem ha]at this
  have:=List.length_pos_of_mem ha
  simp only[Az];omega
abbrev Wf(s:List Sl):Prop:=s.Pairwise (fun a b=>Eg a.path b.path=true)
-- the next path
theorem J8(before:List Sl):∀{l:List Rq} {acc:Option ByteArray},(∀p,acc=some p→CJ before p=false) →
  (∀p,Dy before l acc=some p→CJ before p=false∧(acc=some p∨∃q∈l,q.path=p))∧(Dy before l acc=none→acc=none∧∀q∈l,CJ before q.path=true)
 | [],acc,ha=>⟨fun p h=>⟨ha p h,.inl h⟩,fun h=>⟨h,fun _ h=>(by cases h)⟩⟩
 |q::l,acc,ha=>by
  unfold Dy
  have key:∀bM,(∀p,bM=some p→CJ before p=false)→(∀p,bM=some p→acc=some p∨q.path=p)→(bM=none→acc=none∧CJ before q.path=true) →
    (∀p,Dy before l bM=some p→CJ before p=false∧(acc=some p∨∃q'∈q::l,q'.path=p))∧(Dy before l bM=none→acc=none∧∀q'∈q::l,CJ before q'.path=true):=by
   intro bM h1 h2 h3;obtain⟨i1,i2⟩:=J8 before (l:=l) h1;refine⟨fun p h=>?_,fun h=>?_⟩
   ·obtain⟨j1,j2⟩:=i1 p h;refine⟨j1,?_⟩;rcases j2 with j2 | ⟨q',j3,j4⟩
    ·rcases h2 p j2 with h2 | h2
     ·exact .inl h2
     ·exact .inr ⟨q,Ab ..,h2⟩
    ·exact .inr ⟨q',Ai _ j3,j4⟩
   ·obtain⟨j1,j2⟩:=i2 h;obtain⟨k1,k2⟩:=h3 j1;refine⟨k1,fun q' hq=>?_⟩;rcases AA.1 hq with rfl | hq
    ·exact k2
    ·exact j2 q' hq
  cases hb:CJ before q.path with
  |true=>simp only[Rj];exact key acc ha (fun p h=>.inl h) fun h=>⟨h,hb⟩
  |false =>
   simp only[Du,GF];cases acc with
   |none=>exact key _ (fun p h=>by cases h;exact hb) (fun p h=>by cases h;exact .inr rfl) fun h=>by cases h
   |some p0 =>
    dsimp only;split
    ·exact key _ (fun p h=>by cases h;exact hb) (fun p h=>by cases h;exact .inr rfl) fun h=>by cases h
    ·exact key _ (fun p h=>by cases h;exact ha _ rfl) (fun p h=>by cases h;exact .inl rfl) fun h=>by cases h
theorem TV{needs:List Rq}{before:List Sl}{p:ByteArray}(h:KN needs before=some p):CJ before p=false∧∃q∈needs,q.path=p:=by
 obtain⟨h1,h2⟩:=(J8 before (l:=needs) (acc:=none) fun _ e=>by cases e).1 p h;rcases h2 with h2 | h2
 ·cases h2
 ·exact⟨h1,h2⟩
theorem ZV{needs:List Rq}{before:List Sl}(h:KN needs before=none):∀q∈needs,CJ before q.path=true :=
 ((J8 before (l:=needs) (acc:=none) fun _ e=>by cases e).2 h).2
theorem Tn(a b:List Sl)(p:ByteArray):CJ (a++b) p=(CJ a p||CJ b p):=by unfold CJ;rw[HE]
theorem Lk{s:List Sl}{p:ByteArray}:CJ s p=true↔∃y∈s,y.path=p:=by unfold CJ;simp
theorem Ho{s:List Sl}{p:ByteArray}:CJ s p=true↔p∈s.map (·.path):=by rw[Lk,Am]
-- what is needed
-- skips
theorem Wz{t:List Tm}{b s:List Sl}(hs:CO s=true)(hb:∀y∈b,y∈s)(h:CG t b=true):Bf t s=true:=by
 unfold CG at h;simp only[Ah,CT,FD]at h;obtain⟨h1,h2⟩:=h;rw[BE]at h1⊢;intro u hu
 have:=h2 u hu
 simp only[Bool.not_eq_false]at this;rw[J4]at this;cases hf:B4 b u.path with
 |none=>rw[hf]at this;cases this
 |some y =>
  have h3:=h1 u hu;rw[hf]at h3
  have:=XT hs (hb y (Ju hf))
  rw[L4 hf]at this;rw[this];exact h3
-- right answers
-- the first decision that differs
-- prefixes
theorem I9{x:List Rl}{roots:List Rq}:∀{l:List Nf} {d d' : List (List Tm)},Dn x roots l d=some d'→d'.length=d.length+l.length
 | [],d,d',h=>by cases h;rfl
 |i::l,d,d',h=>by
  unfold Dn at h;split at h
  ·cases h
  ·have:=I9 h
   simp only[Ae,Az,AJ]at this⊢;omega
theorem G8{x:List Rl}{roots:List Rq}:∀(l m:List Nf) (d:List (List Tm)),Dn x roots (l++m) d=match Dn x roots l d with | none=>none | some d'=>Dn x roots m d'
 | [],_,_=>rfl
 |i::l,m,d=>by
  show(match DW x roots d i with | none=>none | some t=>Dn x roots (l++m) (d++[t]))=(match(match DW x roots d i with | none=>none | some t=>Dn x roots l (d++[t]))with | none=>none | some d'=>Dn x roots m d');cases DW x roots d i with
  |none=>rfl
  |some t=>exact G8 l m _
theorem LB{x:List Rl}{roots:List Rq}:∀{l:List Nf} {d d' : List (List Tm)},Dn x roots l d=some d'→d <+: d'
 | [],d,d',h=>by cases h;exact List.prefix_refl _
 |i::l,d,d',h=>by
  unfold Dn at h;split at h
  ·cases h
  ·exact(Ot _ _).trans (LB h)
theorem Nj{x:List Rl}{roots:List Rq}{l:List Nf}{d:List (List Tm)}(h:Dn x roots l []=some d)(k:Nat):Dn x roots (l.take k) []=some (d.take k):=by
 rw[←H8 k l,G8]at h;cases e:Dn x roots (l.take k) []with
 |none=>rw[e]at h;cases h
 |some f =>
  rw[e]at h;dsimp only at h;have h1:=I9 e;have h2:=I9 h;have h3:=LB h
  congr 1
  simp only[AJ,AC,Cu]at h1 h2;obtain⟨z,rfl⟩:=h3
  by_cases hk:k≤l.length
  ·rw[Hj (by omega),Aw (by omega)]
  ·rw[Ae]at h2
   have:z=[]:=AL (by omega)
   subst this;rw[BN,Aw (by omega)]
def K5(l:List Tm):Prop:=CR l=some l
theorem dF{l:List Tm}:∀(l2:List Tm),Cc none (l2++l)→l.foldl (fun acc t=>NX t acc) l2=l2++l:=by
 induction l with
 |nil=>intro l2 _;simp
 |cons t r ih =>
  intro l2 h;have hi:NX t l2=l2++[t]:=by
   have:∀(m:List Tm) (lo:Option ByteArray),Cc lo (m++t::r)→NX t m=m++[t]:=by
    intro m
    induction m with
    |nil =>
     intro lo hm;have hc:EM t.set:=hm.2.1;unfold NX;rw[show Lz t=t from pq rfl rfl (Js hc)];rfl
    |cons u m ihm =>
     intro lo hm;have hm:Cc lo (u::(m++t::r)):=hm;have DB:=Cc.low hm.2.2 t (by simp);unfold NX;rw[Ap DB,ihm _ hm.2.2];rfl
   exact this l2 none h
  rw[Eo,hi]
  have:=ih (l2++[t]) (by rw[BM];exact h)
  rw[this,BM];rfl
theorem Ql{l:List Tm}(h:Cc none l):Fa l=l:=by
 have:=dF (l:=l) [] h
 simpa[Fa]using this
theorem QY{l c:List Tm}(h:CR l=some c):K5 c:=by
 have hs:=E2 h;unfold K5;unfold CR at h⊢;rw[Ql hs];split at h
 ·cases h
 ·rename_i hn;cases h;rw[Aj]
  ·congr 1
   rw[List.filter_filter];simp
  ·rw[Bool.not_eq_true,FD]at hn⊢;intro t ht;exact hn t (BO.1 ht).1
theorem OV:K5 []:=rfl
theorem Mp(l:List Tm):K5 (Qo l):=by
 unfold Qo;cases h:CR l with
 |none=>exact OV
 |some c=>exact QY h
theorem NA(a b:List Tm)(p:ByteArray):K5 (Bz a b p).1:=by
 unfold Bz;split
 ·split
  ·rename_i h;exact QY h
  ·exact OV
 ·exact OV
theorem Yz{l o:List Tm}(h:c9 l=some o):o=l:=by unfold c9 at h;split at h<;>cases h;rfl
theorem Yg{x:List Rl}{roots:List Rq}{d:List (List Tm)}{i:Nf}{o:List Tm}(h:DW x roots d i=some o):K5 o:=by
 unfold DW at h;split at h
 ·split at h
  ·rw[AU]at h;obtain⟨q,_,rfl⟩:=h;exact Mp _
  ·cases h
 ·split at h
  ·split at h
   ·split at h
    ·cases h
    ·split at h
     ·cases h
     ·rw[Yz h];exact Mp _
   ·cases h
  ·split at h
   ·split at h
    ·rw[Yz h];exact Mp _
    ·cases h
   ·split at h
    ·split at h
     ·split at h
      ·split at h
       ·cases h;exact NA _ _ _
       ·cases h
      ·cases h
     ·cases h
    ·cases h
theorem Ni{x:List Rl}{roots:List Rq}:∀{l:List Nf} {d d' : List (List Tm)},(∀t∈d,K5 t)→Dn x roots l d=some d'→∀t∈d',K5 t
 | [],d,d',hd,h=>by cases h;exact hd
 |i::l,d,d',hd,h=>by
  unfold Dn at h;split at h
  ·cases h
  ·rename_i o ho;refine Ni (fun t ht=>?_) h;rcases A1.1 ht with ht | ht
   ·exact hd t ht
   ·rw[Aq.1 ht];exact Yg ho
-- tampering
end Go.Eng
