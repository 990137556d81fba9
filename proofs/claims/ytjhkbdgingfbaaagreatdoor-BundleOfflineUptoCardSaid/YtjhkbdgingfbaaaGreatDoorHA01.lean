/- Lemmas 1. -/
import Derived.Test.YtjhkbdgingfbaaaGreatDoorHA00
namespace Go.Eng
variable {a b:ByteArray}{lo:Option ByteArray}{α:Type}(c:UInt8)(p:ByteArray)
def BN(p:Int)(s:Int×Int):Bool:=decide (s.1<=p)&&decide (p<s.2)
def has(s:List (Int×Int))(p:Int):Bool:=decide (0<=p)&&decide (p<1000000)&&s.any (BN p)
abbrev Bl:=List (Int×Int)
def E2(lo:Int):Bl->Prop
 | []=>True
 |y::r=>lo<=y.1/\y.1<y.2/\y.2<=1000000/\E2 (y.2+1) r
abbrev ET(l:Bl):Prop:=E2 0 l
def XD(x:Int×Int):Bl->Bl
 | []=>[x]
 |y::r=>if x.2<y.1 then x::y::r else if y.2<x.1 then y::XD x r else XD (min x.1 y.1,max x.2 y.2) r
def I1(x:Int×Int):Int×Int:=(max x.1 0,min x.2 1000000)
def canon:Bl->Bl
 | []=>[]
 |x::r=>if(I1 x).1<(I1 x).2 then XD (I1 x) (canon r)else canon r
def L0(at_:Int):Bl->Bl
 | []=>if at_<1000000 then [(at_,1000000)]else []
 |y::r=>if at_<y.1 then(at_,y.1)::L0 y.2 r else L0 y.2 r
def EC(s:Bl):Bl:=L0 0 (canon s)
def RC(l:List Bl):Bl:=canon l.flatten
def QS(l:List Bl):Bl:=EC (l.map EC).flatten
def Qj(a b:Bl):Bl:=RC [a,b]
def Ob(a b:Bl):Bl:=QS [a,b]
def yC(a b:Bl):Bl:=Ob a (EC b)
def Adv(a b:Bl):Bool:=(yC a b).isEmpty
theorem E2.mono{lo Ia : Int}:∀{l:Bl},E2 lo l->Ia<=lo->E2 Ia l
 | [],_,_=>trivial
 |_::_,⟨h1,h2,h3,h4⟩,h=>⟨Int.le_trans h h1,h2,h3,h4⟩
theorem E2.low{lo:Int}:∀{l:Bl},E2 lo l->∀y∈l,lo<=y.1/\y.1<y.2/\y.2<=1000000
 |y::r,⟨h1,h2,h3,h4⟩,z,hz=>by
  rcases Ay.1 hz with rfl | hz
  .exact⟨h1,h2,h3⟩
  .have:=h4.low z hz
   exact⟨by omega,this.2.1,this.2.2⟩
theorem DS{p:Int}{s:Int×Int}:BN p s=true↔s.1<=p/\p<s.2:=by simp[BN]
theorem Ns{lo:Int}{l:Bl}(h:E2 lo l){p:Int}(hp:l.any (BN p)=true):lo<=p:=by
 obtain⟨y,hy,h2⟩:=AX.1 hp
 have:=h.low y hy
 have:=DS.1 h2
 omega
theorem kF{lo:Int}{l:Bl}(h:E2 lo l){p:Int}(hp:l.any (BN p)=true):p<1000000:=by
 obtain⟨y,hy,h2⟩:=AX.1 hp
 have:=h.low y hy
 have:=DS.1 h2
 omega
theorem Ol:∀(l:Bl) {lo:Int} {x:Int×Int},E2 lo l->lo<=x.1->x.1<x.2->x.2<=1000000->E2 lo (XD x l)
 | [],lo,x,_,h1,h2,h3=>⟨h1,h2,h3,trivial⟩
 |y::r,lo,x,⟨g1,g2,g3,g4⟩,h1,h2,h3=>by
  unfold XD;split
  .exact⟨h1,h2,h3,by omega,g2,g3,g4⟩
  .split
   .exact⟨g1,g2,g3,Ol r g4 ch h2 h3⟩
   .refine Ol r (g4.mono ch) ?_ ?_ ?_<;>dsimp only<;>omega
theorem Pd:∀(l:Bl) {lo:Int} {x:Int×Int} (p:Int),E2 lo l->x.1<x.2->(XD x l).any (BN p)=(BN p x||l.any (BN p))
 | [],lo,x,p,_,_=>by simp[XD]
 |y::r,lo,x,p,⟨g1,g2,g3,g4⟩,h2=>by
  unfold XD;split
  .simp
  .split
   .rw[Cb,Pd r p g4 h2,Cb,<-Bool.or_assoc,<-Bool.or_assoc,Bool.or_comm (BN p y)]
   .rw[Pd r p g4 (by dsimp only;omega),Cb,<-Bool.or_assoc]
    congr 1
    simp only[BN];rw[BV];simp only[Af,CD,Au];omega
theorem Cv:∀s:Bl,ET (canon s)
 | []=>trivial
 |x::r=>by
  unfold canon;split
  .rename_i h;refine Ol _ (Cv r) ?_ h ?_<;>simp only[I1]<;>omega
  .exact Cv r
theorem Ll:∀(s:Bl) (p:Int),(canon s).any (BN p)=has s p
 | [],p=>by simp[has,canon]
 |x::r,p=>by
  have ih:=Ll r p;unfold canon;have hx:BN p (I1 x)=(decide (0<=p)&&decide (p<1000000)&&BN p x):=by
   simp only[BN,I1];rw[BV];simp only[Af,Au,Int.max_le,Int.lt_min];omega
  split
  .rename_i h;rw[Pd _ p (Cv r) h,ih,hx];simp only[has,Cb];cases decide (0<=p)<;>cases decide (p<1000000)<;>simp
  .rename_i h;rw[ih];simp only[has,Cb]
   have:BN p (I1 x)=false:=by
    rw[AH];intro h3
    have:=DS.1 h3
    omega
   rw[this]at hx;cases h1:decide (0<=p)<;>cases h2:decide (p<1000000)<;>simp_all
theorem H7{l:Bl}(h:ET l)(p:Int):has l p=l.any (BN p):=by
 unfold has;cases e:l.any (BN p)with
 |false=>simp
 |true=>have h1:0<=p:=Ns h e;have h2:=kF h e;simp[h1,h2]
theorem HJ(s:Bl)(p:Int):has (canon s) p=has s p:=by
 rw[H7 (Cv s),Ll]
theorem N0:∀{a b:Bl} {lo:Int},E2 lo a->E2 lo b->(∀p,a.any (BN p)=b.any (BN p))->a=b
 | [],[],_,_,_,_=>rfl
 | [],z::s,_,_,⟨g1,g2,g3,g4⟩,h=>by
  have:=h z.1
  rw[Cb,DS.2 ⟨By _,g2⟩]at this;simp at this
 |y::r,[],_,⟨g1,g2,g3,g4⟩,_,h=>by
  have:=h y.1
  rw[Cb,DS.2 ⟨By _,g2⟩]at this;simp at this
 |y::r,z::s,lo,⟨f1,f2,f3,f4⟩,⟨g1,g2,g3,g4⟩,h=>by
  have below:∀{x:Int×Int} {t:Bl} {p:Int},E2 (x.2+1) t->(x::t).any (BN p)=true->p<=x.2->x.1<=p/\p<x.2:=fun {x t p} ht hp Hp=>by
   rw[Cb,CD]at hp;rcases hp with hp | hp
   .exact DS.1 hp
   .have:=Ns ht hp;omega
  have low:∀{x:Int×Int} {t:Bl} {p:Int},x.1<x.2->E2 (x.2+1) t->(x::t).any (BN p)=true->x.1<=p:=fun {x t p} hx ht hp=>by
   rw[Cb,CD]at hp;rcases hp with hp | hp
   .exact(DS.1 hp).1
   .have:=Ns ht hp;omega
  have cov:∀{x:Int×Int} {t:Bl} {p:Int},x.1<=p->p<x.2->(x::t).any (BN p)=true:=fun {x t p} h1 h2=>by
   rw[Cb,DS.2 ⟨h1,h2⟩,Bool.true_or]
  have e1:y.1=z.1:=by
   have a1:=low f2 f4 ((h z.1).trans (cov (By _) g2));have a2:=low g2 g4 ((h y.1).symm.trans (cov (By _) f2));omega
  have e2:y.2=z.2:=by
   rcases Int.lt_trichotomy y.2 z.2 with hl | he | hl
   .have:=below f4 ((h y.2).trans (cov ch hl)) (By _);omega
   .exact he
   .have:=below g4 ((h z.2).symm.trans (cov ch hl)) (By _);omega
  have e:y=z:=Prod.ext e1 e2;subst e
  congr 1
  refine N0 f4 g4 fun p=>?_;have hp:=h p;simp only[Cb]at hp;cases hs:BN p y with
  |false=>rw[hs,JP,JP]at hp;exact hp
  |true=>
   have:=DS.1 hs
   have n:∀{t:Bl},E2 (y.2+1) t->t.any (BN p)=false:=fun {t} ht=>by
    rw[AH];intro hx;have:=Ns ht hx;omega
   rw[n f4,n g4]
theorem H2{a b:Bl}(ha:ET a)(hb:ET b)(h:∀p,has a p=has b p):a=b:=
 N0 ha hb fun p=>by rw[<-H7 ha,<-H7 hb,h]
theorem TK{a s:Bl}(ha:ET a)(h:∀p,has a p=has s p):a=canon s:=
 H2 ha (Cv s) fun p=>by rw[h,HJ]
theorem JR{a:Bl}(ha:ET a):canon a=a:=(TK ha fun _=>rfl).symm
theorem M2{s:Bl}{p:Int}(h:has s p=true):0<=p/\p<1000000:=by
 unfold has at h;simp only[Af,Au]at h;exact h.1
def MF(p:Int):Bool:=decide (0<=p)&&decide (p<1000000)
theorem L1:∀(l:Bl) {at_ lo:Int},0<=at_->E2 lo l->lo<=at_+1->at_<=lo->E2 at_ (L0 at_ l)/\∀p,(L0 at_ l).any (BN p)=(decide (at_<=p)&&decide (p<1000000)&&!l.any (BN p))
 | [],at_,lo,h0,_,h1,h2=>by
  unfold L0;split
  .exact⟨⟨By _,by dsimp only;omega,By _,trivial⟩,fun p=>by simp[BN]⟩
  .refine⟨trivial,fun p=>?_⟩
   have:(decide (at_<=p)&&decide (p<1000000))=false:=by
    rw[AH];simp only[WN,Af,Au];omega
   simp[this]
 |y::r,at_,lo,h0,⟨g1,g2,g3,g4⟩,h1,h2=>by
  have ih:=L1 r (at_:=y.2) ch g4 (By _) ch;have key:∀p,(decide (at_<=p)&&decide (p<y.1)||(L0 y.2 r).any (BN p))=(decide (at_<=p)&&decide (p<1000000)&&!(y::r).any (BN p)):=fun p=>by
   rw[ih.2,Cb];cases hr:r.any (BN p)with
   |true=>
    have:=Ns g4 hr
    have a:decide (p<y.1)=false:=Am ch;simp[a]
   |false=>
    rw[BV];simp only[BN,Af,CD,Au,Co,Sz,Mo,Hk,Bool.not_false,Tw];omega
  unfold L0;split
  .rename_i h;refine⟨⟨By _,h,by dsimp only;omega,ih.1 |> fun c=>?_⟩,fun p=>?_⟩
   .dsimp only;cases e:L0 y.2 r with
    |nil=>trivial
    |cons z s=>
     rw[e]at c;exact⟨by have:=c.1;omega,c.2⟩
   .rw[Cb,<-key];rfl
  .rename_i h;refine⟨ih.1.mono ch,fun p=>?_⟩;rw[<-key]
   have:(decide (at_<=p)&&decide (p<y.1))=false:=by
    rw[AH];simp only[WN,Af,Au];omega
   rw[this,JP]
theorem HG(s:Bl):ET (EC s):=by
 unfold EC;exact(L1 _ (By _) (Cv s) ch (By _)).1
theorem FX(s:Bl)(p:Int):has (EC s) p=(MF p&&!has s p):=by
 rw[H7 (HG s)];unfold EC;rw[(L1 _ (By _) (Cv s) ch (By _)).2,Ll];rfl
theorem cE(a b:Bl)(p:Int):has (a++b) p=(has a p||has b p):=by
 simp only[has,GF];cases decide (0<=p)<;>cases decide (p<1000000)<;>simp
theorem M1:∀(l:List Bl) (p:Int),has l.flatten p=l.any fun s=>has s p
 | [],p=>by simp[has]
 |s::l,p=>by rw[Bu,cE,M1 l p,Cb]
theorem Uf(l:List Bl)(p:Int):has (RC l) p=l.any fun s=>has s p:=by
 unfold RC;rw[HJ,M1]
theorem YT(l:List Bl):ET (RC l):=Cv _
theorem Yr(l:List Bl):ET (QS l):=HG _
theorem Ue(l:List Bl)(p:Int):has (QS l) p=(MF p&&l.all fun s=>has s p):=by
 unfold QS;rw[FX,M1,List.any_map];cases h:MF p with
 |false=>rfl
 |true=>
  rw[Ep,Ep,List.not_any_eq_all_not]
  congr 1
  funext s
  simp[FX,h]
theorem bz(a b:Bl):ET (Qj a b):=Cv _
theorem Sf(a b:Bl):ET (Ob a b):=HG _
theorem ie(a b:Bl)(p:Int):has (Qj a b) p=(has a p||has b p):=by
 unfold Qj;rw[Uf];simp
theorem Wu(a b:Bl)(p:Int):has (Ob a b) p=(has a p&&has b p):=by
 unfold Ob;rw[Ue];simp only[List.all_cons,List.all_nil,Bool.and_true];cases h:has a p with
 |false=>simp
 |true=>have:=M2 h;simp[MF,this]
theorem cS(s:Bl):Ob s s=canon s:=H2 (Sf _ _) (Cv _) fun p=>by rw[Wu,HJ,Bool.and_self]
theorem VE{s:Bl}:canon s=[]↔∀p,has s p=false:=by
 constructor
 .intro h p;rw[<-HJ,h];simp[has]
 .intro h;exact H2 (Cv s) (b:=[]) trivial fun p=>by rw[HJ,h p];simp[has]
theorem Re{s:Bl}(hs:ET s):s=[]↔∀p,has s p=false:=by
 rw[<-VE,JR hs]
def kc(l:List Bl)(p:Int):Nat:=l.countP fun s=>has s p
theorem TJ:∀{l:Bl} {lo:Int},E2 lo l->lo<=1000000->(l.length:Int)<=1000000-lo
 | [],lo,_,h=>by simp;omega
 |y::r,lo,⟨g1,g2,g3,g4⟩,h=>by
  by_cases h3:y.2+1<=1000000
  .have:=TJ g4 h3
   simp only[Al];omega
  .cases r with
   |nil=>simp;omega
   |cons z s=>have:=g4.1;have:=g4.2.1;have:=g4.2.2.1;omega
theorem Iy{l:Bl}(h:ET l):l.length<=1000000:=by have:=TJ h ch;omega
structure Ver where
 (a b c:Int)
variable (v:Ver)
structure Rq where
 path:ByteArray
 set:List (Int×Int)
variable {roots:List Rq}(q:Rq)
structure Rl where
 path:ByteArray
 ver:Ver
 reqs:List Rq
 (arch ifc cert:ByteArray)
 yanked:Bool
variable (x:List Rl)(r:Rl)
structure Sl where
 path:ByteArray
 ver:Ver
variable {s:List Sl}{y:Sl}
structure Tm where
 path:ByteArray
 absent:Bool
 set:List (Int×Int)
variable {d:List (List Tm)}(l:List Tm)(u t:Tm)
structure Nf where
 kind:Int
 path:ByteArray
 (place number left right:Int)
variable {i:Nf}
structure Sk where
 path:ByteArray
 (place inf:Int)
structure An where
 found:Bool
 sel:List Sl
 infs:List Nf
 skips:List Sk
instance:DecidableEq Ver:=fun x y=>decidable_of_iff (x.a=y.a/\x.b=y.b/\x.c=y.c) ⟨fun⟨h1,h2,h3⟩=>by cases x;cases y;simp_all,fun h=>by subst h;exact⟨rfl,rfl,rfl⟩⟩
instance:DecidableEq Sl:=fun x y=>decidable_of_iff (x.path=y.path/\x.ver=y.ver) ⟨fun⟨h1,h2⟩=>by cases x;cases y;simp_all,fun h=>by subst h;exact⟨rfl,rfl⟩⟩
theorem u5{x y:Tm}(h1:x.path=y.path)(h2:x.absent=y.absent)(h3:x.set=y.set):x=y:=by cases x;cases y;simp_all
def okPart(n:Int):Prop:=0<=n/\n<=999
instance (n:Int):Decidable (okPart n):=by unfold okPart;infer_instance
def B3:Bool:=decide (okPart v.a)&&decide (okPart v.b)&&decide (okPart v.c)
def place:Int:=1000*v.b+v.c
def plc:Int:=if B3 v then place v else 0
def Ct(s:List Sl)(p:ByteArray):Option Sl:=s.find? fun x=>decide (x.path=p)
def GB(s:List Sl):Bool:=
 match s.find? (fun x=>decide (x.path=t.path))with
 |none=>t.absent
 |some x=>B3 x.ver&&has t.set (place x.ver)
def CO(s:List Sl)(p:ByteArray):Bool:=s.any fun x=>decide (x.path=p)
def Bf(s:List Sl):Bool:=l.all fun t=>GB t s
def CY(s:List Sl):Bool:=Bf l s&&!l.any fun t=>!CO s t.path
def KU:List UInt8->List UInt8->Bool
 | [],[]=>false
 | [],_::_=>true
 |_::_,[]=>false
 |a::x,b::y=>decide (a<b)||(decide (a=b)&&KU x y)
def FQ(a b:ByteArray):Bool:=KU a.data.toList b.data.toList
theorem Sh:∀x,KU x x=false
 | []=>rfl
 |a::x=>by
  unfold KU;simp[Sh x]
theorem UC:∀{x y z},KU x y=true->KU y z=true->KU x z=true
 | [],[],_,h,_=>by simp[KU]at h
 | [],_::_,[],_,h=>by simp[KU]at h
 | [],_::_,_::_,_,_=>rfl
 |_::_,[],_,h,_=>by simp[KU]at h
 |_::_,_::_,[],_,h=>by simp[KU]at h
 |a::x,b::y,c::z,h1,h2=>by
  unfold KU at *
  simp only[CD,Af,Au]at *
  rcases h1 with h1 | ⟨rfl,h1⟩
  .rcases h2 with h2 | ⟨rfl,h2⟩
   .exact .inl (UInt8.lt_trans h1 h2)
   .exact .inl h1
  .rcases h2 with h2 | ⟨rfl,h2⟩
   .exact .inl h2
   .exact .inr ⟨rfl,UC h1 h2⟩
theorem aE:∀{x y},KU x y=false->KU y x=false->x=y
 | [],[],_,_=>rfl
 | [],_::_,h,_=>by simp[KU]at h
 |_::_,[],_,h=>by simp[KU]at h
 |a::x,b::y,h1,h2=>by
  unfold KU at *
  simp only[MK,Mo,Hk]at *
  have e:a=b:=by
   have l1:=UInt8.not_lt.1 h1.1;have l2:=UInt8.not_lt.1 h2.1;exact UInt8.le_antisymm l2 l1
  subst e
  have:=aE (x:=x) (y:=y) (by simpa using h1.2) (by simpa using h2.2)
  rw[this]
theorem pn(h:a.data.toList=b.data.toList):a=b:=by
 cases a;cases b;simp only[ByteArray.mk.injEq];exact Jb.1 h
theorem Dn(a:ByteArray):FQ a a=false:=Sh _
theorem Fe{c:ByteArray}(h:FQ a b=true)(k:FQ b c=true):FQ a c=true:=UC h k
theorem Kp(h:FQ a b=false)(k:FQ b a=false):a=b:=pn (aE h k)
theorem XQ(h:FQ a b=true):a≠b:=fun e=>by subst e;rw[Dn]at h;cases h
theorem Qy(h:FQ a b=true):FQ b a=false:=by
 rw[AH];intro k;have:=Fe h k;rw[Dn]at this;cases this
def Mq:Tm:=⟨t.path,t.absent,canon t.set⟩
def Hj:Tm:=⟨u.path,u.absent&&t.absent,Ob u.set t.set⟩
def OE(t:Tm):List Tm->List Tm
 | []=>[Mq t]
 |u::r=>if FQ u.path t.path then u::OE t r else if u.path=t.path then Hj u t::r else Mq t::u::r
def Fm:List Tm:=l.foldl (fun acc t=>OE t acc) []
def IE:Bool:=!t.absent&&t.set.isEmpty
def GY:Bool:=t.absent&&decide (t.set=[(0,1000000)])
def CW:Option (List Tm):=if(Fm l).any IE then none else some ((Fm l).filter fun t=>!GY t)
def Rg:List Tm:=(CW l).getD []
def DK:Tm:=⟨q.path,true,EC q.set⟩
def J9:List Tm:=Rg [DK q]
def EA(path:ByteArray)(pl:Int)(q:Rq):List Tm:=Rg [⟨path,false,[(pl,pl+1)]⟩,DK q]
def If(path:ByteArray)(wx:Bl):List Tm:=Rg [⟨path,false,EC wx⟩]
def Dq(p:ByteArray):Option Tm:=l.find? fun t=>decide (t.path=p)
def F4(p:ByteArray):List Tm:=l.filter fun t=>!decide (t.path=p)
def Do(a b:Tm):Tm:=⟨a.path,a.absent||b.absent,Qj a.set b.set⟩
def FF(p:ByteArray):Option (Tm×List Tm):=match CW l with
 |none=>none
 |some c=>match Dq c p with
  |none=>none
  |some t=>some (t,F4 c p)
def BK(a b:List Tm)(p:ByteArray):List Tm×Int:=
 match FF a p,FF b p with
 |some (t,r),some (u,m)=>match CW (r++m++[Do t u])with
  |some o=>(o,0)
  |none=>([],8)
 |_,_=>([],1)
def Ch(lo:Option ByteArray):List Tm->Prop
 | []=>True
 |t::r=>(∀p,lo=some p->FQ p t.path=true)/\ET t.set/\Ch (some t.path) r
theorem Ch.weak:∀{l:List Tm},Ch lo l->Ch none l
 | [],_=>trivial
 |_::_,⟨_,h2,h3⟩=>⟨fun _ h=>(by cases h),h2,h3⟩
theorem Ch.low{p:ByteArray}:∀{l:List Tm},Ch (some p) l->∀t∈l,FQ p t.path=true
 |t::r,⟨h1,h2,h3⟩,u,hu=>by
  rcases Ay.1 hu with rfl | hu
  .exact h1 p rfl
  .exact Fe (h1 p rfl) (h3.low u hu)
theorem Ch.canon{lo:Option ByteArray}:∀{l:List Tm},Ch lo l->∀t∈l,ET t.set
 |t::r,⟨h1,h2,h3⟩,u,hu=>by
  rcases Ay.1 hu with rfl | hu
  .exact h2
  .exact h3.canon u hu
theorem Ch.mono{p q:ByteArray}:∀{l:List Tm},Ch (some p) l->FQ q p=true->Ch (some q) l
 | [],_,_=>trivial
 |t::r,⟨h1,h2,h3⟩,h=>⟨fun _ e=>by cases e;exact Fe h (h1 p rfl),h2,h3⟩
theorem M5:∀{l:List Tm} {lo:Option ByteArray} (t:Tm),Ch lo l->(∀p,lo=some p->FQ p t.path=true)->Ch lo (OE t l)
 | [],lo,t,_,h=>⟨h,Cv _,trivial⟩
 |u::r,lo,t,⟨h1,h2,h3⟩,h=>by
  unfold OE;split
  .rename_i Dx;exact⟨h1,h2,M5 t h3 fun p e=>by cases e;exact Dx⟩
  .rename_i Dx;split
   .rename_i he;exact⟨h1,Sf _ _,h3⟩
   .rename_i he;refine⟨h,Cv _,fun p e=>?_,h2,h3⟩;cases e
    have:FQ u.path t.path=false:=by simpa using Dx
    cases hb:FQ t.path u.path with
    |true=>exact hb
    |false=>exact absurd (Kp this hb) he
theorem PA:∀(l acc:List Tm),Ch none acc->Ch none (l.foldl (fun acc t=>OE t acc) acc)
 | [],_,h=>h
 |t::l,acc,h=>PA l _ (M5 t h fun _ e=>by cases e)
theorem EF:Ch none (Fm l):=PA l [] trivial
theorem CT(r:List Tm)(p:ByteArray):Dq (t::r) p=if t.path=p then some t else Dq r p:=by
 unfold Dq;rw[D7];by_cases h:t.path=p<;>simp[h]
theorem H3{p q:ByteArray}{l:List Tm}(h:Ch (some p) l)(hq:FQ p q=false):Dq l q=none:=by
 unfold Dq;rw[EE];intro t ht
 have:=h.low t ht
 simp only[Au];intro e;subst e;rw[hq]at this;cases this
def OL(o:Option Tm)(t:Tm):Tm:=match o with | none=>Mq t | some u=>Hj u t
theorem Rm(o:Option Tm)(t:Tm)(h:∀u,o=some u->u.path=t.path):(OL o t).path=t.path:=by
 cases o with
 |none=>rfl
 |some u=>exact h u rfl
theorem HA{l:List Tm}{p:ByteArray}{u:Tm}(h:Dq l p=some u):u.path=p:=by
 have:=DL h;simpa using this
theorem Fx{l:List Tm}{p:ByteArray}{u:Tm}(h:Dq l p=some u):u∈l:=BP h
theorem T5:∀{l:List Tm} {lo:Option ByteArray} (t:Tm) (p:ByteArray),Ch lo l->Dq (OE t l) p=if t.path=p then some (OL (Dq l p) t)else Dq l p
 | [],lo,t,p,_=>by
  unfold OE;rw[CT];show(if t.path=p then some (Mq t)else none)=_
  by_cases h:t.path=p<;>simp[h,Dq,OL]
 |u::r,lo,t,p,⟨h1,h2,h3⟩=>by
  unfold OE;split
  .rename_i Dx;rw[CT,CT,T5 t p h3]
   by_cases hu:u.path=p
   .have:¬t.path=p:=fun e=>XQ Dx (hu.trans e.symm)
    simp[hu,this]
   .simp[hu]
  .rename_i Dx;split
   .rename_i he;rw[CT,CT];show(if u.path=p then some (Hj u t)else _)=_
    by_cases hu:u.path=p
    .simp[hu,he▸hu,OL]
    .have:¬t.path=p:=fun e=>hu (he.trans e)
     simp[hu,this]
   .rename_i he;rw[CT];show(if t.path=p then some (Mq t)else _)=_
    by_cases ht:t.path=p
    .have hn:Dq (u::r) p=none:=by
      rw[CT];have hu:¬u.path=p:=fun e=>he (e.trans ht.symm);simp only[hu,FZ];exact H3 h3 (by subst ht;simpa using Dx)
     simp[ht,hn,OL]
    .simp[ht]
def KH(o:Option Tm)(t:Tm):Option Tm:=if t.path=p then some (OL o t)else o
theorem RX(p:ByteArray):∀(l acc:List Tm),Ch none acc->Dq (l.foldl (fun acc t=>OE t acc) acc) p=l.foldl (KH p) (Dq acc p)
 | [],_,_=>rfl
 |t::l,acc,h=>by
  rw[FK,RX p l _ (M5 t h fun _ e=>by cases e),T5 t p h];rfl
theorem JE(p:ByteArray):Dq (Fm l) p=l.foldl (KH p) none:=RX p l [] trivial
theorem Np:∀{a b:List Tm} {lo:Option ByteArray},Ch lo a->Ch lo b->(∀p,Dq a p=Dq b p)->a=b
 | [],[],_,_,_,_=>rfl
 | [],z::s,_,_,_,h=>by have:=h z.path;rw[CT,As rfl]at this;cases this
 |z::s,[],_,_,_,h=>by have:=h z.path;rw[CT,As rfl]at this;cases this
 |y::r,z::s,lo,⟨f1,f2,f3⟩,⟨g1,g2,g3⟩,h=>by
  have e:y=z:=by
   have a1:=h y.path;have a2:=h z.path;rw[CT,As rfl,CT]at a1;rw[CT,CT z,As rfl]at a2
   by_cases e:z.path=y.path
   .rw[As e]at a1;exact BW a1
   .rw[Ah e]at a1;rw[Ah (fun c=>e c.symm)]at a2;have b1:=Ch.low g3 y (Fx a1.symm);have b2:=Ch.low f3 z (Fx a2)
    have:=Fe b1 b2
    rw[Dn]at this;cases this
  subst e
  congr 1
  refine Np f3 g3 fun p=>?_;have hp:=h p;rw[CT,CT]at hp
  by_cases e:y.path=p
  .subst e;rw[H3 f3 (Dn _),H3 g3 (Dn _)]
  .simpa[e]using hp
theorem Ch.filter(q:Tm->Bool):∀{l:List Tm} {lo:Option ByteArray},Ch lo l->Ch lo (l.filter q)
 | [],_,_=>trivial
 |t::r,lo,⟨h1,h2,h3⟩=>by
  have ih:=Ch.filter q h3;rw[DB];split
  .exact⟨h1,h2,ih⟩
  .cases lo with
   |none=>exact ih.weak
   |some p=>exact ih.mono (h1 p rfl)
theorem FW{l:List Tm}{t:Tm}(h:Ch lo l):t∈l↔Dq l t.path=some t:=by
 constructor
 .induction l generalizing lo with
  |nil=>intro h;cases h
  |cons u r ih=>
   intro ht;rw[CT];rcases Ay.1 ht with rfl | ht
   .rw[As rfl]
   .have:=Ch.low h.2.2 t ht
    rw[Ah (XQ this)];exact ih h.2.2 ht
 .exact Fx
def Dp(o:Option Sl):Bool:=match o with | none=>t.absent | some x=>B3 x.ver&&has t.set (place x.ver)
theorem mp(s:List Sl):GB t s=Dp t (Ct s t.path):=by
 unfold GB Dp Ct;rfl
theorem MW{p:ByteArray}{x:Sl}(h:Ct s p=some x):x.path=p:=by
 have:=DL h;simpa using this
theorem JT{p:ByteArray}{x:Sl}(h:Ct s p=some x):x∈s:=BP h
theorem Kv{p:ByteArray}:CO s p=(Ct s p).isSome:=by
 unfold CO Ct;rw[BV,List.find?_isSome,AX]
theorem cK(o:Option Sl):Dp (Mq t) o=Dp t o:=by
 unfold Dp Mq;cases o<;>simp[HJ]
theorem ah(o:Option Sl):Dp (Hj u t) o=(Dp u o&&Dp t o):=by
 unfold Dp Hj;cases o with
 |none=>rfl
 |some x=>simp only[Wu];cases B3 x.ver<;>simp
theorem Oa(o:Option Sl):Dp (Do u t) o=(Dp u o||Dp t o):=by
 unfold Dp Do;cases o with
 |none=>rfl
 |some x=>simp only[ie];cases B3 x.ver<;>simp
def VA(o:Option Sl)(l:List Tm):Bool:=l.all fun t=>!decide (t.path=p)||Dp t o
theorem Kt(p:ByteArray)(o:Option Sl):∀(l:List Tm) (a:Option Tm),(∀u,a=some u->u.path=p) ->
  (l.foldl (KH p) a=none↔a=none/\l.all (fun t=>!decide (t.path=p))=true)/\(∀u,l.foldl (KH p) a=some u->u.path=p/\Dp u o=((match a with | none=>true | some b=>Dp b o)&&VA p o l))
 | [],a,ha=>by
  refine⟨by simp,fun u h=>?_⟩;have h:a=some u:=h;subst h;exact⟨ha u rfl,by simp[VA]⟩
 |t::l,a,ha=>by
  rw[FK]
  by_cases e:t.path=p
  .have hs:KH p a t=some (OL a t):=by unfold KH;rw[As e]
   rw[hs];have ih:=Kt p o l (some (OL a t)) (fun u h=>by cases h;rw[Rm a t fun u h=>(ha u h).trans e.symm];exact e);refine⟨⟨fun h=>?_,fun h=>?_⟩,fun u h=>?_⟩
   .have:=ih.1.1 h;cases this.1
   .simp[e]at h
   .obtain⟨h1,h2⟩:=ih.2 u h;refine⟨h1,?_⟩;rw[h2]
    have:VA p o (t::l)=(Dp t o&&VA p o l):=by simp[VA,e]
    rw[this];cases a with
    |none=>simp[OL,cK]
    |some b=>simp[OL,ah,Bool.and_assoc]
  .have hs:KH p a t=a:=by unfold KH;rw[Ah e]
   rw[hs];have ih:=Kt p o l a ha
   have:VA p o (t::l)=VA p o l:=by simp[VA,e]
   rw[this];refine⟨?_,ih.2⟩;rw[ih.1];simp[e]
theorem Bz{l:List Tm}:Bf l s=true↔∀t∈l,Dp t (Ct s t.path)=true:=by
 unfold Bf;rw[AP];simp only[mp]
theorem My(s:List Sl):Bf (Fm l) s=Bf l s:=by
 rw[BV,Bz,Bz];constructor
 .intro h t ht
  have:=Kt t.path (Ct s t.path) l none (fun _ e=>by cases e)
  rw[<-JE]at this;cases e:Dq (Fm l) t.path with
  |none=>
   have:=(this.1.1 e).2
   rw[AP]at this
   have:=this t ht
   simp at this
  |some u=>
   obtain⟨h1,h2⟩:=this.2 u e;have hu:=h u (Fx e);rw[h1,h2]at hu;simp only[Ep,VA,AP]at hu
   have:=hu t ht
   simpa using this
 .intro h u hu;have e:=(FW (EF l)).1 hu
  have:=Kt u.path (Ct s u.path) l none (fun _ e=>by cases e)
  rw[<-JE]at this;obtain⟨h1,h2⟩:=this.2 u e;rw[h2];simp only[Ep,VA,AP];intro t ht
  by_cases e:t.path=u.path
  .have:=h t ht;rw[e]at this;simp[this]
  .simp[e]
theorem dg{t:Tm}(h:IE t=true)(o:Option Sl):Dp t o=false:=by
 unfold IE at h;simp only[Af,Co,Hf]at h;unfold Dp;cases o with
 |none=>exact h.1
 |some x=>dsimp only;rw[h.2];simp[has]
def Gz(s:List Sl):Prop:=∀x∈s,B3 x.ver=true
theorem Fc{v:Ver}(h:B3 v=true):0<=v.a/\v.a<=999/\0<=v.b/\v.b<=999/\0<=v.c/\v.c<=999:=by
 unfold B3 at h;simp only[Af]at h;obtain⟨⟨a,b⟩,c⟩:=h;obtain⟨a1,a2⟩:=BO a;obtain⟨b1,b2⟩:=BO b;obtain⟨c1,c2⟩:=BO c;exact⟨a1,a2,b1,b2,c1,c2⟩
theorem J8{v:Ver}(h:B3 v=true):0<=place v/\place v<1000000:=by
 have:=Fc h;unfold place;omega
theorem VB{t:Tm}(h:GY t=true)(hs:Gz s):Dp t (Ct s t.path)=true:=by
 unfold GY at h;simp only[Af,Au]at h;unfold Dp;cases e:Ct s t.path with
 |none=>exact h.1
 |some x=>
  have:=hs x (JT e)
  have hp:=J8 this;dsimp only;rw[this,h.2];simp[has,BN,hp]
theorem Dd{l:List Tm}(hs:Gz s):Bf l s=(match CW l with | none=>false | some c=>Bf c s):=by
 unfold CW;split
 .rename_i h;split at h
  .rename_i hn;rw[<-My,AH];intro hv;rw[Bz]at hv;obtain⟨t,ht,hn⟩:=AX.1 hn
   have:=hv t ht
   rw[dg hn]at this;cases this
  .cases h
 .rename_i c h;split at h
  .cases h
  .rename_i hn;cases h;rw[<-My,BV,Bz,Bz];constructor
   .intro h t ht;exact h t (BG.1 ht).1
   .intro h t ht;cases ha:GY t with
    |true=>exact VB ha hs
    |false=>exact h t (BG.2 ⟨ht,by simp[ha]⟩)
theorem Hx(a b:List Tm)(s:List Sl):Bf (a++b) s=(Bf a s&&Bf b s):=by unfold Bf;rw[List.all_append]
theorem E9{l c:List Tm}(h:CW l=some c):Ch none c:=by
 unfold CW at h;split at h
 .cases h
 .cases h;exact Ch.filter _ (EF l)
theorem F3{l r:List Tm}{p:ByteArray}{t:Tm}(hs:Gz s)(h:FF l p=some (t,r)):Bf l s=(Dp t (Ct s p)&&Bf r s)/\t.path=p:=by
 unfold FF at h;cases hc:CW l with
 |none=>rw[hc]at h;cases h
 |some c=>
  rw[hc]at h;dsimp only at h;cases hf:Dq c p with
  |none=>rw[hf]at h;cases h
  |some u=>
   rw[hf]at h;cases h;have hp:=HA hf;refine⟨?_,hp⟩;rw[Dd hs,hc];dsimp only;rw[BV,Af,Bz,Bz];constructor
   .intro h
    have:=h t (Fx hf)
    rw[hp]at this;exact⟨this,fun v hv=>h v (BG.1 hv).1⟩
   .intro⟨h1,h2⟩ v hv
    by_cases e:v.path=p
    .have:=(FW (E9 hc)).1 hv
     rw[e,hf]at this;cases this;rw[e];exact h1
    .exact h2 v (BG.2 ⟨hv,by simp[e]⟩)
theorem U7{a b o:List Tm}{p:ByteArray}(hs:Gz s)(h:BK a b p=(o,0))(hv:Bf o s=true):Bf a s=true\/Bf b s=true:=by
 unfold BK at h;cases h1:FF a p with
 |none=>rw[h1]at h;simp at h
 |some x=>
  cases h2:FF b p with
  |none=>rw[h1,h2]at h;simp at h
  |some y=>
   obtain⟨t,r⟩:=x;obtain⟨u,m⟩:=y;rw[h1,h2]at h;dsimp only at h;cases hc:CW (r++m++[Do t u])with
   |none=>rw[hc]at h;simp at h
   |some c=>
    rw[hc]at h
    have:c=o:=by simpa using h
    subst this;have e:=Dd (l:=r++m++[Do t u]) hs;rw[hc]at e;dsimp only at e;rw[hv,Hx,Hx]at e;simp only[Af]at e;obtain⟨⟨e1,e2⟩,e3⟩:=e;obtain⟨va,pa⟩:=F3 hs h1;obtain⟨vb,pb⟩:=F3 hs h2;have e3:=Bz.1 e3 _ (Aj.2 rfl)
    have:(Do t u).path=p:=pa
    rw[this,Oa,CD]at e3;rcases e3 with e3 | e3
    .exact .inl (by rw[va,e3,e1];rfl)
    .exact .inr (by rw[vb,e3,e2];rfl)
theorem Rh{l:List Tm}(hs:Gz s)(Dv:Rg l≠[]):Bf (Rg l) s=Bf l s:=by
 have:=Dd (l:=l) hs
 unfold Rg at *
 cases h:CW l with
 |none=>rw[h]at Dv;exact absurd rfl Dv
 |some c=>rw[h]at this;exact this.symm
-- paths
def EL:Bool:=decide (97<=c)&&decide (c<=122)
def MP:Bool:=decide (65<=c)&&decide (c<=90)
def CC:Bool:=decide (48<=c)&&decide (c<=57)
def F5:Bool:=EL c||MP c||CC c||decide (c=95)
def cX:List UInt8:=[32,97,110,100,32,97,110,121,32,97,115,32,98,111,111,108,32,100,101,112,114,101,99,97,116,101,100,32,101,108,115,101,32,101,120,112,111,114,116,32,102,97,108,115,101,32,102,110,32,102,111,108,100,32,102,114,111,109,32,105,102,32,105,109,112,111,114,116,32,105,110,32,105,110,116,32,108,101,110,103,116,104,32,108,101,116,32,108,105,115,116,32,109,97,116,99,104,32,109,111,100,117,108,101,32,110,111,110,101,32,110,111,116,32,111,114,32,116,101,120,116,32,116,104,101,110,32,116,114,117,101,32,116,121,112,101,32,117,115,101,32]
def NU:List UInt8->List UInt8->Bool
 | [],_=>true
 |_::_,[]=>false
 |a::x,b::y=>decide (a=b)&&NU x y
def mD(x:List UInt8):List UInt8->Bool
 | []=>NU x []
 |b::y=>NU x (b::y)||mD x y
def VS(s:List UInt8):Bool:=mD (32::(s++[32])) cX
def GC(s:List UInt8):Bool:=!s.isEmpty&&decide (s.length<=32)&&EL (s.headD 0)&&s.all F5&&!VS s
def Hs(s:List UInt8):Bool:=GC s&&s.all fun c=>EL c||CC c
def Ea(s:List UInt8):Int:=s.foldl (fun n c=>10*n+((c.toNat:Int)-48)) 0
def GU(s:List UInt8):Option Int:=match s with
 |c::r=>if c=118 then(if r.isEmpty||decide (3<r.length)||(decide (1<r.length)&&decide (r.headD 0=48))||!r.all CC then none else some (Ea r))else none
 | []=>none
def B2(c:UInt8):List UInt8->List (List UInt8)
 | []=>[[]]
 |b::r=>if b=c then []::B2 c r else match B2 c r with
  | []=>[[b]]
  |x::l=>(b::x)::l
def Rb(p:List UInt8):Option Int:=match GU ((B2 47 p).getLastD [])with
 |none=>none
 |some n=>if 64<p.length||(B2 47 p).length<2 then none else if(B2 47 p).all Hs then some n else none
def Bs:Option Int:=Rb p.data.toList
-- indexes
def IH(before:Option ByteArray)(q:Rq):Int:=
 if(Bs q.path).isNone then 4 else if q.set.isEmpty||!decide (q.set=canon q.set)||(match before with | some b=>!FQ b q.path | none=>false)then 1 else 0
def Gg(before:Option ByteArray):List Rq->Int
 | []=>0
 |q::r=>if IH before q=0 then Gg (some q.path) r else IH before q
def B5(l:List Rq):Int:=if 16<l.length then 7 else Gg none l
def Fk(s:ByteArray):Bool:=decide (s.size=0)||decide (s.size=32)
def D1:Int:=match Bs r.path with
 |none=>4
 |some m=>if !B3 r.ver||!decide (r.ver.a=m)then 2 else if B5 r.reqs≠0 then B5 r.reqs else if Fk r.arch&&Fk r.ifc&&Fk r.cert then 0 else 1
def HW(a b:Int):Int:=if a<b then -1 else if b<a then 1 else 0
def Ou(a b:ByteArray):Int:=if FQ a b then -1 else if FQ b a then 1 else 0
def TM(a b:Ver):Int:=if HW a.a b.a≠0 then HW a.a b.a else if HW a.b b.b≠0 then HW a.b b.b else HW a.c b.c
def SC(a b:Rl):Int:=if Ou a.path b.path≠0 then Ou a.path b.path else TM a.ver b.ver
def FC:Sl:=⟨r.path,r.ver⟩
def DF(before:Option Rl):List Rl->Int
 | []=>0
 |r::l=>if D1 r≠0 then D1 r else match before with
  |none=>DF (some r) l
  |some b=>if FC b=FC r then 5 else if 0<SC b r then 1 else DF (some r) l
def Bd(l:List Rl):Int:=if 256<l.length then 7 else DF none l
def DH(y:Sl):Option Rl:=if Bd x≠0 then none else x.find? fun r=>decide (FC r=y)
def KW(p:ByteArray):List Rl:=if Bd x≠0 then []else x.filter fun r=>decide (r.path=p)
def B8(p:ByteArray):Bl:=canon (((KW x p).filter fun r=>!r.yanked).map fun r=>(plc r.ver,plc r.ver+1))
def Lt(before:Option ByteArray):List Sl->Bool
 | []=>true
 |y::r=>(match before with |some b=>FQ b y.path |none=>true)&&Lt (some y.path) r
def B6(s:List Sl):Bool:=Lt none s
-- solutions
def jI(x:List Rl):List Sl->Option (List Rl)
 | []=>some []
 |y::s=>match DH x y with
  |none=>none
  |some r=>match jI x s with
   |none=>none
   |some l=>some (r::l)
-- derivations
def P0(p:ByteArray)(pl:Int):Option Rl:=x.find? fun r=>decide (r.path=p)&&decide (plc r.ver=pl)
def mt:ByteArray:=⟨#[]⟩
def J5(l:List α)(i:Int):Option α:=if i<0 then none else l[i.toNat]?
def iW:Option (List Tm):=if l.isEmpty then none else some l
def D4(roots:List Rq)(d:List (List Tm))(i:Nf):Option (List Tm):=
 if i.kind=0 then
  if i.path=mt/\i.place=0/\i.left=0/\i.right=0 then(J5 roots i.number).map J9 else none
 else if i.kind=1 then
  if i.left=0/\i.right=0 then match P0 x i.path i.place with
   |none=>none
   |some r=>match J5 r.reqs i.number with
    |none=>none
    |some q=>iW (EA i.path i.place q)
  else none
 else if i.kind=2 then
  if i.place=0/\i.number=0/\i.left=0/\i.right=0 then iW (If i.path (B8 x i.path))else none
 else if i.kind=3 then
  if i.place=0/\i.number=0 then match J5 d i.left,J5 d i.right with
   |some a,some b=>if(BK a b i.path).2=0 then some (BK a b i.path).1 else none
   |_,_=>none
  else none
 else none
def Dj(x:List Rl)(roots:List Rq):List Nf->List (List Tm)->Option (List (List Tm))
 | [],d=>some d
 |i::l,d=>match D4 x roots d i with
  |none=>none
  |some t=>Dj x roots l (d++[t])
-- decisions
def Dz(before:List Sl):List Rq->Option ByteArray->Option ByteArray
 | [],acc=>acc
 |q::l,acc=>Dz before l (if CO before q.path then acc else match acc with
  |none=>some q.path
  |some p=>if FQ q.path p then some q.path else some p)
def Lz(needs:List Rq)(before:List Sl):Option ByteArray:=Dz before needs none
structure Vis where
 before:List Sl
 needs:List Rq
 rel:Rl
-- answers
-- the example
def bs(l:List UInt8):ByteArray:=⟨⟨l⟩⟩
-- the order of releases
theorem Lo{a b:Int}(h:HW a b=0):a=b:=by
 unfold HW at h;split at h
 .cases h
 .split at h
  .cases h
  .omega
theorem XV{a b:Int}(h:HW a b<0):a<b:=by
 unfold HW at h;split at h
 .assumption
 .split at h<;>omega
theorem Wm(h:Ou a b=0):a=b:=by
 unfold Ou at h;cases h1:FQ a b with
 |true=>rw[h1]at h;simp at h
 |false=>
  cases h2:FQ b a with
  |true=>rw[h1,h2]at h;simp at h
  |false=>exact Kp h1 h2
theorem pG(h:Ou a b<0):FQ a b=true:=by
 unfold Ou at h;cases h1:FQ a b with
 |true=>rfl
 |false=>rw[h1]at h;cases h2:FQ b a<;>rw[h2]at h<;>simp at h
def uz(a b:Ver):Prop:=a.a<b.a\/(a.a=b.a/\(a.b<b.b\/(a.b=b.b/\a.c<b.c)))
def iQ(a b:Rl):Prop:=FQ a.path b.path=true\/(a.path=b.path/\uz a.ver b.ver)
theorem pI{a b:Ver}(h:TM a b<0):uz a b:=by
 unfold TM at h;split at h
 .exact .inl (XV h)
 .rename_i h1;have h1:=Lo (Cq.1 h1);split at h
  .exact .inr ⟨h1,.inl (XV h)⟩
  .rename_i h2;exact .inr ⟨h1,.inr ⟨Lo (Cq.1 h2),XV h⟩⟩
theorem gO{a b:Ver}(h:TM a b=0):a=b:=by
 unfold TM at h;split at h
 .rename_i h1;exact absurd h h1
 .rename_i h1;have h1:=Lo (Cq.1 h1);split at h
  .rename_i h2;exact absurd h h2
  .rename_i h2;have h2:=Lo (Cq.1 h2);have h3:=Lo h;cases a;cases b;simp_all
theorem gN{a b:Rl}(h:SC a b=0):FC a=FC b:=by
 unfold SC at h;split at h
 .rename_i h1;exact absurd h h1
 .rename_i h1;have h1:=Wm (Cq.1 h1);have h2:=gO h;unfold FC;rw[h1,h2]
theorem pH{a b:Rl}(h:SC a b<0):iQ a b:=by
 unfold SC at h;split at h
 .exact .inl (pG h)
 .rename_i h1;exact .inr ⟨Wm (Cq.1 h1),pI h⟩
theorem iT{a b c:Ver}(h:uz a b)(k:uz b c):uz a c:=by unfold uz at *;omega
theorem iR{a b c:Rl}(h:iQ a b)(k:iQ b c):iQ a c:=by
 rcases h with h | ⟨h1,h2⟩
 .rcases k with k | ⟨k1,k2⟩
  .exact .inl (Fe h k)
  .exact .inl (k1▸h)
 .rcases k with k | ⟨k1,k2⟩
  .exact .inl (h1▸k)
  .exact .inr ⟨h1.trans k1,iT h2 k2⟩
theorem JZ{a b:Rl}(h:iQ a b)(k:FC a=FC b):False:=by
 unfold FC at k;simp only[Sl.mk.injEq]at k;rcases h with h | ⟨_,h⟩
 .rw[k.1,Dn]at h;cases h
 .rw[k.2]at h;unfold uz at h;omega
-- a valid index
structure Ts(r:Rl):Prop where
 maj:Bs r.path=some r.ver.a
 val:B3 r.ver=true
 reqs:B5 r.reqs=0
theorem cf{r:Rl}(h:D1 r=0):Ts r:=by
 unfold D1 at h;split at h
 .cases h
 .rename_i m hm;split at h
  .cases h
  .rename_i h1;split at h
   .rename_i h2;exact absurd h h2
   .rename_i h2;simp only[CD,Co,Hk,not_or,Cq]at h1;refine⟨by rw[hm,h1.2],by simpa using h1.1,Cq.1 h2⟩
theorem LX:∀{l:List Rl} {b:Option Rl},DF b l=0->(∀r∈l,Ts r)/\(l.Pairwise iQ/\∀c,b=some c->∀r∈l,iQ c r)
 | [],b,_=>⟨fun _ h=>(by cases h),.nil,fun _ _ _ h=>(by cases h)⟩
 |r::l,b,h=>by
  unfold DF at h;split at h
  .rename_i h1;exact absurd h h1
  .rename_i h1;have hr:=cf (Cq.1 h1);have go:DF (some r) l=0->(∀c,b=some c->iQ c r)->(∀z∈r::l,Ts z)/\((r::l).Pairwise iQ/\∀c,b=some c->∀z∈r::l,iQ c z):=fun h hc=>by
    obtain⟨i1,i2,i3⟩:=LX h;refine⟨fun z hz=>?_,.cons (i3 r rfl) i2,fun c e z hz=>?_⟩
    .rcases Ay.1 hz with rfl | hz
     .exact hr
     .exact i1 z hz
    .rcases Ay.1 hz with rfl | hz
     .exact hc c e
     .exact iR (hc c e) (i3 r rfl z hz)
   cases b with
   |none=>exact go h fun _ e=>by cases e
   |some b=>
    dsimp only at h;split at h
    .cases h
    .rename_i hk;split at h
     .cases h
     .rename_i hc;refine go h fun c e=>?_;cases e;refine pH ?_
      have:SC b r≠0:=fun e=>hk (gN e)
      omega
theorem CF{l:List Rl}(h:Bd l=0):(∀r∈l,Ts r)/\l.Pairwise iQ:=by
 unfold Bd at h;split at h
 .cases h
 .exact⟨(LX h).1,(LX h).2.1⟩
theorem Uv{l:List Rl}(h:l.Pairwise iQ){a b:Rl}(ha:a∈l)(hb:b∈l)(hk:FC a=FC b):a=b:=by
 induction h with
 |nil=>cases ha
 |cons h1 h2 ih=>
  rcases Ay.1 ha with e1 | ha
  .rcases Ay.1 hb with e2 | hb
   .exact e1.trans e2.symm
   .exact(JZ (e1▸h1 b hb) hk).elim
  .rcases Ay.1 hb with e2 | hb
   .exact(JZ (e2▸h1 a ha) hk.symm).elim
   .exact ih ha hb
theorem YW{a b:Ver}(ha:B3 a=true)(hb:B3 b=true)(h1:a.a=b.a)(h2:place a=place b):a=b:=by
 have:=Fc ha
 have:=Fc hb
 unfold place at h2;have e1:a.b=b.b:=by omega
 have e2:a.c=b.c:=by omega
 cases a;cases b;simp_all
theorem Ts.plc{r:Rl}(h:Ts r):plc r.ver=place r.ver:=by unfold Go.Eng.plc;rw[h.val];rfl
theorem fG{l:List Rl}(h:(∀r∈l,Ts r)/\l.Pairwise iQ){a b:Rl}(ha:a∈l)(hb:b∈l)(h1:a.path=b.path)(h2:place a.ver=place b.ver):a=b:=by
 refine Uv h.2 ha hb ?_
 have:=h.1 a ha
 have:=h.1 b hb
 have e:a.ver.a=b.ver.a:=by
  have e1:=(h.1 a ha).maj;rw[h1,(h.1 b hb).maj]at e1;exact(BW e1).symm
 unfold FC;rw[h1,YW (h.1 a ha).val (h.1 b hb).val e h2]
theorem FV{x:List Rl}{r:Rl}(h:DH x y=some r):Bd x=0/\r∈x/\FC r=y:=by
 unfold DH at h;split at h
 .cases h
 .rename_i h1;refine⟨Cq.1 h1,BP h,?_⟩
  have:=DL h;simpa using this
structure oH(x:List Rl)(roots:List Rq)(s:List Sl):Prop where
 ix:Bd x=0
 inc:B6 s=true
 fnd:∀y∈s,∃r,DH x y=some r/\r.yanked=false
 root:∀q∈roots,∃y,Ct s q.path=some y/\has q.set (place y.ver)=true
 req:∀y∈s,∀r,DH x y=some r->∀q∈r.reqs,∃z,Ct s q.path=some z/\has q.set (place z.ver)=true
theorem IB:∀{s:List Sl} {b:Option ByteArray},Lt b s=true->s.Pairwise (fun a b=>FQ a.path b.path=true)/\∀c,b=some c->∀y∈s,FQ c y.path=true
 | [],_,_=>⟨.nil,fun _ _ _ h=>by cases h⟩
 |y::r,b,h=>by
  unfold Lt at h;simp only[Af]at h;obtain⟨h1,h2⟩:=h;obtain⟨i1,i2⟩:=IB h2;refine⟨.cons (i2 _ rfl) i1,fun c e z hz=>?_⟩;subst e;rcases Ay.1 hz with rfl | hz
  .exact h1
  .exact Fe h1 (i2 _ rfl z hz)
theorem N6(h:s.Pairwise (fun a b=>FQ a.path b.path=true))(hy:y∈s):Ct s y.path=some y:=by
 induction h with
 |nil=>cases hy
 |cons h1 h2 ih=>
  rename_i a l;unfold Ct;rw[D7];rcases Ay.1 hy with rfl | hy
  .simp
  .have:=XQ (h1 y hy)
   simp only[this,decide_false];exact ih hy
theorem ZG(h:B6 s=true)(hy:y∈s):Ct s y.path=some y:=N6 (IB h).1 hy
theorem oH.valid{x:List Rl}(h:oH x roots s):Gz s:=fun y hy=>by
 obtain⟨r,h1,_⟩:=h.fnd y hy;obtain⟨_,h2,h3⟩:=FV h1
 have:=((CF h.ix).1 r h2).val
 rw[<-h3];exact this
theorem YP{x:List Rl}:∀{s:List Sl} {l:List Rl},jI x s=some l->l.map FC=s/\(∀r∈l,DH x (FC r)=some r)/\∀y∈s,∃r∈l,DH x y=some r
 | [],l,h=>by cases h;exact⟨rfl,fun _ h=>(by cases h),fun _ h=>(by cases h)⟩
 |y::s,l,h=>by
  unfold jI at h;split at h
  .cases h
  .rename_i r hr;split at h
   .cases h
   .rename_i l' hl;cases h;obtain⟨i1,i2,i3⟩:=YP hl;have hk:=(FV hr).2.2;refine⟨by rw[AK,hk,i1],fun z hz=>?_,fun z hz=>?_⟩
    .rcases Ay.1 hz with rfl | hz
     .rw[hk];exact hr
     .exact i2 z hz
    .rcases Ay.1 hz with rfl | hz
     .exact⟨r,Ab ..,hr⟩
     .obtain⟨c,c1,c2⟩:=i3 z hz;exact⟨c,Ae _ c1,c2⟩
-- soundness
theorem Sr{q:Rq}(h:∃y,Ct s q.path=some y/\has q.set (place y.ver)=true):Dp (DK q) (Ct s q.path)=false:=by
 obtain⟨y,h1,h2⟩:=h;rw[h1];unfold Dp DK;dsimp only;rw[FX,h2];simp
theorem np{l:List Tm}(hs:Gz s)(hn:CW l≠none)(hv:Bf l s=false):Bf (Rg l) s=false:=by
 have:=Dd (l:=l) hs
 unfold Rg;cases h:CW l with
 |none=>exact absurd h hn
 |some c=>rw[h,hv]at this;exact this.symm
theorem aS{l:List Tm}(hs:Gz s){o:List Tm}(h:iW (Rg l)=some o)(hv:Bf l s=false):Bf o s=false:=by
 unfold iW at h;split at h
 .cases h
 .rename_i Dv;cases h;rw[Rh hs (by intro e;rw[e]at Dv;exact Dv rfl)];exact hv
theorem dF:CW [DK q]≠none:=by
 unfold CW Fm;simp only[List.foldl,OE]
 have:IE (Mq (DK q))=false:=by simp[IE,Mq,DK]
 simp[this]
theorem PT{l:List α}{i:Int}{a:α}(h:J5 l i=some a):a∈l:=by
 unfold J5 at h;split at h
 .cases h
 .exact Av h
theorem Yp{x:List Rl}(hs:oH x roots s)(hd:∀t∈d,Bf t s=false){o:List Tm}(h:D4 x roots d i=some o):Bf o s=false:=by
 have hv:=hs.valid;unfold D4 at h;split at h
 .split at h
  .rw[AD]at h;obtain⟨q,hq,rfl⟩:=h;refine np hv (dF q) ?_;rw[AH];intro hw
   have:=Bz.1 hw _ (Aj.2 rfl)
   rw[show(DK q).path=q.path from rfl,Sr (hs.root q (PT hq))]at this;cases this
  .cases h
 .split at h
  .split at h
   .split at h
    .cases h
    .rename_i r hr;split at h
     .cases h
     .rename_i q hq;refine aS hv h ?_;rw[AH];intro hw;have h1:=Bz.1 hw _ (Ab ..);have h2:=Bz.1 hw (DK q) B0;rw[show(DK q).path=q.path from rfl]at h2;dsimp only at h1;cases hf:Ct s i.path with
      |none=>rw[hf]at h1;simp[Dp]at h1
      |some y=>
       rw[hf]at h1;unfold Dp at h1;simp only[Af]at h1;have hp:place y.ver=i.place:=by
        have:=h1.2
        simp only[has,Cb,List.any_nil,Sz,Af,BN,Au]at this;omega
       have hy:=JT hf;have hyp:=MW hf;obtain⟨r',e1,e2⟩:=hs.fnd y hy;obtain⟨_,m1,k1⟩:=FV e1;have eO:r∈x:=BP hr;have vM:=DL hr;simp only[Af,Au]at vM;have FY:=CF hs.ix
       have:r'=r:=by
        refine fG FY m1 eO ?_ ?_
        .rw[vM.1,<-hyp,<-k1];rfl
        .rw[<-(FY.1 r eO).plc,vM.2,<-hp,<-k1];rfl
       subst this
       have:=hs.req y hy r' e1 q (PT hq)
       rw[Sr this]at h2;cases h2
   .cases h
  .split at h
   .split at h
    .refine aS hv h ?_;rw[AH];intro hw;have h1:=Bz.1 hw _ (Aj.2 rfl);dsimp only at h1;cases hf:Ct s i.path with
     |none=>rw[hf]at h1;simp[Dp]at h1
     |some y=>
      rw[hf]at h1;unfold Dp at h1;simp only[Af]at h1;have hy:=JT hf;have hyp:=MW hf;obtain⟨r,e1,e2⟩:=hs.fnd y hy;obtain⟨_,m1,k1⟩:=FV e1;have FY:=CF hs.ix;have h1:=h1.2;rw[FX]at h1;have kk:=J8 (hv y hy)
      have:has (B8 x i.path) (place y.ver)=true:=by
       unfold B8;rw[HJ];unfold has;simp only[kk,decide_true,Ep,AX,Ak,BG];refine⟨(plc r.ver,plc r.ver+1),⟨r,⟨?_,by simp[e2]⟩,rfl⟩,?_⟩
       .unfold KW;simp only[hs.ix,WN,not_true,FZ,BG,m1,true_and,Au];rw[<-hyp,<-k1];rfl
       .rw[(FY.1 r m1).plc,<-k1];rw[DS];exact⟨By _,by show place r.ver<place r.ver+1;omega⟩
      rw[this]at h1;simp at h1
    .cases h
   .split at h
    .split at h
     .split at h
      .rename_i a b ha hb;split at h
       .rename_i h0;cases h;rw[AH];intro hw;rcases U7 hv (o:=(BK a b i.path).1) (Prod.ext rfl h0) hw with hw | hw
        .rw[hd a (PT ha)]at hw;cases hw
        .rw[hd b (PT hb)]at hw;cases hw
       .cases h
      .cases h
     .cases h
    .cases h
theorem JS{x:List Rl}{roots:List Rq}{s:List Sl}(hs:oH x roots s):∀{l:List Nf} {d d' : List (List Tm)},(∀t∈d,Bf t s=false)->Dj x roots l d=some d'->∀t∈d',Bf t s=false
 | [],d,d',hd,h=>by cases h;exact hd
 |i::l,d,d',hd,h=>by
  unfold Dj at h;split at h
  .cases h
  .rename_i o ho;refine JS hs (fun t ht=>?_) h;rcases AT.1 ht with ht | ht
   .exact hd t ht
   .rw[Aj.1 ht];exact Yp hs hd ho
theorem IS{α:Type}[DecidableEq α]:∀{l m:List α},l.Nodup->(∀x∈l,x∈m)->l.length<=m.length
 | [],_,_,_=>AE _
 |a::l,m,hn,hs=>by
  rw[CN]at hn;have ha:a∈m:=hs a (Ab ..)
  have:=IS (l:=l) (m:=m.erase a) hn.2 fun x hx=>by
   have:x≠a:=fun e=>hn.1 (e▸hx)
   exact(List.mem_erase_of_ne this).2 (hs x (Ae _ hx))
  rw[List.length_erase_of_mem ha]at this
  have:=List.length_pos_of_mem ha
  simp only[Al];omega
abbrev Xy(s:List Sl):Prop:=s.Pairwise (fun a b=>FQ a.path b.path=true)
-- the next path
theorem KC(before:List Sl):∀{l:List Rq} {acc:Option ByteArray},(∀p,acc=some p->CO before p=false) ->
  (∀p,Dz before l acc=some p->CO before p=false/\(acc=some p\/∃q∈l,q.path=p))/\(Dz before l acc=none->acc=none/\∀q∈l,CO before q.path=true)
 | [],acc,ha=>⟨fun p h=>⟨ha p h,.inl h⟩,fun h=>⟨h,fun _ h=>(by cases h)⟩⟩
 |q::l,acc,ha=>by
  unfold Dz
  have key:∀ga,(∀p,ga=some p->CO before p=false)->(∀p,ga=some p->acc=some p\/q.path=p)->(ga=none->acc=none/\CO before q.path=true) ->
    (∀p,Dz before l ga=some p->CO before p=false/\(acc=some p\/∃q'∈q::l,q'.path=p))/\(Dz before l ga=none->acc=none/\∀q'∈q::l,CO before q'.path=true):=by
   intro ga h1 h2 h3;obtain⟨i1,i2⟩:=KC before (l:=l) h1;refine⟨fun p h=>?_,fun h=>?_⟩
   .obtain⟨j1,j2⟩:=i1 p h;refine⟨j1,?_⟩;rcases j2 with j2 | ⟨q',j3,j4⟩
    .rcases h2 p j2 with h2 | h2
     .exact .inl h2
     .exact .inr ⟨q,Ab ..,h2⟩
    .exact .inr ⟨q',Ae _ j3,j4⟩
   .obtain⟨j1,j2⟩:=i2 h;obtain⟨k1,k2⟩:=h3 j1;refine⟨k1,fun q' hq=>?_⟩;rcases Ay.1 hq with rfl | hq
    .exact k2
    .exact j2 q' hq
  cases hb:CO before q.path with
  |true=>simp only[OD];exact key acc ha (fun p h=>.inl h) fun h=>⟨h,hb⟩
  |false=>
   simp only[CM,FZ];cases acc with
   |none=>exact key _ (fun p h=>by cases h;exact hb) (fun p h=>by cases h;exact .inr rfl) fun h=>by cases h
   |some p0=>
    dsimp only;split
    .exact key _ (fun p h=>by cases h;exact hb) (fun p h=>by cases h;exact .inr rfl) fun h=>by cases h
    .exact key _ (fun p h=>by cases h;exact ha _ rfl) (fun p h=>by cases h;exact .inl rfl) fun h=>by cases h
theorem UL{needs:List Rq}{before:List Sl}{p:ByteArray}(h:Lz needs before=some p):CO before p=false/\∃q∈needs,q.path=p:=by
 obtain⟨h1,h2⟩:=(KC before (l:=needs) (acc:=none) fun _ e=>by cases e).1 p h;rcases h2 with h2 | h2
 .cases h2
 .exact⟨h1,h2⟩
theorem dh{needs:List Rq}{before:List Sl}(h:Lz needs before=none):∀q∈needs,CO before q.path=true:=
 ((KC before (l:=needs) (acc:=none) fun _ e=>by cases e).2 h).2
theorem Ud(a b:List Sl)(p:ByteArray):CO (a++b) p=(CO a p||CO b p):=by unfold CO;rw[GF]
theorem L7{p:ByteArray}:CO s p=true↔∃y∈s,y.path=p:=by unfold CO;simp
theorem HI{p:ByteArray}:CO s p=true↔p∈s.map (·.path):=by rw[L7,Ak]
-- what is needed
-- skips
theorem X0{t:List Tm}{b:List Sl}(hs:B6 s=true)(hb:∀y∈b,y∈s)(h:CY t b=true):Bf t s=true:=by
 unfold CY at h;simp only[Af,Co,DE]at h;obtain⟨h1,h2⟩:=h;rw[Bz]at h1⊢;intro u hu
 have:=h2 u hu
 simp only[RK]at this;rw[Kv]at this;cases hf:Ct b u.path with
 |none=>rw[hf]at this;cases this
 |some y=>
  have h3:=h1 u hu;rw[hf]at h3
  have:=ZG hs (hb y (JT hf))
  rw[MW hf]at this;rw[this];exact h3
-- right answers
-- the first decision that differs
-- prefixes
theorem JB{x:List Rl}{roots:List Rq}:∀{l:List Nf} {d d' : List (List Tm)},Dj x roots l d=some d'->d'.length=d.length+l.length
 | [],d,d',h=>by cases h;rfl
 |i::l,d,d',h=>by
  unfold Dj at h;split at h
  .cases h
  .have:=JB h
   simp only[Ac,Al,Ax]at this⊢;omega
theorem Hv{x:List Rl}{roots:List Rq}:∀(l m:List Nf) (d:List (List Tm)),Dj x roots (l++m) d=match Dj x roots l d with | none=>none | some d'=>Dj x roots m d'
 | [],_,_=>rfl
 |i::l,m,d=>by
  show(match D4 x roots d i with | none=>none | some t=>Dj x roots (l++m) (d++[t]))=(match(match D4 x roots d i with | none=>none | some t=>Dj x roots l (d++[t]))with | none=>none | some d'=>Dj x roots m d');cases D4 x roots d i with
  |none=>rfl
  |some t=>exact Hv l m _
theorem Mr{x:List Rl}{roots:List Rq}:∀{l:List Nf} {d d' : List (List Tm)},Dj x roots l d=some d'->d <+: d'
 | [],d,d',h=>by cases h;exact List.prefix_refl _
 |i::l,d,d',h=>by
  unfold Dj at h;split at h
  .cases h
  .exact(Kf _ _).trans (Mr h)
theorem N2{x:List Rl}{l:List Nf}(h:Dj x roots l []=some d)(k:Nat):Dj x roots (l.take k) []=some (d.take k):=by
 rw[<-Fi k l,Hv]at h;cases e:Dj x roots (l.take k) []with
 |none=>rw[e]at h;cases h
 |some f=>
  rw[e]at h;dsimp only at h;have h1:=JB e;have h2:=JB h;have h3:=Mr h
  congr 1
  simp only[Ax,AA,DP]at h1 h2;obtain⟨z,rfl⟩:=h3
  by_cases hk:k<=l.length
  .rw[FA ch,AB ch]
  .rw[Ac]at h2
   have:z=[]:=AL ch
   subst this;rw[BZ,AB ch]
def Form:Prop:=CW l=some l
theorem jA{l:List Tm}:∀(l2:List Tm),Ch none (l2++l)->l.foldl (fun acc t=>OE t acc) l2=l2++l:=by
 induction l with
 |nil=>intro l2 _;simp
 |cons t r ih=>
  intro l2 h;have hi:OE t l2=l2++[t]:=by
   have:∀(m:List Tm) (lo:Option ByteArray),Ch lo (m++t::r)->OE t m=m++[t]:=by
    intro m
    induction m with
    |nil=>
     intro lo hm;have hc:ET t.set:=hm.2.1;unfold OE;rw[show Mq t=t from u5 rfl rfl (JR hc)];rfl
    |cons u m ihm=>
     intro lo hm;have hm:Ch lo (u::(m++t::r)):=hm;have Dx:=Ch.low hm.2.2 t B0;unfold OE;rw[As Dx,ihm _ hm.2.2];rfl
   exact this l2 none h
  rw[FK,hi]
  have:=ih (l2++[t]) (by rw[Bm];exact h)
  rw[this,Bm];rfl
theorem Rc{l:List Tm}(h:Ch none l):Fm l=l:=by
 have:=jA (l:=l) [] h
 simpa[Fm]using this
theorem RU{l c:List Tm}(h:CW l=some c):Form c:=by
 have hs:=E9 h;unfold Form;unfold CW at h⊢;rw[Rc hs];split at h
 .cases h
 .rename_i hn;cases h;rw[Ah]
  .congr 1
   rw[List.filter_filter];simp
  .rw[Bool.not_eq_true,DE]at hn⊢;intro t ht;exact hn t (BG.1 ht).1
theorem PB:Form []:=rfl
theorem Ng:Form (Rg l):=by
 unfold Rg;cases h:CW l with
 |none=>exact PB
 |some c=>exact RU h
theorem Oh(a b:List Tm)(p:ByteArray):Form (BK a b p).1:=by
 unfold BK;split
 .split
  .rename_i h;exact RU h
  .exact PB
 .exact PB
theorem aR{l o:List Tm}(h:iW l=some o):o=l:=by unfold iW at h;split at h<;>cases h;rfl
theorem ax{x:List Rl}{o:List Tm}(h:D4 x roots d i=some o):Form o:=by
 unfold D4 at h;split at h
 .split at h
  .rw[AD]at h;obtain⟨q,_,rfl⟩:=h;exact Ng _
  .cases h
 .split at h
  .split at h
   .split at h
    .cases h
    .split at h
     .cases h
     .rw[aR h];exact Ng _
   .cases h
  .split at h
   .split at h
    .rw[aR h];exact Ng _
    .cases h
   .split at h
    .split at h
     .split at h
      .split at h
       .cases h;exact Oh _ _ _
       .cases h
      .cases h
     .cases h
    .cases h
theorem N1{x:List Rl}{roots:List Rq}:∀{l:List Nf} {d d' : List (List Tm)},(∀t∈d,Form t)->Dj x roots l d=some d'->∀t∈d',Form t
 | [],d,d',hd,h=>by cases h;exact hd
 |i::l,d,d',hd,h=>by
  unfold Dj at h;split at h
  .cases h
  .rename_i o ho;refine N1 (fun t ht=>?_) h;rcases AT.1 ht with ht | ht
   .exact hd t ht
   .rw[Aj.1 ht];exact ax ho
-- tampering
end Go.Eng
