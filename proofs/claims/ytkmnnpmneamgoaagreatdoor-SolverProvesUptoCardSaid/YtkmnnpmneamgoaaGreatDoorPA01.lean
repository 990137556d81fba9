/- Lemmas 1. -/
import Derived.Test.YtkmnnpmneamgoaaGreatDoorPA00
namespace Go.Eng
variable {a b:ByteArray}{lo:Option ByteArray}{α:Type}(c:UInt8)(p:ByteArray)
def BP(p:Int)(s:Int×Int):Bool:=decide (s.1<=p)&&decide (p<s.2)
def has(s:List (Int×Int))(p:Int):Bool:=decide (0<=p)&&decide (p<1000000)&&s.any (BP p)
abbrev AH:=List (Int×Int)
def ED(lo:Int):AH->Prop
 | []=>True
 |y::r=>lo<=y.1/\y.1<y.2/\y.2<=1000000/\ED (y.2+1) r
abbrev Er(l:AH):Prop:=ED 0 l
def Yf(x:Int×Int):AH->AH
 | []=>[x]
 |y::r=>if x.2<y.1 then x::y::r else if y.2<x.1 then y::Yf x r else Yf (min x.1 y.1,max x.2 y.2) r
def Ha(x:Int×Int):Int×Int:=(max x.1 0,min x.2 1000000)
def canon:AH->AH
 | []=>[]
 |x::r=>if(Ha x).1<(Ha x).2 then Yf (Ha x) (canon r)else canon r
def GO(at_:Int):AH->AH
 | []=>if at_<1000000 then [(at_,1000000)]else []
 |y::r=>if at_<y.1 then(at_,y.1)::GO y.2 r else GO y.2 r
def BU(s:AH):AH:=GO 0 (canon s)
def JK(l:List AH):AH:=canon l.flatten
def MC(l:List AH):AH:=BU (l.map BU).flatten
def EQ(a b:AH):AH:=JK [a,b]
def GD(a b:AH):AH:=MC [a,b]
def Uc(a b:AH):AH:=GD a (BU b)
theorem ED.mono{lo Ib : Int}:∀{l:AH},ED lo l->Ib<=lo->ED Ib l
 | [],_,_=>trivial
 |_::_,⟨h1,h2,h3,h4⟩,h=>⟨Int.le_trans h h1,h2,h3,h4⟩
theorem ED.low{lo:Int}:∀{l:AH},ED lo l->∀y∈l,lo<=y.1/\y.1<y.2/\y.2<=1000000
 |y::r,⟨h1,h2,h3,h4⟩,z,hz=>by
  rcases AF.1 hz with rfl | hz
  .omega
  .have:=h4.low z hz
   omega
theorem Eo{p:Int}{s:Int×Int}:BP p s=true↔s.1<=p/\p<s.2:=by simp[BP]
theorem OP{lo:Int}{l:AH}(h:ED lo l){p:Int}(hp:l.any (BP p)=true):lo<=p:=by
 obtain⟨y,hy,h2⟩:=Bu.1 hp
 have:=h.low y hy
 grind [Eo]
theorem jJ{lo:Int}{l:AH}(h:ED lo l){p:Int}(hp:l.any (BP p)=true):p<1000000:=by
 obtain⟨y,hy,h2⟩:=Bu.1 hp
 have:=h.low y hy
 grind [Eo]
theorem NX:∀(l:AH) {lo:Int} {x:Int×Int},ED lo l->lo<=x.1->x.1<x.2->x.2<=1000000->ED lo (Yf x l)
 | [],lo,x,_,h1,h2,h3=>⟨h1,h2,h3,trivial⟩
 |y::r,lo,x,⟨g1,g2,g3,g4⟩,h1,h2,h3=>by
  unfold Yf;split
  .exact⟨h1,h2,h3,by omega,g2,g3,g4⟩
  .split
   .exact⟨g1,g2,g3,NX r g4 aa0 h2 h3⟩
   .refine NX r (g4.mono aa0) ?_ ?_ ?_<;>dsimp only<;>omega
theorem ON:∀(l:AH) {lo:Int} {x:Int×Int} (p:Int),ED lo l->x.1<x.2->(Yf x l).any (BP p)=(BP p x||l.any (BP p))
 | [],lo,x,p,_,_=>by simp[Yf]
 |y::r,lo,x,p,⟨g1,g2,g3,g4⟩,h2=>by
  unfold Yf;split
  .simp
  .split
   .rw[EH,ON r p g4 h2,EH,<-Bool.or_assoc,<-Bool.or_assoc,Bool.or_comm (BP p y)]
   .rw[ON r p g4 aa0,EH,<-Bool.or_assoc]
    grind [BP]
theorem BG:∀s:AH,Er (canon s)
 | []=>trivial
 |x::r=>by
  unfold canon;split
  .rename_i h;refine NX _ (BG r) ?_ h ?_<;>simp only[Ha]<;>omega
  .exact BG r
theorem Ky:∀(s:AH) (p:Int),(canon s).any (BP p)=has s p
 | [],p=>by simp[has,canon]
 |x::r,p=>by
  have ih:=Ky r p
  grind [canon,BP,Ha,ON,BG,has]
theorem H1{l:AH}(h:Er l)(p:Int):has l p=l.any (BP p):=by
 unfold has;cases e:l.any (BP p)with
 |false=>simp
 |true=>have h1:0<=p:=OP h e;grind [jJ]
theorem En(s:AH)(p:Int):has (canon s) p=has s p:=by
 rw[H1 (BG s),Ky]
theorem NC:∀{a b:AH} {lo:Int},ED lo a->ED lo b->(∀p,a.any (BP p)=b.any (BP p))->a=b
 | [],[],_,_,_,_=>rfl
 | [],z::s,_,_,⟨g1,g2,g3,g4⟩,h=>by
  have:=h z.1
  grind [Eo]
 |y::r,[],_,⟨g1,g2,g3,g4⟩,_,h=>by
  have:=h y.1
  grind [Eo]
 |y::r,z::s,lo,⟨f1,f2,f3,f4⟩,⟨g1,g2,g3,g4⟩,h=>by
  have below:∀{x:Int×Int} {t:AH} {p:Int},ED (x.2+1) t->(x::t).any (BP p)=true->p<=x.2->x.1<=p/\p<x.2:=fun {x t p} ht hp IF=>by
   rw[EH,JM]at hp;rcases hp with hp | hp
   .exact Eo.1 hp
   .have:=OP ht hp;omega
  have low:∀{x:Int×Int} {t:AH} {p:Int},x.1<x.2->ED (x.2+1) t->(x::t).any (BP p)=true->x.1<=p:=fun {x t p} hx ht hp=>by
   grind
  have cov:∀{x:Int×Int} {t:AH} {p:Int},x.1<=p->p<x.2->(x::t).any (BP p)=true:=fun {x t p} h1 h2=>by
   grind [Eo]
  have e1:y.1=z.1:=by
   grind
  have e2:y.2=z.2:=by
   rcases Int.lt_trichotomy y.2 z.2 with hl | he | hl
   .grind
   .exact he
   .have:=below g4 ((h z.2).symm.trans (cov aa0 hl)) (Ce _);omega
  have e:y=z:=Prod.ext e1 e2;subst e
  congr 1
  refine NC f4 g4 fun p=>?_;have hp:=h p;simp only[EH]at hp;cases hs:BP p y with
  |false=>simp_all
  |true=>
   have:=Eo.1 hs
   have n:∀{t:AH},ED (y.2+1) t->t.any (BP p)=false:=fun {t} ht=>by
    rw[A2];intro hx;have:=OP ht hx;omega
   grind
theorem FC{a b:AH}(ha:Er a)(hb:Er b)(h:∀p,has a p=has b p):a=b:=
 NC ha hb fun p=>by rw[<-H1 ha,<-H1 hb,h]
theorem SV{a s:AH}(ha:Er a)(h:∀p,has a p=has s p):a=canon s:=
 FC ha (BG s) fun p=>by rw[h,En]
theorem Jp{a:AH}(ha:Er a):canon a=a:=(SV ha fun _=>rfl).symm
theorem Yr{s t:AH}(h:∀p,has s p=has t p):canon s=canon t:=FC (BG s) (BG t) fun p=>by grind [En]
theorem N9{s:AH}{p:Int}(h:has s p=true):0<=p/\p<1000000:=by
 grind [has]
def Pj(p:Int):Bool:=decide (0<=p)&&decide (p<1000000)
theorem Ld:∀(l:AH) {at_ lo:Int},0<=at_->ED lo l->lo<=at_+1->at_<=lo->ED at_ (GO at_ l)/\∀p,(GO at_ l).any (BP p)=(decide (at_<=p)&&decide (p<1000000)&&!l.any (BP p))
 | [],at_,lo,h0,_,h1,h2=>by
  unfold GO;split
  .exact⟨⟨Ce _,by omega,Ce _,trivial⟩,fun p=>by simp[BP]⟩
  .refine⟨trivial,fun p=>?_⟩
   grind
 |y::r,at_,lo,h0,⟨g1,g2,g3,g4⟩,h1,h2=>by
  have ih:=Ld r (at_:=y.2) aa0 g4 (Ce _) aa0;have key:∀p,(decide (at_<=p)&&decide (p<y.1)||(GO y.2 r).any (BP p))=(decide (at_<=p)&&decide (p<1000000)&&!(y::r).any (BP p)):=fun p=>by
   rw[ih.2,EH];cases hr:r.any (BP p)with
   |true=>
    have:=OP g4 hr
    grind
   |false=>
    grind [BP]
  unfold GO;split
  .rename_i h;refine⟨⟨Ce _,h,by omega,ih.1 |> fun c=>?_⟩,fun p=>?_⟩
   .dsimp only;cases e:GO y.2 r with
    |nil=>trivial
    |cons z s=>
     rw[e]at c;exact⟨by have:=c.1;omega,c.2⟩
   .rw[EH,<-key];rfl
  grind [ED.mono]
theorem GP(s:AH):Er (BU s):=by
 grind [BU,Ld,BG]
theorem Fx(s:AH)(p:Int):has (BU s) p=(Pj p&&!has s p):=by
 rw[H1 (GP s)];unfold BU;rw[(Ld _ (Ce _) (BG s) aa0 (Ce _)).2,Ky];rfl
theorem bG(a b:AH)(p:Int):has (a++b) p=(has a p||has b p):=by
 grind [has]
theorem Mw:∀(l:List AH) (p:Int),has l.flatten p=l.any fun s=>has s p
 | [],p=>by simp[has]
 |s::l,p=>by rw[Cj,bG,Mw l p,EH]
theorem TK(l:List AH)(p:Int):has (JK l) p=l.any fun s=>has s p:=by
 unfold JK;rw[En,Mw]
theorem LK(l:List AH):Er (JK l):=BG _
theorem XC(l:List AH):Er (MC l):=GP _
theorem TJ(l:List AH)(p:Int):has (MC l) p=(Pj p&&l.all fun s=>has s p):=by
 grind [MC,Fx,Mw,List.any_map]
theorem aw(a b:AH):Er (EQ a b):=BG _
theorem IG(a b:AH):Er (GD a b):=GP _
theorem gF(a b:AH)(p:Int):has (EQ a b) p=(has a p||has b p):=by
 grind [EQ,TK]
theorem M4(a b:AH)(p:Int):has (GD a b) p=(has a p&&has b p):=by
 grind [GD,TJ,N9,Pj]
theorem gE(a b:AH)(p:Int):has (Uc a b) p=(has a p&&!has b p):=by
 grind [Uc,M4,Fx,N9,Pj]
theorem bW(s:AH):GD s s=canon s:=FC (IG _ _) (BG _) fun p=>by grind [M4,En]
theorem Va{s:AH}:canon s=[]↔∀p,has s p=false:=by
 constructor
 .intro h p;rw[<-En,h];simp[has]
 .intro h;exact FC (BG s) (b:=[]) trivial fun p=>by grind [En,has]
theorem QC{s:AH}(hs:Er s):s=[]↔∀p,has s p=false:=by
 rw[<-Va,Jp hs]
theorem Yv{s t:AH}(h:∀p,has s p=has t p):BU s=BU t:=by grind [BU,Yr]
theorem Xb(s:AH):BU (canon s)=BU s:=Yv (En s)
theorem Zp{a b c d:AH}(h:∀p,has a p=has c p)(k:∀p,has b p=has d p):GD a b=GD c d:=
 FC (IG _ _) (IG _ _) fun p=>by grind [M4]
def kk(l:List AH)(p:Int):Nat:=l.countP fun s=>has s p
theorem SU:∀{l:AH} {lo:Int},ED lo l->lo<=1000000->(l.length:Int)<=1000000-lo
 | [],lo,_,h=>by simp_all
 |y::r,lo,⟨g1,g2,g3,g4⟩,h=>by
  by_cases h3:y.2+1<=1000000
  .have:=SU g4 h3
   grind
  .cases r with
   |nil=>grind
   |cons z s=>have:=g4.1;have:=g4.2.1;have:=g4.2.2.1;omega
theorem E6{l:AH}(h:Er l):l.length<=1000000:=by have:=SU h aa0;omega
structure Ver where
 (a b c:Int)
variable (v:Ver)
structure Rq where
 path:ByteArray
 set:List (Int×Int)
variable {roots:List Rq}(q:Rq)
structure Rl where
 path:ByteArray
 ver:Ver
 reqs:List Rq
 (arch ifc cert:ByteArray)
 yanked:Bool
variable {x:List Rl}(r:Rl)
structure Sl where
 path:ByteArray
 ver:Ver
variable {s:List Sl}{y:Sl}
structure Tm where
 path:ByteArray
 absent:Bool
 set:List (Int×Int)
variable {d:List (List Tm)}(l:List Tm)(u t:Tm)
structure Nf where
 kind:Int
 path:ByteArray
 (place number left right:Int)
variable {i:Nf}
structure Sk where
 path:ByteArray
 (place inf:Int)
structure An where
 found:Bool
 sel:List Sl
 infs:List Nf
 skips:List Sk
instance:DecidableEq Ver:=fun x y=>decidable_of_iff (x.a=y.a/\x.b=y.b/\x.c=y.c) ⟨fun⟨h1,h2,h3⟩=>by cases x<;>simp_all,fun h=>by simp_all⟩
instance:DecidableEq Sl:=fun x y=>decidable_of_iff (x.path=y.path/\x.ver=y.ver) ⟨fun⟨h1,h2⟩=>by cases x<;>simp_all,fun h=>by simp_all⟩
instance:DecidableEq Tm:=fun x y=>decidable_of_iff (x.path=y.path/\x.absent=y.absent/\x.set=y.set) ⟨fun⟨h1,h2,h3⟩=>by cases x<;>simp_all,fun h=>by simp_all⟩
theorem uK{x y:Tm}(h1:x.path=y.path)(h2:x.absent=y.absent)(h3:x.set=y.set):x=y:=by cases x<;>simp_all
def okPart(n:Int):Prop:=0<=n/\n<=999
instance (n:Int):Decidable (okPart n):=by unfold okPart;infer_instance
def BK:Bool:=decide (okPart v.a)&&decide (okPart v.b)&&decide (okPart v.c)
def place:Int:=1000*v.b+v.c
def plc:Int:=if BK v then place v else 0
def Mc:Sl:=⟨⟨#[]⟩,⟨0,0,0⟩⟩
def AB(s:List Sl)(p:ByteArray):Option Sl:=s.find? fun x=>decide (x.path=p)
def E2(s:List Sl):Bool:=
 match s.find? (fun x=>decide (x.path=t.path))with
 |none=>t.absent
 |some x=>BK x.ver&&has t.set (place x.ver)
def BS(s:List Sl)(p:ByteArray):Bool:=s.any fun x=>decide (x.path=p)
def AT(s:List Sl):Bool:=l.all fun t=>E2 t s
def Bm(s:List Sl):Bool:=AT l s&&!l.any fun t=>!BS s t.path
def KM:List UInt8->List UInt8->Bool
 | [],[]=>false
 | [],_::_=>true
 |_::_,[]=>false
 |a::x,b::y=>decide (a<b)||(decide (a=b)&&KM x y)
def Fp(a b:ByteArray):Bool:=KM a.data.toList b.data.toList
theorem Rz:∀x,KM x x=false
 | []=>rfl
 |a::x=>by
  unfold KM;simp[Rz x]
theorem T7:∀{x y z},KM x y=true->KM y z=true->KM x z=true
 | [],[],_,h,_=>by omega
 | [],_::_,[],_,h=>by grind [KM]
 | [],_::_,_::_,_,_=>rfl
 |_::_,[],_,h,_=>by grind [KM]
 |_::_,_::_,[],_,h=>by grind [KM]
 |a::x,b::y,c::z,h1,h2=>by
  unfold KM at *
  simp only[JM,Aj,A8]at *
  rcases h1 with h1 | ⟨rfl,h1⟩
  .grind
  .rcases h2 with h2 | ⟨rfl,h2⟩
   .simp_all
   .exact .inr ⟨rfl,T7 h1 h2⟩
theorem Zy:∀{x y},KM x y=false->KM y x=false->x=y
 | [],[],_,_=>rfl
 | [],_::_,h,_=>by grind [KM]
 |_::_,[],_,h=>by grind [KM]
 |a::x,b::y,h1,h2=>by
  unfold KM at *
  simp only[Bool.or_eq_false_iff,Bool.and_eq_false_iff,decide_eq_false_iff_not]at *
  have e:a=b:=by
   grind
  subst e
  have:=Zy (x:=x) (y:=y) (by simp_all) (by simp_all)
  simp_all
theorem z8(h:a.data.toList=b.data.toList):a=b:=by
 cases a<;>simp_all
theorem DQ(a:ByteArray):Fp a a=false:=Rz _
theorem E5{c:ByteArray}(h:Fp a b=true)(k:Fp b c=true):Fp a c=true:=T7 h k
theorem JW(h:Fp a b=false)(k:Fp b a=false):a=b:=z8 (Zy h k)
theorem SM(h:Fp a b=true):a≠b:=fun e=>by grind [DQ]
theorem fN(h:Fp a b=true):Fp b a=false:=by
 grind [E5,DQ]
def Dc:Tm:=⟨t.path,t.absent,canon t.set⟩
def EB:Tm:=⟨u.path,u.absent&&t.absent,GD u.set t.set⟩
def Hs(t:Tm):List Tm->List Tm
 | []=>[Dc t]
 |u::r=>if Fp u.path t.path then u::Hs t r else if u.path=t.path then EB u t::r else Dc t::u::r
def CX:List Tm:=l.foldl (fun acc t=>Hs t acc) []
def F4:Bool:=!t.absent&&t.set.isEmpty
def FB:Bool:=t.absent&&decide (t.set=[(0,1000000)])
def A3:Option (List Tm):=if(CX l).any F4 then none else some ((CX l).filter fun t=>!FB t)
def BT:List Tm:=(A3 l).getD []
def Du:Tm:=⟨q.path,true,BU q.set⟩
def GF:List Tm:=BT [Du q]
def BJ(path:ByteArray)(pl:Int)(q:Rq):List Tm:=BT [⟨path,false,[(pl,pl+1)]⟩,Du q]
def D6(path:ByteArray)(vS:AH):List Tm:=BT [⟨path,false,BU vS⟩]
def Dj(p:ByteArray):Option Tm:=l.find? fun t=>decide (t.path=p)
def AE(p:ByteArray):List Tm:=l.filter fun t=>!decide (t.path=p)
def CG(a b:Tm):Tm:=⟨a.path,a.absent||b.absent,EQ a.set b.set⟩
def DS(p:ByteArray):Option (Tm×List Tm):=match A3 l with
 |none=>none
 |some c=>match Dj c p with
  |none=>none
  |some t=>some (t,AE c p)
def AQ(a b:List Tm)(p:ByteArray):List Tm×Int:=
 match DS a p,DS b p with
 |some (t,r),some (u,m)=>match A3 (r++m++[CG t u])with
  |some o=>(o,0)
  |none=>([],8)
 |_,_=>([],1)
def BM(lo:Option ByteArray):List Tm->Prop
 | []=>True
 |t::r=>(∀p,lo=some p->Fp p t.path=true)/\Er t.set/\BM (some t.path) r
theorem BM.weak:∀{l:List Tm},BM lo l->BM none l
 | [],_=>trivial
 |_::_,⟨_,h2,h3⟩=>⟨fun _ h=>(by cases h),h2,h3⟩
theorem BM.low{p:ByteArray}:∀{l:List Tm},BM (some p) l->∀t∈l,Fp p t.path=true
 |t::r,⟨h1,h2,h3⟩,u,hu=>by
  rcases AF.1 hu with rfl | hu
  .simp_all
  .exact E5 (h1 p rfl) (h3.low u hu)
theorem BM.canon{lo:Option ByteArray}:∀{l:List Tm},BM lo l->∀t∈l,Er t.set
 |t::r,⟨h1,h2,h3⟩,u,hu=>by
  rcases AF.1 hu with rfl | hu
  .exact h2
  .exact h3.canon u hu
theorem BM.mono{p q:ByteArray}:∀{l:List Tm},BM (some p) l->Fp q p=true->BM (some q) l
 | [],_,_=>trivial
 |t::r,⟨h1,h2,h3⟩,h=>⟨fun _ e=>by grind [E5],h2,h3⟩
theorem MB:∀{l:List Tm} {lo:Option ByteArray} (t:Tm),BM lo l->(∀p,lo=some p->Fp p t.path=true)->BM lo (Hs t l)
 | [],lo,t,_,h=>⟨h,BG _,trivial⟩
 |u::r,lo,t,⟨h1,h2,h3⟩,h=>by
  unfold Hs;split
  .rename_i E1;exact⟨h1,h2,MB t h3 fun p e=>by simp_all⟩
  .rename_i E1;split
   .rename_i he;exact⟨h1,IG _ _,h3⟩
   .rename_i he;refine⟨h,BG _,fun p e=>?_,h2,h3⟩;cases e
    have:Fp u.path t.path=false:=by simp_all
    cases hb:Fp t.path u.path with
    |true=>exact hb
    |false=>grind [JW]
theorem Pa:∀(l acc:List Tm),BM none acc->BM none (l.foldl (fun acc t=>Hs t acc) acc)
 | [],_,h=>h
 |t::l,acc,h=>Pa l _ (MB t h fun _ e=>by cases e)
theorem DE:BM none (CX l):=Pa l [] trivial
theorem EE(r:List Tm)(p:ByteArray):Dj (t::r) p=if t.path=p then some t else Dj r p:=by
 grind [Dj]
theorem JZ{p q:ByteArray}{l:List Tm}(h:BM (some p) l)(hq:Fp p q=false):Dj l q=none:=by
 grind [Dj,BM.low]
def RX(o:Option Tm)(t:Tm):Tm:=match o with | none=>Dc t | some u=>EB u t
theorem QH(o:Option Tm)(t:Tm)(h:∀u,o=some u->u.path=t.path):(RX o t).path=t.path:=by
 cases o with
 |none=>rfl
 |some u=>exact h u rfl
theorem Lk{l:List Tm}{p:ByteArray}{u:Tm}(h:Dj l p=some u):u.path=p:=by
 have:=FM h;simp_all
theorem G1{l:List Tm}{p:ByteArray}{u:Tm}(h:Dj l p=some u):u∈l:=Bn h
theorem Tq:∀{l:List Tm} {lo:Option ByteArray} (t:Tm) (p:ByteArray),BM lo l->Dj (Hs t l) p=if t.path=p then some (RX (Dj l p) t)else Dj l p
 | [],lo,t,p,_=>by
  grind [Hs,Dc,Dj,RX]
 |u::r,lo,t,p,⟨h1,h2,h3⟩=>by
  unfold Hs;split
  .rename_i E1;rw[EE,EE,Tq t p h3]
   grind [SM]
  grind [EE,EB,RX,Dc,JZ]
def Kf(o:Option Tm)(t:Tm):Option Tm:=if t.path=p then some (RX o t)else o
theorem Rt(p:ByteArray):∀(l acc:List Tm),BM none acc->Dj (l.foldl (fun acc t=>Hs t acc) acc) p=l.foldl (Kf p) (Dj acc p)
 | [],_,_=>rfl
 |t::l,acc,h=>by
  rw[GJ,Rt p l _ (MB t h fun _ e=>by cases e),Tq t p h];rfl
theorem Ja(p:ByteArray):Dj (CX l) p=l.foldl (Kf p) none:=Rt p l [] trivial
theorem MV:∀{a b:List Tm} {lo:Option ByteArray},BM lo a->BM lo b->(∀p,Dj a p=Dj b p)->a=b
 | [],[],_,_,_,_=>rfl
 | [],z::s,_,_,_,h=>by have:=h z.path;rw[EE,AX rfl]at this;cases this
 |z::s,[],_,_,_,h=>by have:=h z.path;rw[EE,AX rfl]at this;cases this
 |y::r,z::s,lo,⟨f1,f2,f3⟩,⟨g1,g2,g3⟩,h=>by
  have e:y=z:=by
   have a1:=h y.path;have a2:=h z.path
   grind [EE,BM.low,G1,E5,DQ]
  subst e
  congr 1
  refine MV f3 g3 fun p=>?_;have hp:=h p
  grind [EE,JZ,DQ]
theorem BM.filter(q:Tm->Bool):∀{l:List Tm} {lo:Option ByteArray},BM lo l->BM lo (l.filter q)
 | [],_,_=>trivial
 |t::r,lo,⟨h1,h2,h3⟩=>by
  have ih:=BM.filter q h3;rw[List.filter_cons];split
  .exact⟨h1,h2,ih⟩
  .cases lo<;>grind [BM.weak,BM.mono]
theorem GT{l:List Tm}{t:Tm}(h:BM lo l):t∈l↔Dj l t.path=some t:=by
 constructor
 .induction l generalizing lo with
  |nil=>simp_all
  |cons u r ih=>
   intro ht;rw[EE];rcases AF.1 ht with rfl | ht
   .simp_all
   .have:=BM.low h.2.2 t ht
    rw[AI (SM this)];exact ih h.2.2 ht
 .exact G1
def CW(o:Option Sl):Bool:=match o with | none=>t.absent | some x=>BK x.ver&&has t.set (place x.ver)
theorem lJ(s:List Sl):E2 t s=CW t (AB s t.path):=by
 unfold E2 CW AB;rfl
theorem JY{p:ByteArray}{x:Sl}(h:AB s p=some x):x.path=p:=by
 have:=FM h;simp_all
theorem GS{p:ByteArray}{x:Sl}(h:AB s p=some x):x∈s:=Bn h
theorem J5{p:ByteArray}:BS s p=(AB s p).isSome:=by
 grind [BS,AB]
theorem bO(o:Option Sl):CW (Dc t) o=CW t o:=by
 unfold CW Dc;grind [En]
theorem Y6(o:Option Sl):CW (EB u t) o=(CW u o&&CW t o):=by
 unfold CW EB;cases o<;>grind [M4]
theorem NM(o:Option Sl):CW (CG u t) o=(CW u o||CW t o):=by
 unfold CW CG;cases o<;>grind [gF]
def fw(o:Option Sl)(l:List Tm):Bool:=l.all fun t=>!decide (t.path=p)||CW t o
theorem J0(p:ByteArray)(o:Option Sl):∀(l:List Tm) (a:Option Tm),(∀u,a=some u->u.path=p) ->
  (l.foldl (Kf p) a=none↔a=none/\l.all (fun t=>!decide (t.path=p))=true)/\(∀u,l.foldl (Kf p) a=some u->u.path=p/\CW u o=((match a with | none=>true | some b=>CW b o)&&fw p o l))
 | [],a,ha=>by
  grind [fw]
 |t::l,a,ha=>by
  rw[GJ]
  by_cases e:t.path=p
  .have hs:Kf p a t=some (RX a t):=by grind [Kf]
   rw[hs];have ih:=J0 p o l (some (RX a t)) (fun u h=>by grind [QH])
   grind [fw,RX,bO,Y6]
  .have hs:Kf p a t=a:=by grind [Kf]
   rw[hs];have ih:=J0 p o l a ha
   grind [fw]
theorem Bq{l:List Tm}:AT l s=true↔∀t∈l,CW t (AB s t.path)=true:=by
 grind [AT,lJ]
theorem LX(s:List Sl):AT (CX l) s=AT l s:=by
 rw[Dh,Bq,Bq];constructor
 .intro h t ht
  have:=J0 t.path (AB s t.path) l none (fun _ e=>by cases e)
  rw[<-Ja]at this;cases e:Dj (CX l) t.path<;>grind [G1,fw]
 .intro h u hu;have e:=(GT (DE l)).1 hu
  have:=J0 u.path (AB s u.path) l none (fun _ e=>by cases e)
  grind [Ja,fw]
theorem cn{t:Tm}(h:F4 t=true)(o:Option Sl):CW t o=false:=by
 unfold F4 at h;simp only[Aj,EI,L0]at h;unfold CW
 grind [has]
def Gt(s:List Sl):Prop:=∀x∈s,BK x.ver=true
theorem FY{v:Ver}(h:BK v=true):0<=v.a/\v.a<=999/\0<=v.b/\v.b<=999/\0<=v.c/\v.c<=999:=by
 unfold BK at h;simp only[Aj]at h;obtain⟨⟨a,b⟩,c⟩:=h;obtain⟨a1,a2⟩:=Ed a;obtain⟨b1,b2⟩:=Ed b;obtain⟨c1,c2⟩:=Ed c<;>simp_all
theorem JC{v:Ver}(h:BK v=true):0<=place v/\place v<1000000:=by
 have:=FY h;grind [place]
theorem U8{t:Tm}(h:FB t=true)(hs:Gt s):CW t (AB s t.path)=true:=by
 unfold FB at h;simp only[Aj,A8]at h;unfold CW;cases e:AB s t.path with
 |none=>exact h.1
 |some x=>
  have:=hs x (GS e)
  grind [JC,has,BP]
theorem Da{l:List Tm}(hs:Gt s):AT l s=(match A3 l with | none=>false | some c=>AT c s):=by
 unfold A3;split
 .rename_i h;split at h
  .rename_i hn;rw[<-LX,A2]
   grind [Bq,cn]
  simp_all
 .rename_i c h;split at h
  .cases h
  .rename_i hn;cases h;rw[<-LX,Dh,Bq,Bq]
   grind [U8]
theorem Hq(a b:List Tm)(s:List Sl):AT (a++b) s=(AT a s&&AT b s):=by grind [AT]
theorem EZ{l c:List Tm}(h:A3 l=some c):BM none c:=by
 grind [A3,BM.filter,DE]
theorem GZ{l r:List Tm}{p:ByteArray}{t:Tm}(hs:Gt s)(h:DS l p=some (t,r)):AT l s=(CW t (AB s p)&&AT r s)/\t.path=p:=by
 unfold DS at h;cases hc:A3 l with
 |none=>simp_all
 |some c=>
  rw[hc]at h;dsimp only at h;cases hf:Dj c p with
  |none=>simp_all
  |some u=>
   rw[hf]at h;cases h;have hp:=Lk hf;refine⟨?_,hp⟩;rw[Da hs,hc];dsimp only;rw[Dh,Aj,Bq,Bq];constructor
   .intro h
    have:=h t (G1 hf)
    rw[hp]at this;exact⟨this,fun v hv=>h v (B6.1 hv).1⟩
   .intro⟨h1,h2⟩ v hv
    by_cases e:v.path=p
    .have:=(GT (EZ hc)).1 hv
     simp_all
    .exact h2 v (B6.2 ⟨hv,by simp[e]⟩)
theorem UF{a b o:List Tm}{p:ByteArray}(hs:Gt s)(h:AQ a b p=(o,0))(hv:AT o s=true):AT a s=true\/AT b s=true:=by
 unfold AQ at h;cases h1:DS a p with
 |none=>simp_all
 |some x=>
  cases h2:DS b p with
  |none=>simp_all
  |some y=>
   obtain⟨t,r⟩:=x;obtain⟨u,m⟩:=y;rw[h1,h2]at h;dsimp only at h;cases hc:A3 (r++m++[CG t u])with
   |none=>simp_all
   |some c=>
    rw[hc]at h
    have:c=o:=by simp_all
    subst this;have e:=Da (l:=r++m++[CG t u]) hs;rw[hc]at e;dsimp only at e;rw[hv,Hq,Hq]at e;simp only[Aj]at e;obtain⟨⟨e1,e2⟩,e3⟩:=e;obtain⟨va,pa⟩:=GZ hs h1;obtain⟨vb,pb⟩:=GZ hs h2;have e3:=Bq.1 e3 _ (AD.2 rfl)
    grind [CG,NM]
theorem QD{l:List Tm}(hs:Gt s)(D8:BT l≠[]):AT (BT l) s=AT l s:=by
 grind [Da,BT]
-- paths
def Ez:Bool:=decide (97<=c)&&decide (c<=122)
def Ml:Bool:=decide (65<=c)&&decide (c<=90)
def Co:Bool:=decide (48<=c)&&decide (c<=57)
def FU:Bool:=Ez c||Ml c||Co c||decide (c=95)
def ca:List UInt8:=[32,97,110,100,32,97,110,121,32,97,115,32,98,111,111,108,32,100,101,112,114,101,99,97,116,101,100,32,101,108,115,101,32,101,120,112,111,114,116,32,102,97,108,115,101,32,102,110,32,102,111,108,100,32,102,114,111,109,32,105,102,32,105,109,112,111,114,116,32,105,110,32,105,110,116,32,108,101,110,103,116,104,32,108,101,116,32,108,105,115,116,32,109,97,116,99,104,32,109,111,100,117,108,101,32,110,111,110,101,32,110,111,116,32,111,114,32,116,101,120,116,32,116,104,101,110,32,116,114,117,101,32,116,121,112,101,32,117,115,101,32]
def PF:List UInt8->List UInt8->Bool
 | [],_=>true
 |_::_,[]=>false
 |a::x,b::y=>decide (a=b)&&PF x y
def oh(x:List UInt8):List UInt8->Bool
 | []=>PF x []
 |b::y=>PF x (b::y)||oh x y
def Vm(s:List UInt8):Bool:=oh (32::(s++[32])) ca
def GE(s:List UInt8):Bool:=!s.isEmpty&&decide (s.length<=32)&&Ez (s.headD 0)&&s.all FU&&!Vm s
def HD(s:List UInt8):Bool:=GE s&&s.all fun c=>Ez c||Co c
def DX(s:List UInt8):Int:=s.foldl (fun n c=>10*n+((c.toNat:Int)-48)) 0
def Gz(s:List UInt8):Option Int:=match s with
 |c::r=>if c=118 then(if r.isEmpty||decide (3<r.length)||(decide (1<r.length)&&decide (r.headD 0=48))||!r.all Co then none else some (DX r))else none
 | []=>none
def CA(c:UInt8):List UInt8->List (List UInt8)
 | []=>[[]]
 |b::r=>if b=c then []::CA c r else match CA c r with
  | []=>[[b]]
  |x::l=>(b::x)::l
def Qw(p:List UInt8):Option Int:=match Gz ((CA 47 p).getLastD [])with
 |none=>none
 |some n=>if 64<p.length||(CA 47 p).length<2 then none else if(CA 47 p).all HD then some n else none
def Bj:Option Int:=Qw p.data.toList
-- indexes
def Hd(before:Option ByteArray)(q:Rq):Int:=
 if(Bj q.path).isNone then 4 else if q.set.isEmpty||!decide (q.set=canon q.set)||(match before with | some b=>!Fp b q.path | none=>false)then 1 else 0
def D2(before:Option ByteArray):List Rq->Int
 | []=>0
 |q::r=>if Hd before q=0 then D2 (some q.path) r else Hd before q
def AL(l:List Rq):Int:=if 16<l.length then 7 else D2 none l
def Ei(s:ByteArray):Bool:=decide (s.size=0)||decide (s.size=32)
def CL:Int:=match Bj r.path with
 |none=>4
 |some m=>if !BK r.ver||!decide (r.ver.a=m)then 2 else if AL r.reqs≠0 then AL r.reqs else if Ei r.arch&&Ei r.ifc&&Ei r.cert then 0 else 1
def Gd(a b:Int):Int:=if a<b then -1 else if b<a then 1 else 0
def Lc(a b:ByteArray):Int:=if Fp a b then -1 else if Fp b a then 1 else 0
def I6(a b:Ver):Int:=if Gd a.a b.a≠0 then Gd a.a b.a else if Gd a.b b.b≠0 then Gd a.b b.b else Gd a.c b.c
def IA(a b:Rl):Int:=if Lc a.path b.path≠0 then Lc a.path b.path else I6 a.ver b.ver
def Cq:Sl:=⟨r.path,r.ver⟩
def B5(before:Option Rl):List Rl->Int
 | []=>0
 |r::l=>if CL r≠0 then CL r else match before with
  |none=>B5 (some r) l
  |some b=>if Cq b=Cq r then 5 else if 0<IA b r then 1 else B5 (some r) l
def Av(l:List Rl):Int:=if 256<l.length then 7 else B5 none l
def Bo(x:List Rl)(y:Sl):Option Rl:=if Av x≠0 then none else x.find? fun r=>decide (Cq r=y)
def Io(x:List Rl)(p:ByteArray):List Rl:=if Av x≠0 then []else x.filter fun r=>decide (r.path=p)
def A4(x:List Rl)(p:ByteArray):AH:=canon (((Io x p).filter fun r=>!r.yanked).map fun r=>(plc r.ver,plc r.ver+1))
def KK(before:Option ByteArray):List Sl->Bool
 | []=>true
 |y::r=>(match before with |some b=>Fp b y.path |none=>true)&&KK (some y.path) r
def Bp(s:List Sl):Bool:=KK none s
-- solutions
def FN(x:List Rl):List Sl->Option (List Rl)
 | []=>some []
 |y::s=>match Bo x y with
  |none=>none
  |some r=>match FN x s with
   |none=>none
   |some l=>some (r::l)
def B9(l:List Rl)(q:Rq):Bool:=match l.find? (fun r=>decide (r.path=q.path))with
 |none=>true
 |some r=>!has q.set (plc r.ver)
def Fe(l:List Rl)(p:ByteArray):List Rq:=match l.find? (fun r=>decide (r.path=p))with
 |none=>[]
 |some r=>r.reqs
def Fr(l:List Rl):Nat->List Rq->List ByteArray->List ByteArray
 |0,_,d=>d
 |_+1,[],d=>d
 |n+1,q::t,d=>if d.any (fun p=>decide (p=q.path))then Fr l n t d else Fr l n (t++Fe l q.path) (d++[q.path])
def Hi(l:List Rl)(roots:List Rq):Nat:=roots.length+(l.map fun r=>r.reqs.length).foldl (·+·) 0+1
def Db(x:List Rl)(roots:List Rq)(s:List Sl):Int:=
 if Av x≠0 then 1 else if !Bp s then 1 else match FN x s with
  |none=>6
  |some l=>if l.any (fun r=>r.reqs.any (B9 l))then 17 else if roots.any (B9 l)then 17 else
   if(Fr l (Hi l roots) roots []).length<l.length then 8 else 0
-- derivations
def Di(x:List Rl)(p:ByteArray)(pl:Int):Option Rl:=x.find? fun r=>decide (r.path=p)&&decide (plc r.ver=pl)
def mt:ByteArray:=⟨#[]⟩
def DG(l:List α)(i:Int):Option α:=if i<0 then none else l[i.toNat]?
def Oo:Option (List Tm):=if l.isEmpty then none else some l
def AM(x:List Rl)(roots:List Rq)(d:List (List Tm))(i:Nf):Option (List Tm):=
 if i.kind=0 then
  if i.path=mt/\i.place=0/\i.left=0/\i.right=0 then(DG roots i.number).map GF else none
 else if i.kind=1 then
  if i.left=0/\i.right=0 then match Di x i.path i.place with
   |none=>none
   |some r=>match DG r.reqs i.number with
    |none=>none
    |some q=>Oo (BJ i.path i.place q)
  else none
 else if i.kind=2 then
  if i.place=0/\i.number=0/\i.left=0/\i.right=0 then Oo (D6 i.path (A4 x i.path))else none
 else if i.kind=3 then
  if i.place=0/\i.number=0 then match DG d i.left,DG d i.right with
   |some a,some b=>if(AQ a b i.path).2=0 then some (AQ a b i.path).1 else none
   |_,_=>none
  else none
 else none
def BH(x:List Rl)(roots:List Rq):List Nf->List (List Tm)->Option (List (List Tm))
 | [],d=>some d
 |i::l,d=>match AM x roots d i with
  |none=>none
  |some t=>BH x roots l (d++[t])
def AZ(x:List Rl)(roots:List Rq)(l:List Nf):List (List Tm)×Int:=
 if Av x≠0\/AL roots≠0 then([],1)else if 65536<l.length then([],7)else match BH x roots l []with
  |none=>([],18)
  |some d=>(d,0)
def EP(d:List (List Tm)):Bool:=match d.getLast? with | some []=>true | _=>false
def Gk(x:List Rl)(roots:List Rq)(l:List Nf):Int:=
 if(AZ x roots l).2≠0 then(AZ x roots l).2 else if EP (AZ x roots l).1 then 0 else 18
-- decisions
def CE(before:List Sl):List Rq->Option ByteArray->Option ByteArray
 | [],acc=>acc
 |q::l,acc=>CE before l (if BS before q.path then acc else match acc with
  |none=>some q.path
  |some p=>if Fp q.path p then some q.path else some p)
def DF(needs:List Rq)(before:List Sl):Option ByteArray:=CE before needs none
structure WT where
 before:List Sl
 needs:List Rq
 rel:Rl
def D3(x:List Rl)(s:List Sl):Nat->List Sl->List Rq->List WT×Bool
 |0,_,_=>([],true)
 |n+1,before,needs=>match DF needs before with
  |none=>([],true)
  |some p=>match AB s p with
   |none=>([],false)
   |some y=>match Bo x y with
    |none=>([],false)
    |some r=>(⟨before,needs,r⟩::(D3 x s n (before++[y]) (needs++r.reqs)).1,(D3 x s n (before++[y]) (needs++r.reqs)).2)
def visits(x:List Rl)(roots:List Rq)(s:List Sl):List WT×Bool:=D3 x s (s.length+1) [] roots
-- answers
def DJ(d:List (List Tm))(v:WT):List Rl->List Sk->List Sk×Bool
 | [],k=>(k,true)
 |o::x,k=>
  if !decide (o.path=v.rel.path)||o.yanked||!decide (plc o.ver<plc v.rel.ver)then DJ d v x k else
  if v.needs.any (fun q=>decide (q.path=v.rel.path)&&!has q.set (plc o.ver))then DJ d v x k else
  match k with
  | []=>([],false)
  |y::k'=>if !decide (y.path=v.rel.path)||!decide (y.place=plc o.ver)then([],false)else match DG d y.inf with
   |none=>([],false)
   |some t=>if Bm t (v.before++[Cq o])then DJ d v x k' else([],false)
def Ci(x:List Rl)(d:List (List Tm))(a:Bool×List Sk)(v:WT):Bool×List Sk:=
 (a.1&&(DJ d v x a.2).2&&!v.rel.yanked,(DJ d v x a.2).1)
def DW(x:List Rl)(roots:List Rq)(a:An):Int:=
 if(AZ x roots a.infs).2≠0 then(AZ x roots a.infs).2 else
 if a.found=false then(if !a.sel.isEmpty||!a.skips.isEmpty||!EP (AZ x roots a.infs).1 then 18 else 0)else
 if Db x roots a.sel≠0 then 18 else
 if(((visits x roots a.sel).1.foldl (Ci x (AZ x roots a.infs).1) (true,a.skips)).1&&((visits x roots a.sel).1.foldl (Ci x (AZ x roots a.infs).1) (true,a.skips)).2.isEmpty)then 0 else 18
-- the example
def bs(l:List UInt8):ByteArray:=⟨⟨l⟩⟩
-- the order of releases
theorem Kz{a b:Int}(h:Gd a b=0):a=b:=by
 grind [Gd]
theorem Xa{a b:Int}(h:Gd a b<0):a<b:=by
 grind [Gd]
theorem VO(h:Lc a b=0):a=b:=by
 grind [Lc,JW]
theorem oY(h:Lc a b<0):Fp a b=true:=by
 grind [Lc]
def rY(a b:Ver):Prop:=a.a<b.a\/(a.a=b.a/\(a.b<b.b\/(a.b=b.b/\a.c<b.c)))
def ii(a b:Rl):Prop:=Fp a.path b.path=true\/(a.path=b.path/\rY a.ver b.ver)
theorem o0{a b:Ver}(h:I6 a b<0):rY a b:=by
 unfold I6 at h;split at h
 .exact .inl (Xa h)
 .rename_i h1;have h1:=Kz (Cc.1 h1);split at h
  .exact .inr ⟨h1,.inl (Xa h)⟩
  .rename_i h2;exact .inr ⟨h1,.inr ⟨Kz (Cc.1 h2),Xa h⟩⟩
theorem fY{a b:Ver}(h:I6 a b=0):a=b:=by
 unfold I6 at h;split at h
 .omega
 .rename_i h1;have h1:=Kz (Cc.1 h1);split at h
  .omega
  .rename_i h2;have h2:=Kz (Cc.1 h2);have h3:=Kz h;cases a<;>simp_all
theorem VP{a b:Rl}(h:IA a b=0):Cq a=Cq b:=by
 grind [IA,VO,fY,Cq]
theorem oZ{a b:Rl}(h:IA a b<0):ii a b:=by
 unfold IA at h;split at h
 .exact .inl (oY h)
 .rename_i h1;exact .inr ⟨VO (Cc.1 h1),o0 h⟩
theorem ik{a b c:Ver}(h:rY a b)(k:rY b c):rY a c:=by grind [rY]
theorem ij{a b c:Rl}(h:ii a b)(k:ii b c):ii a c:=by
 rcases h with h | ⟨h1,h2⟩
 .rcases k with k | ⟨k1,k2⟩
  .exact .inl (E5 h k)
  .exact .inl (k1▸h)
 .rcases k with k | ⟨k1,k2⟩
  .exact .inl (h1▸k)
  .exact .inr ⟨h1.trans k1,ik h2 k2⟩
theorem Ol{a b:Rl}(h:ii a b)(k:Cq a=Cq b):False:=by
 unfold Cq at k;simp only[Sl.mk.injEq]at k;rcases h with h | ⟨_,h⟩<;>grind [DQ,rY]
-- a valid index
structure JP(r:Rl):Prop where
 maj:Bj r.path=some r.ver.a
 val:BK r.ver=true
 reqs:AL r.reqs=0
theorem bj{r:Rl}(h:CL r=0):JP r:=by
 grind [CL,JP.mk]
theorem OX:∀{l:List Rl} {b:Option Rl},B5 b l=0->(∀r∈l,JP r)/\(l.Pairwise ii/\∀c,b=some c->∀r∈l,ii c r)
 | [],b,_=>⟨fun _ h=>(by cases h),.nil,fun _ _ _ h=>(by cases h)⟩
 |r::l,b,h=>by
  unfold B5 at h;split at h
  .omega
  .rename_i h1;have hr:=bj (Cc.1 h1);have go:B5 (some r) l=0->(∀c,b=some c->ii c r)->(∀z∈r::l,JP z)/\((r::l).Pairwise ii/\∀c,b=some c->∀z∈r::l,ii c z):=fun h hc=>by
    obtain⟨i1,i2,i3⟩:=OX h<;>grind [ij,List.Pairwise.cons]
   grind [oZ,VP]
theorem BC{l:List Rl}(h:Av l=0):(∀r∈l,JP r)/\l.Pairwise ii:=by
 grind [Av,OX]
theorem T0{l:List Rl}(h:l.Pairwise ii){a b:Rl}(ha:a∈l)(hb:b∈l)(hk:Cq a=Cq b):a=b:=by
 induction h<;>grind [Ol]
theorem X2{a b:Ver}(ha:BK a=true)(hb:BK b=true)(h1:a.a=b.a)(h2:place a=place b):a=b:=by
 have:=FY ha
 have:=FY hb
 unfold place at h2;have e1:a.b=b.b:=by omega
 have e2:a.c=b.c:=by omega
 cases a<;>simp_all
theorem JP.plc{r:Rl}(h:JP r):plc r.ver=place r.ver:=by grind [plc,JP.val]
theorem eQ{l:List Rl}(h:(∀r∈l,JP r)/\l.Pairwise ii){a b:Rl}(ha:a∈l)(hb:b∈l)(h1:a.path=b.path)(h2:place a.ver=place b.ver):a=b:=by
 grind [T0,Cq,X2,JP.maj,JP.val]
theorem CH{r:Rl}(h:Bo x y=some r):Av x=0/\r∈x/\Cq r=y:=by
 grind [Bo]
structure ru(x:List Rl)(roots:List Rq)(s:List Sl):Prop where
 ix:Av x=0
 inc:Bp s=true
 fnd:∀y∈s,∃r,Bo x y=some r/\r.yanked=false
 root:∀q∈roots,∃y,AB s q.path=some y/\has q.set (place y.ver)=true
 req:∀y∈s,∀r,Bo x y=some r->∀q∈r.reqs,∃z,AB s q.path=some z/\has q.set (place z.ver)=true
theorem Ls:∀{s:List Sl} {b:Option ByteArray},KK b s=true->s.Pairwise (fun a b=>Fp a.path b.path=true)/\∀c,b=some c->∀y∈s,Fp c y.path=true
 | [],_,_=>⟨.nil,fun _ _ _ h=>by cases h⟩
 |y::r,b,h=>by
  unfold KK at h;simp only[Aj]at h;obtain⟨h1,h2⟩:=h;obtain⟨i1,i2⟩:=Ls h2<;>grind [E5,List.Pairwise.cons]
theorem NJ(h:s.Pairwise (fun a b=>Fp a.path b.path=true))(hy:y∈s):AB s y.path=some y:=by
 induction h<;>grind [AB,SM]
theorem Rs(h:Bp s=true)(hy:y∈s):AB s y.path=some y:=NJ (Ls h).1 hy
theorem ru.valid(h:ru x roots s):Gt s:=fun y hy=>by
 obtain⟨r,h1,_⟩:=h.fnd y hy;obtain⟨_,h2,h3⟩:=CH h1
 have:=((BC h.ix).1 r h2).val
 rw[<-h3];exact this
theorem G5{x:List Rl}:∀{s:List Sl} {l:List Rl},FN x s=some l->l.map Cq=s/\(∀r∈l,Bo x (Cq r)=some r)/\∀y∈s,∃r∈l,Bo x y=some r
 | [],l,h=>by cases h<;>simp_all
 |y::s,l,h=>by
  unfold FN at h;split at h
  .cases h
  .rename_i r hr;split at h
   .cases h
   .rename_i l' hl;cases h;obtain⟨i1,i2,i3⟩:=G5 hl;have hk:=(CH hr).2.2;simp_all
theorem Qm:∀(l:List Rl) (p:ByteArray),(l.find? fun r=>decide (r.path=p)).map Cq=AB (l.map Cq) p
 | [],_=>rfl
 |r::l,p=>by
  unfold AB;rw[HQ,Bv,HQ];show _=(match decide (r.path=p)with | true=>some (Cq r) | false=>_);cases h:decide (r.path=p)with
  |true=>rfl
  |false=>exact Qm l p
theorem Uh{l:List Rl}(hx:Av x=0)(hl:FN x s=some l){q:Rq}(h:B9 l q=false):∃y,AB s q.path=some y/\has q.set (place y.ver)=true:=by
 obtain⟨h1,h2,h3⟩:=G5 hl;unfold B9 at h;have hk:=Qm l q.path;split at h
 .cases h
 .rename_i r hr;rw[hr,h1]at hk;refine⟨Cq r,hk.symm,?_⟩;have hm:=(CH (h2 r (Bn hr))).2.1;show has q.set (place r.ver)=true;rw[<-((BC hx).1 r hm).plc];simp_all
structure NW(x:List Rl)(roots:List Rq)(s:List Sl)(l:List Rl):Prop where
 ix:Av x=0
 inc:Bp s=true
 sel:FN x s=some l
 rl:∀r∈l,∀q∈r.reqs,B9 l q=false
 rt:∀q∈roots,B9 l q=false
 min:l.length<=(Fr l (Hi l roots) roots []).length
theorem cQ(h:Db x roots s=0):∃l,NW x roots s l:=by
 unfold Db at h;split at h
 .cases h
 .rename_i h1;split at h
  .cases h
  .rename_i h2;split at h
   .cases h
   .rename_i l hl;split at h
    .cases h
    .rename_i h3;split at h
     .cases h
     .rename_i h4;split at h
      .cases h
      .rename_i h5;refine⟨l,Cc.1 h1,by simp_all,hl,fun r hr q hq=>?_,fun q hq=>?_,by omega⟩
       all_goals grind
-- soundness
theorem RG{q:Rq}(h:∃y,AB s q.path=some y/\has q.set (place y.ver)=true):CW (Du q) (AB s q.path)=false:=by
 grind [CW,Du,Fx]
theorem mH{l:List Tm}(hs:Gt s)(hn:A3 l≠none)(hv:AT l s=false):AT (BT l) s=false:=by
 grind [Da,BT]
theorem ZM{l:List Tm}(hs:Gt s){o:List Tm}(h:Oo (BT l)=some o)(hv:AT l s=false):AT o s=false:=by
 grind [Oo,QD]
theorem cN:A3 [Du q]≠none:=by
 grind [A3,CX,Hs,F4,Dc,Du]
theorem Uj{l:List α}{i:Int}{a:α}(h:DG l i=some a):a∈l:=by
 grind [DG]
theorem XA(hs:ru x roots s)(hd:∀t∈d,AT t s=false){o:List Tm}(h:AM x roots d i=some o):AT o s=false:=by
 have hv:=hs.valid;unfold AM at h;split at h
 .split at h
  .rw[B3]at h;obtain⟨q,hq,rfl⟩:=h;refine mH hv (cN q) ?_;rw[A2];intro hw
   have:=Bq.1 hw _ (AD.2 rfl)
   rw[show(Du q).path=q.path from rfl,RG (hs.root q (Uj hq))]at this;simp_all
  simp_all
 .split at h
  .split at h
   .split at h
    .cases h
    .rename_i r hr;split at h
     .cases h
     .rename_i q hq;refine ZM hv h ?_;rw[A2];intro hw;have h1:=Bq.1 hw _ (Ah ..);have h2:=Bq.1 hw (Du q) aa1;rw[show(Du q).path=q.path from rfl]at h2;dsimp only at h1;cases hf:AB s i.path with
      |none=>grind [CW]
      |some y=>
       rw[hf]at h1;unfold CW at h1;simp only[Aj]at h1;have hp:place y.ver=i.place:=by
        grind [has,BP]
       have hy:=GS hf;have zF:=JY hf;obtain⟨r',e1,e2⟩:=hs.fnd y hy;obtain⟨_,m1,k1⟩:=CH e1;have Za:r∈x:=Bn hr;have bR:=FM hr;simp only[Aj,A8]at bR;have Gv:=BC hs.ix
       have:r'=r:=by
        refine eQ Gv m1 Za ?_ ?_
        .rw[bR.1,<-zF,<-k1];rfl
        .rw[<-(Gv.1 r Za).plc,bR.2,<-hp,<-k1];rfl
       subst this
       have:=hs.req y hy r' e1 q (Uj hq)
       grind [RG]
   simp_all
  .split at h
   .split at h
    .refine ZM hv h ?_;rw[A2];intro hw;have h1:=Bq.1 hw _ (AD.2 rfl);dsimp only at h1;cases hf:AB s i.path with
     |none=>grind [CW]
     |some y=>
      rw[hf]at h1;unfold CW at h1;simp only[Aj]at h1;have hy:=GS hf;have zF:=JY hf;obtain⟨r,e1,e2⟩:=hs.fnd y hy;obtain⟨_,m1,k1⟩:=CH e1;have Gv:=BC hs.ix;have h1:=h1.2;rw[Fx]at h1;have Y2:=JC (hv y hy)
      have:has (A4 x i.path) (place y.ver)=true:=by
       unfold A4;rw[En];unfold has;simp only[Y2,decide_true,Bool.true_and,Bu,Ar,B6];refine⟨(plc r.ver,plc r.ver+1),⟨r,⟨?_,by simp_all⟩,rfl⟩,?_⟩
       .unfold Io;simp only[hs.ix,ne_eq,not_true,if_false,B6,m1,true_and,A8];rw[<-zF,<-k1];rfl
       .rw[(Gv.1 r m1).plc,<-k1];rw[Eo];exact⟨Ce _,by show place r.ver<place r.ver+1;omega⟩
      simp_all
    simp_all
   .split at h
    .split at h
     .split at h
      .rename_i a b ha hb;split at h
       .rename_i h0;cases h;rw[A2];intro hw;rcases UF hv (o:=(AQ a b i.path).1) (Prod.ext rfl h0) hw with hw | hw<;>grind [Uj]
       simp_all
      simp_all
     simp_all
    simp_all
theorem Mp{x:List Rl}{roots:List Rq}{s:List Sl}(hs:ru x roots s):∀{l:List Nf} {d d' : List (List Tm)},(∀t∈d,AT t s=false)->BH x roots l d=some d'->∀t∈d',AT t s=false
 | [],d,d',hd,h=>by cases h;exact hd
 |i::l,d,d',hd,h=>by
  unfold BH at h;split at h
  .cases h
  .rename_i o ho;refine Mp hs (fun t ht=>?_) h
   grind [XA]
theorem CM{α:Type}[DecidableEq α]:∀{l m:List α},l.Nodup->(∀x∈l,x∈m)->l.length<=m.length
 | [],_,_,_=>Ap _
 |a::l,m,hn,hs=>by
  rw[GK]at hn;have ha:a∈m:=hs a (Ah ..)
  have:=CM (l:=l) (m:=m.erase a) hn.2 fun x hx=>by
   grind
  grind
theorem ZO[DecidableEq α]{l m:List α}(hn:l.Nodup)(hs:∀x∈l,x∈m)(hl:m.length<=l.length):∀x∈m,x∈l:=fun x hx=>by
 apply A9;intro jz
 have:=CM (m:=m.erase x) hn fun y hy=>(List.mem_erase_of_ne (a:=y) (b:=x) (fun e=>jz (by simp_all))).2 (hs y hy)
 grind
abbrev WQ(s:List Sl):Prop:=s.Pairwise (fun a b=>Fp a.path b.path=true)
theorem bT(h:WQ s):(s.map (·.path)).Nodup:=by
 grind [SM]
-- the next path
theorem Kb(before:List Sl):∀{l:List Rq} {acc:Option ByteArray},(∀p,acc=some p->BS before p=false) ->
  (∀p,CE before l acc=some p->BS before p=false/\(acc=some p\/∃q∈l,q.path=p))/\(CE before l acc=none->acc=none/\∀q∈l,BS before q.path=true)
 | [],acc,ha=>⟨fun p h=>⟨ha p h,.inl h⟩,fun h=>⟨h,fun _ h=>(by cases h)⟩⟩
 |q::l,acc,ha=>by
  unfold CE
  have key:∀fq,(∀p,fq=some p->BS before p=false)->(∀p,fq=some p->acc=some p\/q.path=p)->(fq=none->acc=none/\BS before q.path=true) ->
    (∀p,CE before l fq=some p->BS before p=false/\(acc=some p\/∃q'∈q::l,q'.path=p))/\(CE before l fq=none->acc=none/\∀q'∈q::l,BS before q'.path=true):=by
   intro fq h1 h2 h3;obtain⟨i1,i2⟩:=Kb before (l:=l) h1<;>grind
  cases hb:BS before q.path<;>grind
theorem In{needs:List Rq}{before:List Sl}{p:ByteArray}(h:DF needs before=some p):BS before p=false/\∃q∈needs,q.path=p:=by
 obtain⟨h1,h2⟩:=(Kb before (l:=needs) (acc:=none) fun _ e=>by cases e).1 p h<;>simp_all
theorem Uf{needs:List Rq}{before:List Sl}(h:DF needs before=none):∀q∈needs,BS before q.path=true:=
 ((Kb before (l:=needs) (acc:=none) fun _ e=>by cases e).2 h).2
theorem Ln{p:ByteArray}:BS s p=true↔∃y∈s,y.path=p:=by grind [BS]
theorem E0{p:ByteArray}:BS s p=true↔p∈s.map (·.path):=by grind [Ln]
abbrev FX(v:WT):Sl:=Cq v.rel
structure rr(x:List Rl)(s:List Sl)(before:List Sl)(needs:List Rq)(vs:List WT):Prop where
 closed:∀q∈needs,BS (before++vs.map FX) q.path=true
 closedR:∀v∈vs,∀q∈v.rel.reqs,BS (before++vs.map FX) q.path=true
 mem:∀v∈vs,FX v∈s/\Bo x (FX v)=some v.rel
 nodup:((before++vs.map FX).map (·.path)).Nodup
theorem nt{x:List Rl}{s:List Sl}:∀{n:Nat} {before:List Sl} {needs:List Rq},(before.map (·.path)).Nodup->(∀y∈before,y∈s)->s.length+1<=n+before.length->(D3 x s n before needs).2=true ->
  rr x s before needs (D3 x s n before needs).1
 |0,before,needs,h1,h2,h3,_=>by
  exfalso
  have:=CM (m:=s.map (·.path)) h1 fun p hp=>by
   grind
  grind
 |n+1,before,needs,h1,h2,h3,h4=>by
  unfold D3 at h4⊢;cases hp:DF needs before with
  |none=>grind [Uf,rr.mk]
  |some p=>
   rw[hp]at h4;dsimp only at h4⊢;cases hf:AB s p with
   |none=>simp_all
   |some y=>
    rw[hf]at h4;dsimp only at h4⊢;cases hr:Bo x y with
    |none=>simp_all
    |some r=>
     rw[hr]at h4;dsimp only at h4⊢;obtain⟨g1,g2⟩:=In hp;have hy:=GS hf;have zF:=JY hf;have hk:Cq r=y:=(CH hr).2.2;have ih:=nt (x:=x) (s:=s) (n:=n) (before:=before++[y]) (needs:=needs++r.reqs) (by
       grind [E0])
      (fun z hz=>by
       grind) (by grind) h4
     have e:before++(⟨before,needs,r⟩::(D3 x s n (before++[y]) (needs++r.reqs)).1).map FX=before++[y]++(D3 x s n (before++[y]) (needs++r.reqs)).1.map FX:=by
      simp_all
     refine⟨fun q hq=>?_,fun v hv q hq=>?_,fun v hv=>?_,?_⟩
     all_goals grind [rr.closed,rr.closedR,rr.mem,rr.nodup]
theorem JL(h:(visits x roots s).2=true):rr x s [] roots (visits x roots s).1:=nt aa1 (fun _ h=>by cases h) aa1 h
theorem O1{x:List Rl}{s:List Sl}(hs:∀y∈s,∃r,Bo x y=some r)(hq:∀y∈s,∀r,Bo x y=some r->∀q∈r.reqs,∃z,AB s q.path=some z) :
  ∀{n:Nat} {before:List Sl} {needs:List Rq},(∀q∈needs,∃z,AB s q.path=some z)->(D3 x s n before needs).2=true
 |0,_,_,_=>rfl
 |n+1,before,needs,hn=>by
  unfold D3;cases hp:DF needs before with
  |none=>rfl
  |some p=>
   dsimp only;obtain⟨_,q,q1,q2⟩:=In hp;obtain⟨z,hz⟩:=hn q q1;rw[q2]at hz;rw[hz];dsimp only;obtain⟨r,hr⟩:=hs z (GS hz);rw[hr];dsimp only;refine O1 hs hq fun q hq'=>?_
   grind [GS]
-- what is needed
theorem Nc{l:List Rl}{C:List ByteArray}(hC:∀r∈l,r.path∈C->∀q∈r.reqs,q.path∈C):∀{n:Nat} {t:List Rq} {d:List ByteArray},(∀q∈t,q.path∈C)->(∀p∈d,p∈C)->∀p∈Fr l n t d,p∈C
 |0,_,_,_,hd=>by grind [Fr]
 |_+1,[],_,_,hd=>by grind [Fr]
 |n+1,q::t,d,ht,hd=>by
  unfold Fr;split
  .exact Nc hC (fun q hq=>ht q (Ai _ hq)) hd
  .refine Nc hC (fun q' hq=>?_) fun p hp=>?_
   all_goals grind [Fe]
theorem J9{l:List Rl}:∀{n:Nat} {t:List Rq} {d:List ByteArray},d.Nodup->(Fr l n t d).Nodup
 |0,_,_,hd=>by grind [Fr]
 |_+1,[],_,hd=>by grind [Fr]
 |n+1,q::t,d,hd=>by
  unfold Fr;split
  .exact J9 hd
  .rename_i h;refine J9 ?_
   grind
theorem bp{l:List Rl}(h:NW x roots s l){C:List ByteArray}(hn:C.Nodup)(hr:∀q∈roots,q.path∈C)(hC:∀y∈s,∀r,Bo x y=some r->y.path∈C->∀q∈r.reqs,q.path∈C)(hs:∀p∈C,p∈s.map (·.path)):(∀y∈s,y.path∈C)/\C.length=s.length:=by
 obtain⟨h1,h2,h3⟩:=G5 h.sel;have gO:=Nc (l:=l) (C:=C) (fun r hr hp q hq=>by
  have hk:Cq r∈s:=by grind
  grind [Cq]) (n:=Hi l roots) (t:=roots) (d:=[]) hr (fun _ h=>by cases h)
 have CD:=CM (J9 (l:=l) (n:=Hi l roots) (t:=roots) Kt) gO;have hl:l.length=s.length:=by grind
 have pV:=h.min;have AbW:=ZO hn hs (by grind);refine⟨fun y hy=>AbW _ (Ar.2 ⟨y,hy,rfl⟩),?_⟩
 have:=CM hn hs
 grind
theorem NW.fnd{l:List Rl}(h:NW x roots s l):∀y∈s,∃r,Bo x y=some r:=fun y hy=>by
 obtain⟨r,_,h⟩:=(G5 h.sel).2.2 y hy<;>simp_all
theorem NW.req{l:List Rl}(h:NW x roots s l):∀y∈s,∀r,Bo x y=some r->∀q∈r.reqs,∃z,AB s q.path=some z/\has q.set (place z.ver)=true:=fun y hy r hr q hq=>by
 obtain⟨r',h4,h5⟩:=(G5 h.sel).2.2 y hy;rw[hr]at h5;cases h5;exact Uh h.ix h.sel (h.rl r h4 q hq)
theorem NW.root{l:List Rl}(h:NW x roots s l):∀q∈roots,∃z,AB s q.path=some z/\has q.set (place z.ver)=true:=fun q hq=>Uh h.ix h.sel (h.rt q hq)
theorem NW.visits{x:List Rl}{roots:List Rq}{s:List Sl}{l:List Rl}(h:NW x roots s l):(visits x roots s).2=true:=
 O1 h.fnd (fun y hy r hr q hq=>let ⟨z,hz,_⟩:=h.req y hy r hr q hq;⟨z,hz⟩) fun q hq=>let ⟨z,hz,_⟩:=h.root q hq;⟨z,hz⟩
theorem NW.all{l:List Rl}(h:NW x roots s l):(∀y∈s,∃v∈(Go.Eng.visits x roots s).1,FX v=y)/\(Go.Eng.visits x roots s).1.length=s.length:=by
 have hr:=JL h.visits;have hu:∀{y:Sl},y∈s->AB s y.path=some y:=Rs h.inc;have key:∀y∈s,y.path∈((Go.Eng.visits x roots s).1.map FX).map (·.path)->∃v∈(Go.Eng.visits x roots s).1,FX v=y:=fun y hy hp=>by
  obtain⟨z,hz,e⟩:=Ar.1 hp;obtain⟨v,hv,rfl⟩:=Ar.1 hz;refine⟨v,hv,?_⟩;have h1:=hu (hr.mem v hv).1;simp_all
 have:=bp h (C:=((Go.Eng.visits x roots s).1.map FX).map (·.path)) (by simpa using hr.nodup) (fun q hq=>by have:=hr.closed q hq;grind [E0]) (fun y hy r Jh hp q hq=>by
  obtain⟨v,hv,e⟩:=key y hy hp;have h1:=(hr.mem v hv).2;rw[e,Jh]at h1;cases h1
  have:=hr.closedR v hv q hq;grind [E0]) (fun p hp=>by
  obtain⟨z,hz,rfl⟩:=Ar.1 hp;obtain⟨v,hv,rfl⟩:=Ar.1 hz;exact Ar.2 ⟨_,(hr.mem v hv).1,rfl⟩)
 grind
-- skips
theorem Xg{t:List Tm}{b:List Sl}(hs:Bp s=true)(hb:∀y∈b,y∈s)(h:Bm t b=true):AT t s=true:=by
 unfold Bm at h;simp only[Aj,EI,Rd]at h;obtain⟨h1,h2⟩:=h;rw[Bq]at h1⊢;intro u hu
 have:=h2 u hu
 simp only[Rc]at this;rw[J5]at this;cases hf:AB b u.path<;>grind [AB,Rs]
-- right answers
-- the first decision that differs
-- prefixes
theorem HW{x:List Rl}{roots:List Rq}:∀{l:List Nf} {d d' : List (List Tm)},BH x roots l d=some d'->d'.length=d.length+l.length
 | [],d,d',h=>by cases h;rfl
 |i::l,d,d',h=>by
  unfold BH at h;split at h
  .cases h
  .have:=HW h
   grind
theorem Fw{x:List Rl}{roots:List Rq}:∀(l m:List Nf) (d:List (List Tm)),BH x roots (l++m) d=match BH x roots l d with | none=>none | some d'=>BH x roots m d'
 | [],_,_=>rfl
 |i::l,m,d=>by
  show(match AM x roots d i with | none=>none | some t=>BH x roots (l++m) (d++[t]))=(match(match AM x roots d i with | none=>none | some t=>BH x roots l (d++[t]))with | none=>none | some d'=>BH x roots m d');cases AM x roots d i with
  |none=>rfl
  |some t=>exact Fw l m _
theorem LO{x:List Rl}{roots:List Rq}:∀{l:List Nf} {d d' : List (List Tm)},BH x roots l d=some d'->d <+: d'
 | [],d,d',h=>by cases h<;>simp_all
 |i::l,d,d',h=>by
  unfold BH at h;split at h
  .cases h
  .exact(List.prefix_append _ _).trans (LO h)
theorem Kj{l:List Nf}(h:BH x roots l []=some d)(k:Nat):BH x roots (l.take k) []=some (d.take k):=by
 rw[<-List.take_append_drop k l,Fw]at h;cases e:BH x roots (l.take k) []with
 |none=>simp_all
 |some f=>
  rw[e]at h;dsimp only at h;have h1:=HW e;have h2:=HW h;have h3:=LO h
  congr 1
  simp only[BX,Cy,SD]at h1 h2;obtain⟨z,rfl⟩:=h3
  by_cases hk:k<=l.length
  .simp_all
  .rw[Ay]at h2
   have:z=[]:=Aw aa0
   grind [List.take_of_length_le]
def Form:Prop:=A3 l=some l
theorem iU{l:List Tm}:∀(l2:List Tm),BM none (l2++l)->l.foldl (fun acc t=>Hs t acc) l2=l2++l:=by
 induction l with
 |nil=>simp_all
 |cons t r ih=>
  intro l2 h;have hi:Hs t l2=l2++[t]:=by
   have:∀(m:List Tm) (lo:Option ByteArray),BM lo (m++t::r)->Hs t m=m++[t]:=by
    intro m
    induction m with
    |nil=>
     intro lo hm;have hc:Er t.set:=hm.2.1;unfold Hs;rw[show Dc t=t from uK rfl rfl (Jp hc)];rfl
    |cons u m ihm=>
     grind [BM,BM.low,Hs]
   grind
  simp_all
theorem Qx{l:List Tm}(h:BM none l):CX l=l:=by
 grind [iU,CX]
theorem Rj{l c:List Tm}(h:A3 l=some c):Form c:=by
 grind [EZ,Form,A3,Qx,List.filter_filter]
theorem Tz:Form []:=rfl
theorem MK:Form (BT l):=by
 grind [BT,A3,Tz,Rj]
theorem NR(a b:List Tm)(p:ByteArray):Form (AQ a b p).1:=by
 grind [AQ,Rj,Tz]
theorem ZL{l o:List Tm}(h:Oo l=some o):o=l:=by grind [Oo]
theorem Zl{o:List Tm}(h:AM x roots d i=some o):Form o:=by
 unfold AM at h;split at h
 .split at h
  .rw[B3]at h;obtain⟨q,_,rfl⟩:=h;exact MK _
  simp_all
 .split at h
  .split at h
   .split at h
    .cases h
    .split at h
     .cases h
     .rw[ZL h];exact MK _
   simp_all
  .split at h
   .split at h
    .rw[ZL h];exact MK _
    simp_all
   grind [NR]
theorem NE{x:List Rl}{roots:List Rq}:∀{l:List Nf} {d d' : List (List Tm)},(∀t∈d,Form t)->BH x roots l d=some d'->∀t∈d',Form t
 | [],d,d',hd,h=>by cases h;exact hd
 |i::l,d,d',hd,h=>by
  unfold BH at h;split at h
  .cases h
  .rename_i o ho;refine NE (fun t ht=>?_) h
   grind [Zl]
theorem Jq{l:List Nf}(h:(AZ x roots l).2=0):Av x=0/\AL roots=0/\l.length<=65536/\BH x roots l []=some (AZ x roots l).1:=by
 grind [AZ]
theorem Ta{l:List Nf}(h1:Av x=0)(h2:AL roots=0)(h3:l.length<=65536)(h:BH x roots l []=some d):AZ x roots l=(d,0):=by
 grind [AZ]
-- tampering
end Go.Eng
