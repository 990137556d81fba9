/- Lemmas 1. -/
import Derived.Test.YtkjhcikodmiceaaGreatDoorUA00
namespace Go.Eng
variable {a b:ByteArray}{lo:Option ByteArray}{α:Type}(c:UInt8)(p:ByteArray)
def BE(p:Int)(s:Int×Int):Bool:=decide (s.1<=p)&&decide (p<s.2)
def has(s:List (Int×Int))(p:Int):Bool:=decide (0<=p)&&decide (p<1000000)&&s.any (BE p)
abbrev AS:=List (Int×Int)
def DY(lo:Int):AS->Prop
 | []=>True
 |y::r=>lo<=y.1/\y.1<y.2/\y.2<=1000000/\DY (y.2+1) r
abbrev D3(l:AS):Prop:=DY 0 l
def We(x:Int×Int):AS->AS
 | []=>[x]
 |y::r=>if x.2<y.1 then x::y::r else if y.2<x.1 then y::We x r else We (min x.1 y.1,max x.2 y.2) r
def OJ(x:Int×Int):Int×Int:=(max x.1 0,min x.2 1000000)
def canon:AS->AS
 | []=>[]
 |x::r=>if(OJ x).1<(OJ x).2 then We (OJ x) (canon r)else canon r
def JX(at_:Int):AS->AS
 | []=>if at_<1000000 then [(at_,1000000)]else []
 |y::r=>if at_<y.1 then(at_,y.1)::JX y.2 r else JX y.2 r
def Eh(s:AS):AS:=JX 0 (canon s)
def Px(l:List AS):AS:=canon l.flatten
def OT(l:List AS):AS:=Eh (l.map Eh).flatten
def Ou(a b:AS):AS:=Px [a,b]
def Mr(a b:AS):AS:=OT [a,b]
def sf(a b:AS):AS:=Mr a (Eh b)
def yF(a b:AS):Bool:=(sf a b).isEmpty
theorem DY.mono{lo Hh : Int}:∀{l:AS},DY lo l->Hh<=lo->DY Hh l
 | [],_,_=>trivial
 |_::_,⟨h1,h2,h3,h4⟩,h=>⟨Int.le_trans h h1,h2,h3,h4⟩
theorem DY.low{lo:Int}:∀{l:AS},DY lo l->∀y∈l,lo<=y.1/\y.1<y.2/\y.2<=1000000
 |y::r,⟨h1,h2,h3,h4⟩,z,hz=>by
  rcases AA.1 hz with rfl | hz
  .omega
  .have:=h4.low z hz
   omega
theorem DJ{p:Int}{s:Int×Int}:BE p s=true↔s.1<=p/\p<s.2:=by simp[BE]
theorem Np{lo:Int}{l:AS}(h:DY lo l){p:Int}(hp:l.any (BE p)=true):lo<=p:=by
 obtain⟨y,hy,h2⟩:=Ci.1 hp
 have:=h.low y hy
 grind [DJ]
theorem eP{lo:Int}{l:AS}(h:DY lo l){p:Int}(hp:l.any (BE p)=true):p<1000000:=by
 obtain⟨y,hy,h2⟩:=Ci.1 hp
 have:=h.low y hy
 grind [DJ]
theorem MH:∀(l:AS) {lo:Int} {x:Int×Int},DY lo l->lo<=x.1->x.1<x.2->x.2<=1000000->DY lo (We x l)
 | [],lo,x,_,h1,h2,h3=>⟨h1,h2,h3,trivial⟩
 |y::r,lo,x,⟨g1,g2,g3,g4⟩,h1,h2,h3=>by
  unfold We;split
  .exact⟨h1,h2,h3,by omega,g2,g3,g4⟩
  .split
   .exact⟨g1,g2,g3,MH r g4 ch h2 h3⟩
   .refine MH r (g4.mono ch) ?_ ?_ ?_<;>dsimp only<;>omega
theorem Nm:∀(l:AS) {lo:Int} {x:Int×Int} (p:Int),DY lo l->x.1<x.2->(We x l).any (BE p)=(BE p x||l.any (BE p))
 | [],lo,x,p,_,_=>by simp[We]
 |y::r,lo,x,p,⟨g1,g2,g3,g4⟩,h2=>by
  unfold We;split
  .simp
  .split
   .rw[D2,Nm r p g4 h2,D2,<-Bool.or_assoc,<-Bool.or_assoc,Bool.or_comm (BE p y)]
   .rw[Nm r p g4 ch,D2,<-Bool.or_assoc]
    grind [BE]
theorem BN:∀s:AS,D3 (canon s)
 | []=>trivial
 |x::r=>by
  unfold canon;split
  .rename_i h;refine MH _ (BN r) ?_ h ?_<;>simp only[OJ]<;>omega
  .exact BN r
theorem Jq:∀(s:AS) (p:Int),(canon s).any (BE p)=has s p
 | [],p=>by simp[has,canon]
 |x::r,p=>by
  have ih:=Jq r p
  grind [canon,BE,OJ,Nm,BN,has]
theorem G5{l:AS}(h:D3 l)(p:Int):has l p=l.any (BE p):=by
 unfold has;cases e:l.any (BE p)with
 |false=>simp
 |true=>have h1:0<=p:=Np h e;grind [eP]
theorem GN(s:AS)(p:Int):has (canon s) p=has s p:=by
 rw[G5 (BN s),Jq]
theorem Mh:∀{a b:AS} {lo:Int},DY lo a->DY lo b->(∀p,a.any (BE p)=b.any (BE p))->a=b
 | [],[],_,_,_,_=>rfl
 | [],z::s,_,_,⟨g1,g2,g3,g4⟩,h=>by
  have:=h z.1
  grind [DJ]
 |y::r,[],_,⟨g1,g2,g3,g4⟩,_,h=>by
  have:=h y.1
  grind [DJ]
 |y::r,z::s,lo,⟨f1,f2,f3,f4⟩,⟨g1,g2,g3,g4⟩,h=>by
  have below:∀{x:Int×Int} {t:AS} {p:Int},DY (x.2+1) t->(x::t).any (BE p)=true->p<=x.2->x.1<=p/\p<x.2:=fun {x t p} ht hp Il=>by
   rw[D2,IH]at hp;rcases hp with hp | hp
   .exact DJ.1 hp
   .have:=Np ht hp;omega
  have low:∀{x:Int×Int} {t:AS} {p:Int},x.1<x.2->DY (x.2+1) t->(x::t).any (BE p)=true->x.1<=p:=fun {x t p} hx ht hp=>by
   grind
  have cov:∀{x:Int×Int} {t:AS} {p:Int},x.1<=p->p<x.2->(x::t).any (BE p)=true:=fun {x t p} h1 h2=>by
   grind [DJ]
  have e1:y.1=z.1:=by
   grind
  have e2:y.2=z.2:=by
   rcases Int.lt_trichotomy y.2 z.2 with hl | he | hl
   .grind
   .exact he
   .have:=below g4 ((h z.2).symm.trans (cov ch hl)) (B6 _);omega
  have e:y=z:=Prod.ext e1 e2;subst e
  congr 1
  refine Mh f4 g4 fun p=>?_;have hp:=h p;simp only[D2]at hp;cases hs:BE p y with
  |false=>simp_all
  |true=>
   have:=DJ.1 hs
   have n:∀{t:AS},DY (y.2+1) t->t.any (BE p)=false:=fun {t} ht=>by
    rw[A0];intro hx;have:=Np ht hx;omega
   grind
theorem G0{a b:AS}(ha:D3 a)(hb:D3 b)(h:∀p,has a p=has b p):a=b:=
 Mh ha hb fun p=>by rw[<-G5 ha,<-G5 hb,h]
theorem Rd{a s:AS}(ha:D3 a)(h:∀p,has a p=has s p):a=canon s:=
 G0 ha (BN s) fun p=>by rw[h,GN]
theorem Iu{a:AS}(ha:D3 a):canon a=a:=(Rd ha fun _=>rfl).symm
theorem OQ{s:AS}{p:Int}(h:has s p=true):0<=p/\p<1000000:=by
 grind [has]
def Qs(p:Int):Bool:=decide (0<=p)&&decide (p<1000000)
theorem JY:∀(l:AS) {at_ lo:Int},0<=at_->DY lo l->lo<=at_+1->at_<=lo->DY at_ (JX at_ l)/\∀p,(JX at_ l).any (BE p)=(decide (at_<=p)&&decide (p<1000000)&&!l.any (BE p))
 | [],at_,lo,h0,_,h1,h2=>by
  unfold JX;split
  .exact⟨⟨B6 _,by omega,B6 _,trivial⟩,fun p=>by simp[BE]⟩
  .refine⟨trivial,fun p=>?_⟩
   grind
 |y::r,at_,lo,h0,⟨g1,g2,g3,g4⟩,h1,h2=>by
  have ih:=JY r (at_:=y.2) ch g4 (B6 _) ch;have key:∀p,(decide (at_<=p)&&decide (p<y.1)||(JX y.2 r).any (BE p))=(decide (at_<=p)&&decide (p<1000000)&&!(y::r).any (BE p)):=fun p=>by
   rw[ih.2,D2];cases hr:r.any (BE p)with
   |true=>
    have:=Np g4 hr
    grind
   |false=>
    grind [BE]
  unfold JX;split
  .rename_i h;refine⟨⟨B6 _,h,by omega,ih.1 |> fun c=>?_⟩,fun p=>?_⟩
   .dsimp only;cases e:JX y.2 r with
    |nil=>trivial
    |cons z s=>
     rw[e]at c;exact⟨by have:=c.1;omega,c.2⟩
   .rw[D2,<-key];rfl
  grind [DY.mono]
theorem GK(s:AS):D3 (Eh s):=by
 grind [Eh,JY,BN]
theorem Ft(s:AS)(p:Int):has (Eh s) p=(Qs p&&!has s p):=by
 rw[G5 (GK s)];unfold Eh;rw[(JY _ (B6 _) (BN s) ch (B6 _)).2,Jq];rfl
theorem YO(a b:AS)(p:Int):has (a++b) p=(has a p||has b p):=by
 grind [has]
theorem K8:∀(l:List AS) (p:Int),has l.flatten p=l.any fun s=>has s p
 | [],p=>by simp[has]
 |s::l,p=>by rw[BW,YO,K8 l p,D2]
theorem RK(l:List AS)(p:Int):has (Px l) p=l.any fun s=>has s p:=by
 unfold Px;rw[GN,K8]
theorem VT(l:List AS):D3 (Px l):=BN _
theorem Vu(l:List AS):D3 (OT l):=GK _
theorem RJ(l:List AS)(p:Int):has (OT l) p=(Qs p&&l.all fun s=>has s p):=by
 grind [OT,Ft,K8,List.any_map]
theorem XV(a b:AS):D3 (Ou a b):=BN _
theorem PR(a b:AS):D3 (Mr a b):=GK _
theorem cp(a b:AS)(p:Int):has (Ou a b) p=(has a p||has b p):=by
 grind [Ou,RK]
theorem Uc(a b:AS)(p:Int):has (Mr a b) p=(has a p&&has b p):=by
 grind [Mr,RJ,OQ,Qs]
theorem YX(s:AS):Mr s s=canon s:=G0 (PR _ _) (BN _) fun p=>by grind [Uc,GN]
theorem Tl{s:AS}:canon s=[]↔∀p,has s p=false:=by
 constructor
 .intro h p;rw[<-GN,h];simp[has]
 .intro h;exact G0 (BN s) (b:=[]) trivial fun p=>by grind [GN,has]
theorem Pa{s:AS}(hs:D3 s):s=[]↔∀p,has s p=false:=by
 rw[<-Tl,Iu hs]
def fy(l:List AS)(p:Int):Nat:=l.countP fun s=>has s p
theorem Rc:∀{l:AS} {lo:Int},DY lo l->lo<=1000000->(l.length:Int)<=1000000-lo
 | [],lo,_,h=>by simp_all
 |y::r,lo,⟨g1,g2,g3,g4⟩,h=>by
  by_cases h3:y.2+1<=1000000
  .have:=Rc g4 h3
   grind
  .cases r with
   |nil=>grind
   |cons z s=>have:=g4.1;have:=g4.2.1;have:=g4.2.2.1;omega
theorem Hl{l:AS}(h:D3 l):l.length<=1000000:=by have:=Rc h ch;omega
structure Ver where
 (a b c:Int)
variable (v:Ver)
structure Rq where
 path:ByteArray
 set:List (Int×Int)
variable (q:Rq)
structure Rl where
 path:ByteArray
 ver:Ver
 reqs:List Rq
 (arch ifc cert:ByteArray)
 yanked:Bool
variable (x:List Rl)(r:Rl)
structure Sl where
 path:ByteArray
 ver:Ver
variable {s:List Sl}{y:Sl}
structure Tm where
 path:ByteArray
 absent:Bool
 set:List (Int×Int)
variable (l:List Tm)(u:Tm)(d:List (List Tm))(t:Tm)
structure Nf where
 kind:Int
 path:ByteArray
 (place number left right:Int)
structure Sk where
 path:ByteArray
 (place inf:Int)
structure An where
 found:Bool
 sel:List Sl
 infs:List Nf
 skips:List Sk
instance:DecidableEq Ver:=fun x y=>decidable_of_iff (x.a=y.a/\x.b=y.b/\x.c=y.c) ⟨fun⟨h1,h2,h3⟩=>by cases x<;>simp_all,fun h=>by simp_all⟩
instance:DecidableEq Sl:=fun x y=>decidable_of_iff (x.path=y.path/\x.ver=y.ver) ⟨fun⟨h1,h2⟩=>by cases x<;>simp_all,fun h=>by simp_all⟩
instance:DecidableEq Tm:=fun x y=>decidable_of_iff (x.path=y.path/\x.absent=y.absent/\x.set=y.set) ⟨fun⟨h1,h2,h3⟩=>by cases x<;>simp_all,fun h=>by simp_all⟩
theorem pt{x y:Tm}(h1:x.path=y.path)(h2:x.absent=y.absent)(h3:x.set=y.set):x=y:=by cases x<;>simp_all
def okPart(n:Int):Prop:=0<=n/\n<=999
instance (n:Int):Decidable (okPart n):=by unfold okPart;infer_instance
def Cf:Bool:=decide (okPart v.a)&&decide (okPart v.b)&&decide (okPart v.c)
def place:Int:=1000*v.b+v.c
def plc:Int:=if Cf v then place v else 0
def A4(s:List Sl)(p:ByteArray):Option Sl:=s.find? fun x=>decide (x.path=p)
def GO(s:List Sl):Bool:=
 match s.find? (fun x=>decide (x.path=t.path))with
 |none=>t.absent
 |some x=>Cf x.ver&&has t.set (place x.ver)
def BU(s:List Sl)(p:ByteArray):Bool:=s.any fun x=>decide (x.path=p)
def AN(s:List Sl):Bool:=l.all fun t=>GO t s
def BG(s:List Sl):Bool:=AN l s&&!l.any fun t=>!BU s t.path
def XS(a:An):Bool:=decide (a.infs.length<=400)&&decide (a.sel.length<=16)&&decide (a.skips.length<=100)
def JA:List UInt8->List UInt8->Bool
 | [],[]=>false
 | [],_::_=>true
 |_::_,[]=>false
 |a::x,b::y=>decide (a<b)||(decide (a=b)&&JA x y)
def EL(a b:ByteArray):Bool:=JA a.data.toList b.data.toList
theorem PT:∀x,JA x x=false
 | []=>rfl
 |a::x=>by
  unfold JA;simp[PT x]
theorem Sf:∀{x y z},JA x y=true->JA y z=true->JA x z=true
 | [],[],_,h,_=>by omega
 | [],_::_,[],_,h=>by grind [JA]
 | [],_::_,_::_,_,_=>rfl
 |_::_,[],_,h,_=>by grind [JA]
 |_::_,_::_,[],_,h=>by grind [JA]
 |a::x,b::y,c::z,h1,h2=>by
  unfold JA at *
  simp only[IH,Ag,A5]at *
  rcases h1 with h1 | ⟨rfl,h1⟩
  .grind
  .rcases h2 with h2 | ⟨rfl,h2⟩
   .simp_all
   .exact .inr ⟨rfl,Sf h1 h2⟩
theorem Xk:∀{x y},JA x y=false->JA y x=false->x=y
 | [],[],_,_=>rfl
 | [],_::_,h,_=>by grind [JA]
 |_::_,[],_,h=>by grind [JA]
 |a::x,b::y,h1,h2=>by
  unfold JA at *
  simp only[Bool.or_eq_false_iff,Bool.and_eq_false_iff,decide_eq_false_iff_not]at *
  have e:a=b:=by
   grind
  subst e
  have:=Xk (x:=x) (y:=y) (by simp_all) (by simp_all)
  simp_all
theorem uG(h:a.data.toList=b.data.toList):a=b:=by
 cases a<;>simp_all
theorem CG(a:ByteArray):EL a a=false:=PT _
theorem DG{c:ByteArray}(h:EL a b=true)(k:EL b c=true):EL a c=true:=Sf h k
theorem Ht(h:EL a b=false)(k:EL b a=false):a=b:=uG (Xk h k)
theorem U2(h:EL a b=true):a≠b:=fun e=>by grind [CG]
theorem TT(h:EL a b=true):EL b a=false:=by
 grind [DG,CG]
def KT:Tm:=⟨t.path,t.absent,canon t.set⟩
def Gn:Tm:=⟨u.path,u.absent&&t.absent,Mr u.set t.set⟩
def MV(t:Tm):List Tm->List Tm
 | []=>[KT t]
 |u::r=>if EL u.path t.path then u::MV t r else if u.path=t.path then Gn u t::r else KT t::u::r
def EM:List Tm:=l.foldl (fun acc t=>MV t acc) []
def HS:Bool:=!t.absent&&t.set.isEmpty
def Gx:Bool:=t.absent&&decide (t.set=[(0,1000000)])
def Ck:Option (List Tm):=if(EM l).any HS then none else some ((EM l).filter fun t=>!Gx t)
def Pb:List Tm:=(Ck l).getD []
def CU:Tm:=⟨q.path,true,Eh q.set⟩
def Gc:List Tm:=Pb [CU q]
def Co(path:ByteArray)(pl:Int)(q:Rq):List Tm:=Pb [⟨path,false,[(pl,pl+1)]⟩,CU q]
def EK(path:ByteArray)(qh:AS):List Tm:=Pb [⟨path,false,Eh qh⟩]
def CP(p:ByteArray):Option Tm:=l.find? fun t=>decide (t.path=p)
def Fr(p:ByteArray):List Tm:=l.filter fun t=>!decide (t.path=p)
def CD(a b:Tm):Tm:=⟨a.path,a.absent||b.absent,Ou a.set b.set⟩
def EO(p:ByteArray):Option (Tm×List Tm):=match Ck l with
 |none=>none
 |some c=>match CP c p with
  |none=>none
  |some t=>some (t,Fr c p)
def AX(a b:List Tm)(p:ByteArray):List Tm×Int:=
 match EO a p,EO b p with
 |some (t,r),some (u,m)=>match Ck (r++m++[CD t u])with
  |some o=>(o,0)
  |none=>([],8)
 |_,_=>([],1)
def By(lo:Option ByteArray):List Tm->Prop
 | []=>True
 |t::r=>(∀p,lo=some p->EL p t.path=true)/\D3 t.set/\By (some t.path) r
theorem By.weak:∀{l:List Tm},By lo l->By none l
 | [],_=>trivial
 |_::_,⟨_,h2,h3⟩=>⟨fun _ h=>(by cases h),h2,h3⟩
theorem By.low{p:ByteArray}:∀{l:List Tm},By (some p) l->∀t∈l,EL p t.path=true
 |t::r,⟨h1,h2,h3⟩,u,hu=>by
  rcases AA.1 hu with rfl | hu
  .simp_all
  .exact DG (h1 p rfl) (h3.low u hu)
theorem By.canon{lo:Option ByteArray}:∀{l:List Tm},By lo l->∀t∈l,D3 t.set
 |t::r,⟨h1,h2,h3⟩,u,hu=>by
  rcases AA.1 hu with rfl | hu
  .exact h2
  .exact h3.canon u hu
theorem By.mono{p q:ByteArray}:∀{l:List Tm},By (some p) l->EL q p=true->By (some q) l
 | [],_,_=>trivial
 |t::r,⟨h1,h2,h3⟩,h=>⟨fun _ e=>by grind [DG],h2,h3⟩
theorem Lg:∀{l:List Tm} {lo:Option ByteArray} (t:Tm),By lo l->(∀p,lo=some p->EL p t.path=true)->By lo (MV t l)
 | [],lo,t,_,h=>⟨h,BN _,trivial⟩
 |u::r,lo,t,⟨h1,h2,h3⟩,h=>by
  unfold MV;split
  .rename_i Ez;exact⟨h1,h2,Lg t h3 fun p e=>by simp_all⟩
  .rename_i Ez;split
   .rename_i he;exact⟨h1,PR _ _,h3⟩
   .rename_i he;refine⟨h,BN _,fun p e=>?_,h2,h3⟩;cases e
    have:EL u.path t.path=false:=by simp_all
    cases hb:EL t.path u.path with
    |true=>exact hb
    |false=>grind [Ht]
theorem NQ:∀(l acc:List Tm),By none acc->By none (l.foldl (fun acc t=>MV t acc) acc)
 | [],_,h=>h
 |t::l,acc,h=>NQ l _ (Lg t h fun _ e=>by cases e)
theorem DO:By none (EM l):=NQ l [] trivial
theorem DZ(r:List Tm)(p:ByteArray):CP (t::r) p=if t.path=p then some t else CP r p:=by
 grind [CP]
theorem IT{p q:ByteArray}{l:List Tm}(h:By (some p) l)(hq:EL p q=false):CP l q=none:=by
 grind [CP,By.low]
def Qt(o:Option Tm)(t:Tm):Tm:=match o with | none=>KT t | some u=>Gn u t
theorem Pg(o:Option Tm)(t:Tm)(h:∀u,o=some u->u.path=t.path):(Qt o t).path=t.path:=by
 cases o with
 |none=>rfl
 |some u=>exact h u rfl
theorem J4{l:List Tm}{p:ByteArray}{u:Tm}(h:CP l p=some u):u.path=p:=by
 have:=GY h;simp_all
theorem F2{l:List Tm}{p:ByteArray}{u:Tm}(h:CP l p=some u):u∈l:=BO h
theorem Ry:∀{l:List Tm} {lo:Option ByteArray} (t:Tm) (p:ByteArray),By lo l->CP (MV t l) p=if t.path=p then some (Qt (CP l p) t)else CP l p
 | [],lo,t,p,_=>by
  grind [MV,KT,CP,Qt]
 |u::r,lo,t,p,⟨h1,h2,h3⟩=>by
  unfold MV;split
  .rename_i Ez;rw[DZ,DZ,Ry t p h3]
   grind [U2]
  grind [DZ,Gn,Qt,KT,IT]
def I3(o:Option Tm)(t:Tm):Option Tm:=if t.path=p then some (Qt o t)else o
theorem PM(p:ByteArray):∀(l acc:List Tm),By none acc->CP (l.foldl (fun acc t=>MV t acc) acc) p=l.foldl (I3 p) (CP acc p)
 | [],_,_=>rfl
 |t::l,acc,h=>by
  rw[FC,PM p l _ (Lg t h fun _ e=>by cases e),Ry t p h];rfl
theorem Ig(p:ByteArray):CP (EM l) p=l.foldl (I3 p) none:=PM p l [] trivial
theorem LD:∀{a b:List Tm} {lo:Option ByteArray},By lo a->By lo b->(∀p,CP a p=CP b p)->a=b
 | [],[],_,_,_,_=>rfl
 | [],z::s,_,_,_,h=>by have:=h z.path;rw[DZ,A1 rfl]at this;cases this
 |z::s,[],_,_,_,h=>by have:=h z.path;rw[DZ,A1 rfl]at this;cases this
 |y::r,z::s,lo,⟨f1,f2,f3⟩,⟨g1,g2,g3⟩,h=>by
  have e:y=z:=by
   have a1:=h y.path;have a2:=h z.path
   grind [DZ,By.low,F2,DG,CG]
  subst e
  congr 1
  refine LD f3 g3 fun p=>?_;have hp:=h p
  grind [DZ,IT,CG]
theorem By.filter(q:Tm->Bool):∀{l:List Tm} {lo:Option ByteArray},By lo l->By lo (l.filter q)
 | [],_,_=>trivial
 |t::r,lo,⟨h1,h2,h3⟩=>by
  have ih:=By.filter q h3;rw[List.filter_cons];split
  .exact⟨h1,h2,ih⟩
  .cases lo<;>grind [By.weak,By.mono]
theorem FQ{l:List Tm}{t:Tm}(h:By lo l):t∈l↔CP l t.path=some t:=by
 constructor
 .induction l generalizing lo with
  |nil=>simp_all
  |cons u r ih=>
   intro ht;rw[DZ];rcases AA.1 ht with rfl | ht
   .simp_all
   .have:=By.low h.2.2 t ht
    rw[AO (U2 this)];exact ih h.2.2 ht
 .exact F2
def Cu(o:Option Sl):Bool:=match o with | none=>t.absent | some x=>Cf x.ver&&has t.set (place x.ver)
theorem gu(s:List Sl):GO t s=Cu t (A4 s t.path):=by
 unfold GO Cu A4;rfl
theorem E7{p:ByteArray}{x:Sl}(h:A4 s p=some x):x.path=p:=by
 have:=GY h;simp_all
theorem Ds{p:ByteArray}{x:Sl}(h:A4 s p=some x):x∈s:=BO h
theorem IV{p:ByteArray}:BU s p=(A4 s p).isSome:=by
 grind [BU,A4]
theorem YR(o:Option Sl):Cu (KT t) o=Cu t o:=by
 unfold Cu KT;grind [GN]
theorem W0(o:Option Sl):Cu (Gn u t) o=(Cu u o&&Cu t o):=by
 unfold Cu Gn;cases o<;>grind [Uc]
theorem Mq(o:Option Sl):Cu (CD u t) o=(Cu u o||Cu t o):=by
 unfold Cu CD;cases o<;>grind [cp]
def bz(o:Option Sl)(l:List Tm):Bool:=l.all fun t=>!decide (t.path=p)||Cu t o
theorem IU(p:ByteArray)(o:Option Sl):∀(l:List Tm) (a:Option Tm),(∀u,a=some u->u.path=p) ->
  (l.foldl (I3 p) a=none↔a=none/\l.all (fun t=>!decide (t.path=p))=true)/\(∀u,l.foldl (I3 p) a=some u->u.path=p/\Cu u o=((match a with | none=>true | some b=>Cu b o)&&bz p o l))
 | [],a,ha=>by
  grind [bz]
 |t::l,a,ha=>by
  rw[FC]
  by_cases e:t.path=p
  .have hs:I3 p a t=some (Qt a t):=by grind [I3]
   rw[hs];have ih:=IU p o l (some (Qt a t)) (fun u h=>by grind [Pg])
   grind [bz,Qt,YR,W0]
  .have hs:I3 p a t=a:=by grind [I3]
   rw[hs];have ih:=IU p o l a ha
   grind [bz]
theorem Bf{l:List Tm}:AN l s=true↔∀t∈l,Cu t (A4 s t.path)=true:=by
 grind [AN,gu]
theorem Kz(s:List Sl):AN (EM l) s=AN l s:=by
 rw[CN,Bf,Bf];constructor
 .intro h t ht
  have:=IU t.path (A4 s t.path) l none (fun _ e=>by cases e)
  rw[<-Ig]at this;cases e:CP (EM l) t.path<;>grind [F2,bz]
 .intro h u hu;have e:=(FQ (DO l)).1 hu
  have:=IU u.path (A4 s u.path) l none (fun _ e=>by cases e)
  grind [Ig,bz]
theorem Zg{t:Tm}(h:HS t=true)(o:Option Sl):Cu t o=false:=by
 unfold HS at h;simp only[Ag,EQ,KC]at h;unfold Cu
 grind [has]
def Fx(s:List Sl):Prop:=∀x∈s,Cf x.ver=true
theorem GS{v:Ver}(h:Cf v=true):0<=v.a/\v.a<=999/\0<=v.b/\v.b<=999/\0<=v.c/\v.c<=999:=by
 unfold Cf at h;simp only[Ag]at h;obtain⟨⟨a,b⟩,c⟩:=h;obtain⟨a1,a2⟩:=BD a;obtain⟨b1,b2⟩:=BD b;obtain⟨c1,c2⟩:=BD c<;>simp_all
theorem ID{v:Ver}(h:Cf v=true):0<=place v/\place v<1000000:=by
 have:=GS h;grind [place]
theorem Th{t:Tm}(h:Gx t=true)(hs:Fx s):Cu t (A4 s t.path)=true:=by
 unfold Gx at h;simp only[Ag,A5]at h;unfold Cu;cases e:A4 s t.path with
 |none=>exact h.1
 |some x=>
  have:=hs x (Ds e)
  grind [ID,has,BE]
theorem Cy{l:List Tm}(hs:Fx s):AN l s=(match Ck l with | none=>false | some c=>AN c s):=by
 unfold Ck;split
 .rename_i h;split at h
  .rename_i hn;rw[<-Kz,A0]
   grind [Bf,Zg]
  simp_all
 .rename_i c h;split at h
  .cases h
  .rename_i hn;cases h;rw[<-Kz,CN,Bf,Bf]
   grind [Th]
theorem GA(a b:List Tm)(s:List Sl):AN (a++b) s=(AN a s&&AN b s):=by grind [AN]
theorem Eg{l c:List Tm}(h:Ck l=some c):By none c:=by
 grind [Ck,By.filter,DO]
theorem FX{l r:List Tm}{p:ByteArray}{t:Tm}(hs:Fx s)(h:EO l p=some (t,r)):AN l s=(Cu t (A4 s p)&&AN r s)/\t.path=p:=by
 unfold EO at h;cases hc:Ck l with
 |none=>simp_all
 |some c=>
  rw[hc]at h;dsimp only at h;cases hf:CP c p with
  |none=>simp_all
  |some u=>
   rw[hf]at h;cases h;have hp:=J4 hf;refine⟨?_,hp⟩;rw[Cy hs,hc];dsimp only;rw[CN,Ag,Bf,Bf];constructor
   .intro h
    have:=h t (F2 hf)
    rw[hp]at this;exact⟨this,fun v hv=>h v (DE.1 hv).1⟩
   .intro⟨h1,h2⟩ v hv
    by_cases e:v.path=p
    .have:=(FQ (Eg hc)).1 hv
     simp_all
    .exact h2 v (DE.2 ⟨hv,by simp[e]⟩)
theorem SI{a b o:List Tm}{p:ByteArray}(hs:Fx s)(h:AX a b p=(o,0))(hv:AN o s=true):AN a s=true\/AN b s=true:=by
 unfold AX at h;cases h1:EO a p with
 |none=>simp_all
 |some x=>
  cases h2:EO b p with
  |none=>simp_all
  |some y=>
   obtain⟨t,r⟩:=x;obtain⟨u,m⟩:=y;rw[h1,h2]at h;dsimp only at h;cases hc:Ck (r++m++[CD t u])with
   |none=>simp_all
   |some c=>
    rw[hc]at h
    have:c=o:=by simp_all
    subst this;have e:=Cy (l:=r++m++[CD t u]) hs;rw[hc]at e;dsimp only at e;rw[hv,GA,GA]at e;simp only[Ag]at e;obtain⟨⟨e1,e2⟩,e3⟩:=e;obtain⟨va,pa⟩:=FX hs h1;obtain⟨vb,pb⟩:=FX hs h2;have e3:=Bf.1 e3 _ (AB.2 rfl)
    grind [CD,Mq]
theorem Pc{l:List Tm}(hs:Fx s)(DT:Pb l≠[]):AN (Pb l) s=AN l s:=by
 grind [Cy,Pb]
-- paths
def GF:Bool:=decide (97<=c)&&decide (c<=122)
def U5:Bool:=decide (65<=c)&&decide (c<=90)
def Eo:Bool:=decide (48<=c)&&decide (c<=57)
def LG:Bool:=GF c||U5 c||Eo c||decide (c=95)
def gN:List UInt8:=[32,97,110,100,32,97,110,121,32,97,115,32,98,111,111,108,32,100,101,112,114,101,99,97,116,101,100,32,101,108,115,101,32,101,120,112,111,114,116,32,102,97,108,115,101,32,102,110,32,102,111,108,100,32,102,114,111,109,32,105,102,32,105,109,112,111,114,116,32,105,110,32,105,110,116,32,108,101,110,103,116,104,32,108,101,116,32,108,105,115,116,32,109,97,116,99,104,32,109,111,100,117,108,101,32,110,111,110,101,32,110,111,116,32,111,114,32,116,101,120,116,32,116,104,101,110,32,116,114,117,101,32,116,121,112,101,32,117,115,101,32]
def dB:List UInt8->List UInt8->Bool
 | [],_=>true
 |_::_,[]=>false
 |a::x,b::y=>decide (a=b)&&dB x y
def ug(x:List UInt8):List UInt8->Bool
 | []=>dB x []
 |b::y=>dB x (b::y)||ug x y
def Y0(s:List UInt8):Bool:=ug (32::(s++[32])) gN
def Hv(s:List UInt8):Bool:=!s.isEmpty&&decide (s.length<=32)&&GF (s.headD 0)&&s.all LG&&!Y0 s
def MA(s:List UInt8):Bool:=Hv s&&s.all fun c=>GF c||Eo c
def F6(s:List UInt8):Int:=s.foldl (fun n c=>10*n+((c.toNat:Int)-48)) 0
def Kp(s:List UInt8):Option Int:=match s with
 |c::r=>if c=118 then(if r.isEmpty||decide (3<r.length)||(decide (1<r.length)&&decide (r.headD 0=48))||!r.all Eo then none else some (F6 r))else none
 | []=>none
def E3(c:UInt8):List UInt8->List (List UInt8)
 | []=>[[]]
 |b::r=>if b=c then []::E3 c r else match E3 c r with
  | []=>[[b]]
  |x::l=>(b::x)::l
def Zd(p:List UInt8):Option Int:=match Kp ((E3 47 p).getLastD [])with
 |none=>none
 |some n=>if 64<p.length||(E3 47 p).length<2 then none else if(E3 47 p).all MA then some n else none
def Bw:Option Int:=Zd p.data.toList
-- indexes
def Hq(before:Option ByteArray)(q:Rq):Int:=
 if(Bw q.path).isNone then 4 else if q.set.isEmpty||!decide (q.set=canon q.set)||(match before with | some b=>!EL b q.path | none=>false)then 1 else 0
def Ff(before:Option ByteArray):List Rq->Int
 | []=>0
 |q::r=>if Hq before q=0 then Ff (some q.path) r else Hq before q
def A8(l:List Rq):Int:=if 16<l.length then 7 else Ff none l
def DW(s:ByteArray):Bool:=decide (s.size=0)||decide (s.size=32)
def DN:Int:=match Bw r.path with
 |none=>4
 |some m=>if !Cf r.ver||!decide (r.ver.a=m)then 2 else if A8 r.reqs≠0 then A8 r.reqs else if DW r.arch&&DW r.ifc&&DW r.cert then 0 else 1
def GU(a b:Int):Int:=if a<b then -1 else if b<a then 1 else 0
def JW(a b:ByteArray):Int:=if EL a b then -1 else if EL b a then 1 else 0
def Rg(a b:Ver):Int:=if GU a.a b.a≠0 then GU a.a b.a else if GU a.b b.b≠0 then GU a.b b.b else GU a.c b.c
def Wp(a b:Rl):Int:=if JW a.path b.path≠0 then JW a.path b.path else Rg a.ver b.ver
def Dd:Sl:=⟨r.path,r.ver⟩
def DX(before:Option Rl):List Rl->Int
 | []=>0
 |r::l=>if DN r≠0 then DN r else match before with
  |none=>DX (some r) l
  |some b=>if Dd b=Dd r then 5 else if 0<Wp b r then 1 else DX (some r) l
def AC(l:List Rl):Int:=if 256<l.length then 7 else DX none l
def Bg(y:Sl):Option Rl:=if AC x≠0 then none else x.find? fun r=>decide (Dd r=y)
def Kg(p:ByteArray):List Rl:=if AC x≠0 then []else x.filter fun r=>decide (r.path=p)
def Br(p:ByteArray):AS:=canon (((Kg x p).filter fun r=>!r.yanked).map fun r=>(plc r.ver,plc r.ver+1))
def Ld(before:Option ByteArray):List Sl->Bool
 | []=>true
 |y::r=>(match before with |some b=>EL b y.path |none=>true)&&Ld (some y.path) r
def Cq(s:List Sl):Bool:=Ld none s
-- solutions
def IE(x:List Rl):List Sl->Option (List Rl)
 | []=>some []
 |y::s=>match Bg x y with
  |none=>none
  |some r=>match IE x s with
   |none=>none
   |some l=>some (r::l)
def CC(l:List Rl)(q:Rq):Bool:=match l.find? (fun r=>decide (r.path=q.path))with
 |none=>true
 |some r=>!has q.set (plc r.ver)
def Ep(l:List Rl)(p:ByteArray):List Rq:=match l.find? (fun r=>decide (r.path=p))with
 |none=>[]
 |some r=>r.reqs
def EB(l:List Rl):Nat->List Rq->List ByteArray->List ByteArray
 |0,_,d=>d
 |_+1,[],d=>d
 |n+1,q::t,d=>if d.any (fun p=>decide (p=q.path))then EB l n t d else EB l n (t++Ep l q.path) (d++[q.path])
def Gq(l:List Rl)(roots:List Rq):Nat:=roots.length+(l.map fun r=>r.reqs.length).foldl (·+·) 0+1
def F9(roots:List Rq)(s:List Sl):Int:=
 if AC x≠0 then 1 else if !Cq s then 1 else match IE x s with
  |none=>6
  |some l=>if l.any (fun r=>r.reqs.any (CC l))then 17 else if roots.any (CC l)then 17 else
   if(EB l (Gq l roots) roots []).length<l.length then 8 else 0
-- derivations
def E2(p:ByteArray)(pl:Int):Option Rl:=x.find? fun r=>decide (r.path=p)&&decide (plc r.ver=pl)
def mt:ByteArray:=⟨#[]⟩
def El(l:List α)(i:Int):Option α:=if i<0 then none else l[i.toNat]?
def QG:Option (List Tm):=if l.isEmpty then none else some l
def Bo(roots:List Rq)(d:List (List Tm))(i:Nf):Option (List Tm):=
 if i.kind=0 then
  if i.path=mt/\i.place=0/\i.left=0/\i.right=0 then(El roots i.number).map Gc else none
 else if i.kind=1 then
  if i.left=0/\i.right=0 then match E2 x i.path i.place with
   |none=>none
   |some r=>match El r.reqs i.number with
    |none=>none
    |some q=>QG (Co i.path i.place q)
  else none
 else if i.kind=2 then
  if i.place=0/\i.number=0/\i.left=0/\i.right=0 then QG (EK i.path (Br x i.path))else none
 else if i.kind=3 then
  if i.place=0/\i.number=0 then match El d i.left,El d i.right with
   |some a,some b=>if(AX a b i.path).2=0 then some (AX a b i.path).1 else none
   |_,_=>none
  else none
 else none
def BA(x:List Rl)(roots:List Rq):List Nf->List (List Tm)->Option (List (List Tm))
 | [],d=>some d
 |i::l,d=>match Bo x roots d i with
  |none=>none
  |some t=>BA x roots l (d++[t])
def B9(roots:List Rq)(l:List Nf):List (List Tm)×Int:=
 if AC x≠0\/A8 roots≠0 then([],1)else if 65536<l.length then([],7)else match BA x roots l []with
  |none=>([],18)
  |some d=>(d,0)
def E1:Bool:=match d.getLast? with | some []=>true | _=>false
-- decisions
def Cc(before:List Sl):List Rq->Option ByteArray->Option ByteArray
 | [],acc=>acc
 |q::l,acc=>Cc before l (if BU before q.path then acc else match acc with
  |none=>some q.path
  |some p=>if EL q.path p then some q.path else some p)
def E9(needs:List Rq)(before:List Sl):Option ByteArray:=Cc before needs none
structure TJ where
 before:List Sl
 needs:List Rq
 rel:Rl
def Cp(x:List Rl)(s:List Sl):Nat->List Sl->List Rq->List TJ×Bool
 |0,_,_=>([],true)
 |n+1,before,needs=>match E9 needs before with
  |none=>([],true)
  |some p=>match A4 s p with
   |none=>([],false)
   |some y=>match Bg x y with
    |none=>([],false)
    |some r=>(⟨before,needs,r⟩::(Cp x s n (before++[y]) (needs++r.reqs)).1,(Cp x s n (before++[y]) (needs++r.reqs)).2)
def visits(roots:List Rq)(s:List Sl):List TJ×Bool:=Cp x s (s.length+1) [] roots
-- answers
def CM(d:List (List Tm))(v:TJ):List Rl->List Sk->List Sk×Bool
 | [],k=>(k,true)
 |o::x,k=>
  if !decide (o.path=v.rel.path)||o.yanked||!decide (plc o.ver<plc v.rel.ver)then CM d v x k else
  if v.needs.any (fun q=>decide (q.path=v.rel.path)&&!has q.set (plc o.ver))then CM d v x k else
  match k with
  | []=>([],false)
  |y::k'=>if !decide (y.path=v.rel.path)||!decide (y.place=plc o.ver)then([],false)else match El d y.inf with
   |none=>([],false)
   |some t=>if BG t (v.before++[Dd o])then CM d v x k' else([],false)
def Cw(a:Bool×List Sk)(v:TJ):Bool×List Sk:=
 (a.1&&(CM d v x a.2).2&&!v.rel.yanked,(CM d v x a.2).1)
def Fe(roots:List Rq)(a:An):Int:=
 if(B9 x roots a.infs).2≠0 then(B9 x roots a.infs).2 else
 if a.found=false then(if !a.sel.isEmpty||!a.skips.isEmpty||!E1 (B9 x roots a.infs).1 then 18 else 0)else
 if F9 x roots a.sel≠0 then 18 else
 if(((visits x roots a.sel).1.foldl (Cw x (B9 x roots a.infs).1) (true,a.skips)).1&&((visits x roots a.sel).1.foldl (Cw x (B9 x roots a.infs).1) (true,a.skips)).2.isEmpty)then 0 else 18
-- the example
-- the order of releases
theorem Jr{a b:Int}(h:GU a b=0):a=b:=by
 grind [GU]
theorem Va{a b:Int}(h:GU a b<0):a<b:=by
 grind [GU]
theorem T2(h:JW a b=0):a=b:=by
 grind [JW,Ht]
theorem j7(h:JW a b<0):EL a b=true:=by
 grind [JW]
def mW(a b:Ver):Prop:=a.a<b.a\/(a.a=b.a/\(a.b<b.b\/(a.b=b.b/\a.c<b.c)))
def cR(a b:Rl):Prop:=EL a.path b.path=true\/(a.path=b.path/\mW a.ver b.ver)
theorem j9{a b:Ver}(h:Rg a b<0):mW a b:=by
 unfold Rg at h;split at h
 .exact .inl (Va h)
 .rename_i h1;have h1:=Jr (BI.1 h1);split at h
  .exact .inr ⟨h1,.inl (Va h)⟩
  .rename_i h2;exact .inr ⟨h1,.inr ⟨Jr (BI.1 h2),Va h⟩⟩
theorem bQ{a b:Ver}(h:Rg a b=0):a=b:=by
 unfold Rg at h;split at h
 .omega
 .rename_i h1;have h1:=Jr (BI.1 h1);split at h
  .omega
  .rename_i h2;have h2:=Jr (BI.1 h2);have h3:=Jr h;cases a<;>simp_all
theorem bP{a b:Rl}(h:Wp a b=0):Dd a=Dd b:=by
 grind [Wp,T2,bQ,Dd]
theorem j8{a b:Rl}(h:Wp a b<0):cR a b:=by
 unfold Wp at h;split at h
 .exact .inl (j7 h)
 .rename_i h1;exact .inr ⟨T2 (BI.1 h1),j9 h⟩
theorem cV{a b c:Ver}(h:mW a b)(k:mW b c):mW a c:=by grind [mW]
theorem cS{a b c:Rl}(h:cR a b)(k:cR b c):cR a c:=by
 rcases h with h | ⟨h1,h2⟩
 .rcases k with k | ⟨k1,k2⟩
  .exact .inl (DG h k)
  .exact .inl (k1▸h)
 .rcases k with k | ⟨k1,k2⟩
  .exact .inl (h1▸k)
  .exact .inr ⟨h1.trans k1,cV h2 k2⟩
theorem M0{a b:Rl}(h:cR a b)(k:Dd a=Dd b):False:=by
 unfold Dd at k;simp only[Sl.mk.injEq]at k;rcases h with h | ⟨_,h⟩<;>grind [CG,mW]
-- a valid index
structure Is(r:Rl):Prop where
 maj:Bw r.path=some r.ver.a
 val:Cf r.ver=true
 reqs:A8 r.reqs=0
theorem Ys{r:Rl}(h:DN r=0):Is r:=by
 grind [DN,Is.mk]
theorem Ny:∀{l:List Rl} {b:Option Rl},DX b l=0->(∀r∈l,Is r)/\(l.Pairwise cR/\∀c,b=some c->∀r∈l,cR c r)
 | [],b,_=>⟨fun _ h=>(by cases h),.nil,fun _ _ _ h=>(by cases h)⟩
 |r::l,b,h=>by
  unfold DX at h;split at h
  .omega
  .rename_i h1;have hr:=Ys (BI.1 h1);have go:DX (some r) l=0->(∀c,b=some c->cR c r)->(∀z∈r::l,Is z)/\((r::l).Pairwise cR/\∀c,b=some c->∀z∈r::l,cR c z):=fun h hc=>by
    obtain⟨i1,i2,i3⟩:=Ny h<;>grind [cS,List.Pairwise.cons]
   grind [j8,bP]
theorem Bz{l:List Rl}(h:AC l=0):(∀r∈l,Is r)/\l.Pairwise cR:=by
 grind [AC,Ny]
theorem RY{l:List Rl}(h:l.Pairwise cR){a b:Rl}(ha:a∈l)(hb:b∈l)(hk:Dd a=Dd b):a=b:=by
 induction h<;>grind [M0]
theorem VW{a b:Ver}(ha:Cf a=true)(hb:Cf b=true)(h1:a.a=b.a)(h2:place a=place b):a=b:=by
 have:=GS ha
 have:=GS hb
 unfold place at h2;have e1:a.b=b.b:=by omega
 have e2:a.c=b.c:=by omega
 cases a<;>simp_all
theorem Is.plc{r:Rl}(h:Is r):plc r.ver=place r.ver:=by grind [plc,Is.val]
theorem VM{l:List Rl}(h:(∀r∈l,Is r)/\l.Pairwise cR){a b:Rl}(ha:a∈l)(hb:b∈l)(h1:a.path=b.path)(h2:place a.ver=place b.ver):a=b:=by
 grind [RY,Dd,VW,Is.maj,Is.val]
theorem CK{x:List Rl}{r:Rl}(h:Bg x y=some r):AC x=0/\r∈x/\Dd r=y:=by
 grind [Bg]
structure V7(x:List Rl)(roots:List Rq)(s:List Sl):Prop where
 ix:AC x=0
 inc:Cq s=true
 fnd:∀y∈s,∃r,Bg x y=some r/\r.yanked=false
 root:∀q∈roots,∃y,A4 s q.path=some y/\has q.set (place y.ver)=true
 req:∀y∈s,∀r,Bg x y=some r->∀q∈r.reqs,∃z,A4 s q.path=some z/\has q.set (place z.ver)=true
theorem FR:∀{s:List Sl} {b:Option ByteArray},Ld b s=true->s.Pairwise (fun a b=>EL a.path b.path=true)/\∀c,b=some c->∀y∈s,EL c y.path=true
 | [],_,_=>⟨.nil,fun _ _ _ h=>by cases h⟩
 |y::r,b,h=>by
  unfold Ld at h;simp only[Ag]at h;obtain⟨h1,h2⟩:=h;obtain⟨i1,i2⟩:=FR h2<;>grind [DG,List.Pairwise.cons]
theorem Mn(h:s.Pairwise (fun a b=>EL a.path b.path=true))(hy:y∈s):A4 s y.path=some y:=by
 induction h<;>grind [A4,U2]
theorem GM(h:Cq s=true)(hy:y∈s):A4 s y.path=some y:=Mn (FR h).1 hy
theorem V7.valid{x:List Rl}{roots:List Rq}(h:V7 x roots s):Fx s:=fun y hy=>by
 obtain⟨r,h1,_⟩:=h.fnd y hy;obtain⟨_,h2,h3⟩:=CK h1
 have:=((Bz h.ix).1 r h2).val
 rw[<-h3];exact this
theorem Hd{x:List Rl}:∀{s:List Sl} {l:List Rl},IE x s=some l->l.map Dd=s/\(∀r∈l,Bg x (Dd r)=some r)/\∀y∈s,∃r∈l,Bg x y=some r
 | [],l,h=>by cases h<;>simp_all
 |y::s,l,h=>by
  unfold IE at h;split at h
  .cases h
  .rename_i r hr;split at h
   .cases h
   .rename_i l' hl;cases h;obtain⟨i1,i2,i3⟩:=Hd hl;have hk:=(CK hr).2.2;simp_all
theorem OO:∀(l:List Rl) (p:ByteArray),(l.find? fun r=>decide (r.path=p)).map Dd=A4 (l.map Dd) p
 | [],_=>rfl
 |r::l,p=>by
  unfold A4;rw[II,Bb,II];show _=(match decide (r.path=p)with | true=>some (Dd r) | false=>_);cases h:decide (r.path=p)with
  |true=>rfl
  |false=>exact OO l p
theorem Ke{x:List Rl}{l:List Rl}(hx:AC x=0)(hl:IE x s=some l){q:Rq}(h:CC l q=false):∃y,A4 s q.path=some y/\has q.set (place y.ver)=true:=by
 obtain⟨h1,h2,h3⟩:=Hd hl;unfold CC at h;have hk:=OO l q.path;split at h
 .cases h
 .rename_i r hr;rw[hr,h1]at hk;refine⟨Dd r,hk.symm,?_⟩;have hm:=(CK (h2 r (BO hr))).2.1;show has q.set (place r.ver)=true;rw[<-((Bz hx).1 r hm).plc];simp_all
structure Jn(x:List Rl)(roots:List Rq)(s:List Sl)(l:List Rl):Prop where
 ix:AC x=0
 inc:Cq s=true
 sel:IE x s=some l
 rl:∀r∈l,∀q∈r.reqs,CC l q=false
 rt:∀q∈roots,CC l q=false
 min:l.length<=(EB l (Gq l roots) roots []).length
theorem ZC{x:List Rl}{roots:List Rq}(h:F9 x roots s=0):∃l,Jn x roots s l:=by
 unfold F9 at h;split at h
 .cases h
 .rename_i h1;split at h
  .cases h
  .rename_i h2;split at h
   .cases h
   .rename_i l hl;split at h
    .cases h
    .rename_i h3;split at h
     .cases h
     .rename_i h4;split at h
      .cases h
      .rename_i h5;refine⟨l,BI.1 h1,by simp_all,hl,fun r hr q hq=>?_,fun q hq=>?_,by omega⟩
       all_goals grind
theorem Jn.sol{x:List Rl}{roots:List Rq}{l:List Rl}(h:Jn x roots s l)(hy:∀y∈s,∀r,Bg x y=some r->r.yanked=false):V7 x roots s:=by
 obtain⟨h1,h2,h3⟩:=Hd h.sel;refine⟨h.ix,h.inc,fun y hm=>?_,fun q hq=>Ke h.ix h.sel (h.rt q hq),fun y hm r hr q hq=>?_⟩
 .grind
 .obtain⟨r',h4,h5⟩:=h3 y hm;rw[hr]at h5;cases h5;exact Ke h.ix h.sel (h.rl r h4 q hq)
-- soundness
theorem PZ{q:Rq}(h:∃y,A4 s q.path=some y/\has q.set (place y.ver)=true):Cu (CU q) (A4 s q.path)=false:=by
 grind [Cu,CU,Ft]
theorem im{l:List Tm}(hs:Fx s)(hn:Ck l≠none)(hv:AN l s=false):AN (Pb l) s=false:=by
 grind [Cy,Pb]
theorem Xw{l:List Tm}(hs:Fx s){o:List Tm}(h:QG (Pb l)=some o)(hv:AN l s=false):AN o s=false:=by
 grind [QG,Pc]
theorem Zy:Ck [CU q]≠none:=by
 grind [Ck,EM,MV,HS,KT,CU]
theorem Ob{l:List α}{i:Int}{a:α}(h:El l i=some a):a∈l:=by
 grind [El]
theorem Vs{x:List Rl}{roots:List Rq}(hs:V7 x roots s){d:List (List Tm)}(hd:∀t∈d,AN t s=false){i:Nf}{o:List Tm}(h:Bo x roots d i=some o):AN o s=false:=by
 have hv:=hs.valid;unfold Bo at h;split at h
 .split at h
  .rw[B4]at h;obtain⟨q,hq,rfl⟩:=h;refine im hv (Zy q) ?_;rw[A0];intro hw
   have:=Bf.1 hw _ (AB.2 rfl)
   rw[show(CU q).path=q.path from rfl,PZ (hs.root q (Ob hq))]at this;simp_all
  simp_all
 .split at h
  .split at h
   .split at h
    .cases h
    .rename_i r hr;split at h
     .cases h
     .rename_i q hq;refine Xw hv h ?_;rw[A0];intro hw;have h1:=Bf.1 hw _ (Ad ..);have h2:=Bf.1 hw (CU q) B0;rw[show(CU q).path=q.path from rfl]at h2;dsimp only at h1;cases hf:A4 s i.path with
      |none=>grind [Cu]
      |some y=>
       rw[hf]at h1;unfold Cu at h1;simp only[Ag]at h1;have hp:place y.ver=i.place:=by
        grind [has,BE]
       have hy:=Ds hf;have kU:=E7 hf;obtain⟨r',e1,e2⟩:=hs.fnd y hy;obtain⟨_,m1,k1⟩:=CK e1;have gw:r∈x:=BO hr;have jv:=GY hr;simp only[Ag,A5]at jv;have F5:=Bz hs.ix
       have:r'=r:=by
        refine VM F5 m1 gw ?_ ?_
        .rw[jv.1,<-kU,<-k1];rfl
        .rw[<-(F5.1 r gw).plc,jv.2,<-hp,<-k1];rfl
       subst this
       have:=hs.req y hy r' e1 q (Ob hq)
       grind [PZ]
   simp_all
  .split at h
   .split at h
    .refine Xw hv h ?_;rw[A0];intro hw;have h1:=Bf.1 hw _ (AB.2 rfl);dsimp only at h1;cases hf:A4 s i.path with
     |none=>grind [Cu]
     |some y=>
      rw[hf]at h1;unfold Cu at h1;simp only[Ag]at h1;have hy:=Ds hf;have kU:=E7 hf;obtain⟨r,e1,e2⟩:=hs.fnd y hy;obtain⟨_,m1,k1⟩:=CK e1;have F5:=Bz hs.ix;have h1:=h1.2;rw[Ft]at h1;have ox:=ID (hv y hy)
      have:has (Br x i.path) (place y.ver)=true:=by
       unfold Br;rw[GN];unfold has;simp only[ox,decide_true,Bool.true_and,Ci,Ak,DE];refine⟨(plc r.ver,plc r.ver+1),⟨r,⟨?_,by simp_all⟩,rfl⟩,?_⟩
       .unfold Kg;simp only[hs.ix,ne_eq,not_true,if_false,DE,m1,true_and,A5];rw[<-kU,<-k1];rfl
       .rw[(F5.1 r m1).plc,<-k1];rw[DJ];exact⟨B6 _,by show place r.ver<place r.ver+1;omega⟩
      simp_all
    simp_all
   .split at h
    .split at h
     .split at h
      .rename_i a b ha hb;split at h
       .rename_i h0;cases h;rw[A0];intro hw;rcases SI hv (o:=(AX a b i.path).1) (Prod.ext rfl h0) hw with hw | hw<;>grind [Ob]
       simp_all
      simp_all
     simp_all
    simp_all
theorem Iv{x:List Rl}{roots:List Rq}{s:List Sl}(hs:V7 x roots s):∀{l:List Nf} {d d' : List (List Tm)},(∀t∈d,AN t s=false)->BA x roots l d=some d'->∀t∈d',AN t s=false
 | [],d,d',hd,h=>by cases h;exact hd
 |i::l,d,d',hd,h=>by
  unfold BA at h;split at h
  .cases h
  .rename_i o ho;refine Iv hs (fun t ht=>?_) h
   grind [Vs]
theorem I7{x:List Rl}{roots:List Rq}(hs:V7 x roots s){l:List Nf}:∀t∈(B9 x roots l).1,AN t s=false:=by
 grind [B9,Iv]
theorem VI{d:List (List Tm)}(h:E1 d=true)(s:List Sl):∃t∈d,AN t s=true:=by
 unfold E1 at h;split at h
 .rename_i e;exact⟨[],List.mem_of_getLast? e,rfl⟩
 simp_all
end Go.Eng
