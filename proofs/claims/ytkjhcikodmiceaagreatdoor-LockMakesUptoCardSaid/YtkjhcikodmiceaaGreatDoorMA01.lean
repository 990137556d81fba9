/- Lemmas 1. -/
import Derived.Test.YtkjhcikodmiceaaGreatDoorMA00
namespace Go.Eng
variable {a b:ByteArray}{lo:Option ByteArray}{α:Type}(c:UInt8)(p:ByteArray)
def BM(p:Int)(s:Int×Int):Bool:=decide (s.1<=p)&&decide (p<s.2)
def has(s:List (Int×Int))(p:Int):Bool:=decide (0<=p)&&decide (p<1000000)&&s.any (BM p)
abbrev AN:=List (Int×Int)
def EU(lo:Int):AN->Prop
 | []=>True
 |y::r=>lo<=y.1/\y.1<y.2/\y.2<=1000000/\EU (y.2+1) r
abbrev ED(l:AN):Prop:=EU 0 l
def ZW(x:Int×Int):AN->AN
 | []=>[x]
 |y::r=>if x.2<y.1 then x::y::r else if y.2<x.1 then y::ZW x r else ZW (min x.1 y.1,max x.2 y.2) r
def Hm(x:Int×Int):Int×Int:=(max x.1 0,min x.2 1000000)
def canon:AN->AN
 | []=>[]
 |x::r=>if(Hm x).1<(Hm x).2 then ZW (Hm x) (canon r)else canon r
def GS(at_:Int):AN->AN
 | []=>if at_<1000000 then [(at_,1000000)]else []
 |y::r=>if at_<y.1 then(at_,y.1)::GS y.2 r else GS y.2 r
def BW(s:AN):AN:=GS 0 (canon s)
def Km(l:List AN):AN:=canon l.flatten
def MZ(l:List AN):AN:=BW (l.map BW).flatten
def E3(a b:AN):AN:=Km [a,b]
def GC(a b:AN):AN:=MZ [a,b]
def Vi(a b:AN):AN:=GC a (BW b)
theorem EU.mono{lo IA : Int}:∀{l:AN},EU lo l->IA<=lo->EU IA l
 | [],_,_=>trivial
 |_::_,⟨h1,h2,h3,h4⟩,h=>⟨Int.le_trans h h1,h2,h3,h4⟩
theorem EU.low{lo:Int}:∀{l:AN},EU lo l->∀y∈l,lo<=y.1/\y.1<y.2/\y.2<=1000000
 |y::r,⟨h1,h2,h3,h4⟩,z,hz=>by
  rcases AM.1 hz with rfl | hz
  .omega
  .have:=h4.low z hz
   omega
theorem EC{p:Int}{s:Int×Int}:BM p s=true↔s.1<=p/\p<s.2:=by simp[BM]
theorem PI{lo:Int}{l:AN}(h:EU lo l){p:Int}(hp:l.any (BM p)=true):lo<=p:=by
 obtain⟨y,hy,h2⟩:=Bs.1 hp
 have:=h.low y hy
 grind [EC]
theorem mc{lo:Int}{l:AN}(h:EU lo l){p:Int}(hp:l.any (BM p)=true):p<1000000:=by
 obtain⟨y,hy,h2⟩:=Bs.1 hp
 have:=h.low y hy
 grind [EC]
theorem OF:∀(l:AN) {lo:Int} {x:Int×Int},EU lo l->lo<=x.1->x.1<x.2->x.2<=1000000->EU lo (ZW x l)
 | [],lo,x,_,h1,h2,h3=>⟨h1,h2,h3,trivial⟩
 |y::r,lo,x,⟨g1,g2,g3,g4⟩,h1,h2,h3=>by
  unfold ZW;split
  .exact⟨h1,h2,h3,by omega,g2,g3,g4⟩
  .split
   .exact⟨g1,g2,g3,OF r g4 Wk h2 h3⟩
   .refine OF r (g4.mono Wk) ?_ ?_ ?_<;>dsimp only<;>omega
theorem PF:∀(l:AN) {lo:Int} {x:Int×Int} (p:Int),EU lo l->x.1<x.2->(ZW x l).any (BM p)=(BM p x||l.any (BM p))
 | [],lo,x,p,_,_=>by simp[ZW]
 |y::r,lo,x,p,⟨g1,g2,g3,g4⟩,h2=>by
  unfold ZW;split
  .simp
  .split
   .rw[EX,PF r p g4 h2,EX,<-Bool.or_assoc,<-Bool.or_assoc,Bool.or_comm (BM p y)]
   .rw[PF r p g4 Wk,EX,<-Bool.or_assoc]
    grind [BM]
theorem BE:∀s:AN,ED (canon s)
 | []=>trivial
 |x::r=>by
  unfold canon;split
  .rename_i h;refine OF _ (BE r) ?_ h ?_<;>simp only[Hm]<;>omega
  .exact BE r
theorem K4:∀(s:AN) (p:Int),(canon s).any (BM p)=has s p
 | [],p=>by simp[has,canon]
 |x::r,p=>by
  have ih:=K4 r p
  grind [canon,BM,Hm,PF,BE,has]
theorem Iq{l:AN}(h:ED l)(p:Int):has l p=l.any (BM p):=by
 unfold has;cases e:l.any (BM p)with
 |false=>simp
 |true=>have h1:0<=p:=PI h e;grind [mc]
theorem EA(s:AN)(p:Int):has (canon s) p=has s p:=by
 rw[Iq (BE s),K4]
theorem Od:∀{a b:AN} {lo:Int},EU lo a->EU lo b->(∀p,a.any (BM p)=b.any (BM p))->a=b
 | [],[],_,_,_,_=>rfl
 | [],z::s,_,_,⟨g1,g2,g3,g4⟩,h=>by
  have:=h z.1
  grind [EC]
 |y::r,[],_,⟨g1,g2,g3,g4⟩,_,h=>by
  have:=h y.1
  grind [EC]
 |y::r,z::s,lo,⟨f1,f2,f3,f4⟩,⟨g1,g2,g3,g4⟩,h=>by
  have below:∀{x:Int×Int} {t:AN} {p:Int},EU (x.2+1) t->(x::t).any (BM p)=true->p<=x.2->x.1<=p/\p<x.2:=fun {x t p} ht hp JP=>by
   rw[EX,Ib]at hp;rcases hp with hp | hp
   .exact EC.1 hp
   .have:=PI ht hp;omega
  have low:∀{x:Int×Int} {t:AN} {p:Int},x.1<x.2->EU (x.2+1) t->(x::t).any (BM p)=true->x.1<=p:=fun {x t p} hx ht hp=>by
   grind
  have cov:∀{x:Int×Int} {t:AN} {p:Int},x.1<=p->p<x.2->(x::t).any (BM p)=true:=fun {x t p} h1 h2=>by
   grind [EC]
  have e1:y.1=z.1:=by
   grind
  have e2:y.2=z.2:=by
   rcases Int.lt_trichotomy y.2 z.2 with hl | he | hl
   .grind
   .exact he
   .have:=below g4 ((h z.2).symm.trans (cov Wk hl)) (B4 _);omega
  have e:y=z:=Prod.ext e1 e2;subst e
  congr 1
  refine Od f4 g4 fun p=>?_;have hp:=h p;simp only[EX]at hp;cases hs:BM p y with
  |false=>simp_all
  |true=>
   have:=EC.1 hs
   have n:∀{t:AN},EU (y.2+1) t->t.any (BM p)=false:=fun {t} ht=>by
    rw[BC];intro hx;have:=PI ht hx;omega
   grind
theorem Fy{a b:AN}(ha:ED a)(hb:ED b)(h:∀p,has a p=has b p):a=b:=
 Od ha hb fun p=>by rw[<-Iq ha,<-Iq hb,h]
theorem Ua{a s:AN}(ha:ED a)(h:∀p,has a p=has s p):a=canon s:=
 Fy ha (BE s) fun p=>by rw[h,EA]
theorem J4{a:AN}(ha:ED a):canon a=a:=(Ua ha fun _=>rfl).symm
theorem aj{s t:AN}(h:∀p,has s p=has t p):canon s=canon t:=Fy (BE s) (BE t) fun p=>by grind [EA]
theorem OT{s:AN}{p:Int}(h:has s p=true):0<=p/\p<1000000:=by
 grind [has]
def Qs(p:Int):Bool:=decide (0<=p)&&decide (p<1000000)
theorem LI:∀(l:AN) {at_ lo:Int},0<=at_->EU lo l->lo<=at_+1->at_<=lo->EU at_ (GS at_ l)/\∀p,(GS at_ l).any (BM p)=(decide (at_<=p)&&decide (p<1000000)&&!l.any (BM p))
 | [],at_,lo,h0,_,h1,h2=>by
  unfold GS;split
  .exact⟨⟨B4 _,by omega,B4 _,trivial⟩,fun p=>by simp[BM]⟩
  .refine⟨trivial,fun p=>?_⟩
   grind
 |y::r,at_,lo,h0,⟨g1,g2,g3,g4⟩,h1,h2=>by
  have ih:=LI r (at_:=y.2) Wk g4 (B4 _) Wk;have key:∀p,(decide (at_<=p)&&decide (p<y.1)||(GS y.2 r).any (BM p))=(decide (at_<=p)&&decide (p<1000000)&&!(y::r).any (BM p)):=fun p=>by
   rw[ih.2,EX];cases hr:r.any (BM p)with
   |true=>
    have:=PI g4 hr
    grind
   |false=>
    grind [BM]
  unfold GS;split
  .rename_i h;refine⟨⟨B4 _,h,by omega,ih.1 |> fun c=>?_⟩,fun p=>?_⟩
   .dsimp only;cases e:GS y.2 r with
    |nil=>trivial
    |cons z s=>
     rw[e]at c;exact⟨by have:=c.1;omega,c.2⟩
   .rw[EX,<-key];rfl
  grind [EU.mono]
theorem GT(s:AN):ED (BW s):=by
 grind [BW,LI,BE]
theorem Fu(s:AN)(p:Int):has (BW s) p=(Qs p&&!has s p):=by
 rw[Iq (GT s)];unfold BW;rw[(LI _ (B4 _) (BE s) Wk (B4 _)).2,K4];rfl
theorem d8(a b:AN)(p:Int):has (a++b) p=(has a p||has b p):=by
 grind [has]
theorem MS:∀(l:List AN) (p:Int),has l.flatten p=l.any fun s=>has s p
 | [],p=>by simp[has]
 |s::l,p=>by rw[Cs,d8,MS l p,EX]
theorem UM(l:List AN)(p:Int):has (Km l) p=l.any fun s=>has s p:=by
 unfold Km;rw[EA,MS]
theorem Md(l:List AN):ED (Km l):=BE _
theorem YZ(l:List AN):ED (MZ l):=GT _
theorem UL(l:List AN)(p:Int):has (MZ l) p=(Qs p&&l.all fun s=>has s p):=by
 grind [MZ,Fu,MS,List.any_map]
theorem cN(a b:AN):ED (E3 a b):=BE _
theorem Jc(a b:AN):ED (GC a b):=GT _
theorem jZ(a b:AN)(p:Int):has (E3 a b) p=(has a p||has b p):=by
 grind [E3,UM]
theorem ND(a b:AN)(p:Int):has (GC a b) p=(has a p&&has b p):=by
 grind [GC,UL,OT,Qs]
theorem jY(a b:AN)(p:Int):has (Vi a b) p=(has a p&&!has b p):=by
 grind [Vi,ND,Fu,OT,Qs]
theorem ff(s:AN):GC s s=canon s:=Fy (Jc _ _) (BE _) fun p=>by grind [ND,EA]
theorem Wn{s:AN}:canon s=[]↔∀p,has s p=false:=by
 constructor
 .intro h p;rw[<-EA,h];simp[has]
 .intro h;exact Fy (BE s) (b:=[]) trivial fun p=>by grind [EA,has]
theorem RH{s:AN}(hs:ED s):s=[]↔∀p,has s p=false:=by
 rw[<-Wn,J4 hs]
theorem aq{s t:AN}(h:∀p,has s p=has t p):BW s=BW t:=by grind [BW,aj]
theorem Ys(s:AN):BW (canon s)=BW s:=aq (EA s)
theorem bA{a b c d:AN}(h:∀p,has a p=has c p)(k:∀p,has b p=has d p):GC a b=GC c d:=
 Fy (Jc _ _) (Jc _ _) fun p=>by grind [ND]
def mP(l:List AN)(p:Int):Nat:=l.countP fun s=>has s p
theorem T9:∀{l:AN} {lo:Int},EU lo l->lo<=1000000->(l.length:Int)<=1000000-lo
 | [],lo,_,h=>by simp_all
 |y::r,lo,⟨g1,g2,g3,g4⟩,h=>by
  by_cases h3:y.2+1<=1000000
  .have:=T9 g4 h3
   grind
  .cases r with
   |nil=>grind
   |cons z s=>have:=g4.1;have:=g4.2.1;have:=g4.2.2.1;omega
theorem Fb{l:AN}(h:ED l):l.length<=1000000:=by have:=T9 h Wk;omega
structure Ver where
 (a b c:Int)
variable (v:Ver)
structure Rq where
 path:ByteArray
 set:List (Int×Int)
variable {roots:List Rq}(q:Rq)
structure Rl where
 path:ByteArray
 ver:Ver
 reqs:List Rq
 (arch ifc cert:ByteArray)
 yanked:Bool
variable {x:List Rl}(r:Rl)
structure Sl where
 path:ByteArray
 ver:Ver
variable {s:List Sl}{y:Sl}
structure Tm where
 path:ByteArray
 absent:Bool
 set:List (Int×Int)
variable (l:List Tm)(u t:Tm)
structure Nf where
 kind:Int
 path:ByteArray
 (place number left right:Int)
structure Sk where
 path:ByteArray
 (place inf:Int)
structure An where
 found:Bool
 sel:List Sl
 infs:List Nf
 skips:List Sk
instance:DecidableEq Ver:=fun x y=>decidable_of_iff (x.a=y.a/\x.b=y.b/\x.c=y.c) ⟨fun⟨h1,h2,h3⟩=>by cases x<;>simp_all,fun h=>by simp_all⟩
instance:DecidableEq Sl:=fun x y=>decidable_of_iff (x.path=y.path/\x.ver=y.ver) ⟨fun⟨h1,h2⟩=>by cases x<;>simp_all,fun h=>by simp_all⟩
instance:DecidableEq Tm:=fun x y=>decidable_of_iff (x.path=y.path/\x.absent=y.absent/\x.set=y.set) ⟨fun⟨h1,h2,h3⟩=>by cases x<;>simp_all,fun h=>by simp_all⟩
theorem xO{x y:Tm}(h1:x.path=y.path)(h2:x.absent=y.absent)(h3:x.set=y.set):x=y:=by cases x<;>simp_all
def okPart(n:Int):Prop:=0<=n/\n<=999
instance (n:Int):Decidable (okPart n):=by unfold okPart;infer_instance
def Bv:Bool:=decide (okPart v.a)&&decide (okPart v.b)&&decide (okPart v.c)
def place:Int:=1000*v.b+v.c
def plc:Int:=if Bv v then place v else 0
def MA:Sl:=⟨⟨#[]⟩,⟨0,0,0⟩⟩
def AE(s:List Sl)(p:ByteArray):Option Sl:=s.find? fun x=>decide (x.path=p)
def E9(s:List Sl):Bool:=
 match s.find? (fun x=>decide (x.path=t.path))with
 |none=>t.absent
 |some x=>Bv x.ver&&has t.set (place x.ver)
def BP(s:List Sl)(p:ByteArray):Bool:=s.any fun x=>decide (x.path=p)
def AX(s:List Sl):Bool:=l.all fun t=>E9 t s
def Bq(s:List Sl):Bool:=AX l s&&!l.any fun t=>!BP s t.path
def cJ(a:An):Bool:=decide (a.infs.length<=400)&&decide (a.sel.length<=16)&&decide (a.skips.length<=100)
def Lc:List UInt8->List UInt8->Bool
 | [],[]=>false
 | [],_::_=>true
 |_::_,[]=>false
 |a::x,b::y=>decide (a<b)||(decide (a=b)&&Lc x y)
def Ek(a b:ByteArray):Bool:=Lc a.data.toList b.data.toList
theorem SH:∀x,Lc x x=false
 | []=>rfl
 |a::x=>by
  unfold Lc;simp[SH x]
theorem Vd:∀{x y z},Lc x y=true->Lc y z=true->Lc x z=true
 | [],[],_,h,_=>by omega
 | [],_::_,[],_,h=>by grind [Lc]
 | [],_::_,_::_,_,_=>rfl
 |_::_,[],_,h,_=>by grind [Lc]
 |_::_,_::_,[],_,h=>by grind [Lc]
 |a::x,b::y,c::z,h1,h2=>by
  unfold Lc at *
  simp only[Ib,Aq,A4]at *
  rcases h1 with h1 | ⟨rfl,h1⟩
  .grind
  .rcases h2 with h2 | ⟨rfl,h2⟩
   .simp_all
   .exact .inr ⟨rfl,Vd h1 h2⟩
theorem bI:∀{x y},Lc x y=false->Lc y x=false->x=y
 | [],[],_,_=>rfl
 | [],_::_,h,_=>by grind [Lc]
 |_::_,[],_,h=>by grind [Lc]
 |a::x,b::y,h1,h2=>by
  unfold Lc at *
  simp only[Bool.or_eq_false_iff,Bool.and_eq_false_iff,decide_eq_false_iff_not]at *
  have e:a=b:=by
   grind
  subst e
  have:=bI (x:=x) (y:=y) aa0 aa0
  simp_all
theorem Ad6(h:a.data.toList=b.data.toList):a=b:=by
 cases a<;>simp_all
theorem Dd(a:ByteArray):Ek a a=false:=SH _
theorem D2{c:ByteArray}(h:Ek a b=true)(k:Ek b c=true):Ek a c=true:=Vd h k
theorem Ik(h:Ek a b=false)(k:Ek b a=false):a=b:=Ad6 (bI h k)
theorem T3(h:Ek a b=true):a≠b:=fun e=>by grind [Dd]
theorem jr(h:Ek a b=true):Ek b a=false:=by
 grind [D2,Dd]
def Dp:Tm:=⟨t.path,t.absent,canon t.set⟩
def ET:Tm:=⟨u.path,u.absent&&t.absent,GC u.set t.set⟩
def HJ(t:Tm):List Tm->List Tm
 | []=>[Dp t]
 |u::r=>if Ek u.path t.path then u::HJ t r else if u.path=t.path then ET u t::r else Dp t::u::r
def Ds:List Tm:=l.foldl (fun acc t=>HJ t acc) []
def F7:Bool:=!t.absent&&t.set.isEmpty
def Fx:Bool:=t.absent&&decide (t.set=[(0,1000000)])
def Bj:Option (List Tm):=if(Ds l).any F7 then none else some ((Ds l).filter fun t=>!Fx t)
def H:List Tm:=(Bj l).getD []
def DG:Tm:=⟨q.path,true,BW q.set⟩
def GE:List Tm:=H [DG q]
def BU(path:ByteArray)(pl:Int)(q:Rq):List Tm:=H [⟨path,false,[(pl,pl+1)]⟩,DG q]
def Eh(path:ByteArray)(yP:AN):List Tm:=H [⟨path,false,BW yP⟩]
def Dw(p:ByteArray):Option Tm:=l.find? fun t=>decide (t.path=p)
def AH(p:ByteArray):List Tm:=l.filter fun t=>!decide (t.path=p)
def CP(a b:Tm):Tm:=⟨a.path,a.absent||b.absent,E3 a.set b.set⟩
def D1(p:ByteArray):Option (Tm×List Tm):=match Bj l with
 |none=>none
 |some c=>match Dw c p with
  |none=>none
  |some t=>some (t,AH c p)
def AU(a b:List Tm)(p:ByteArray):List Tm×Int:=
 match D1 a p,D1 b p with
 |some (t,r),some (u,m)=>match Bj (r++m++[CP t u])with
  |some o=>(o,0)
  |none=>([],8)
 |_,_=>([],1)
def BL(lo:Option ByteArray):List Tm->Prop
 | []=>True
 |t::r=>(∀p,lo=some p->Ek p t.path=true)/\ED t.set/\BL (some t.path) r
theorem BL.weak:∀{l:List Tm},BL lo l->BL none l
 | [],_=>trivial
 |_::_,⟨_,h2,h3⟩=>⟨fun _ h=>(by cases h),h2,h3⟩
theorem BL.low{p:ByteArray}:∀{l:List Tm},BL (some p) l->∀t∈l,Ek p t.path=true
 |t::r,⟨h1,h2,h3⟩,u,hu=>by
  rcases AM.1 hu with rfl | hu
  .simp_all
  .exact D2 (h1 p rfl) (h3.low u hu)
theorem BL.canon{lo:Option ByteArray}:∀{l:List Tm},BL lo l->∀t∈l,ED t.set
 |t::r,⟨h1,h2,h3⟩,u,hu=>by
  rcases AM.1 hu with rfl | hu
  .exact h2
  .exact h3.canon u hu
theorem BL.mono{p q:ByteArray}:∀{l:List Tm},BL (some p) l->Ek q p=true->BL (some q) l
 | [],_,_=>trivial
 |t::r,⟨h1,h2,h3⟩,h=>⟨fun _ e=>by grind [D2],h2,h3⟩
theorem MY:∀{l:List Tm} {lo:Option ByteArray} (t:Tm),BL lo l->(∀p,lo=some p->Ek p t.path=true)->BL lo (HJ t l)
 | [],lo,t,_,h=>⟨h,BE _,trivial⟩
 |u::r,lo,t,⟨h1,h2,h3⟩,h=>by
  unfold HJ;split
  .rename_i E4;exact⟨h1,h2,MY t h3 fun p e=>by simp_all⟩
  .rename_i E4;split
   .rename_i he;exact⟨h1,Jc _ _,h3⟩
   .rename_i he;refine⟨h,BE _,fun p e=>?_,h2,h3⟩;cases e
    have:Ek u.path t.path=false:=aa0
    cases hb:Ek t.path u.path with
    |true=>exact hb
    |false=>grind [Ik]
theorem Qj:∀(l acc:List Tm),BL none acc->BL none (l.foldl (fun acc t=>HJ t acc) acc)
 | [],_,h=>h
 |t::l,acc,h=>Qj l _ (MY t h fun _ e=>by cases e)
theorem DT:BL none (Ds l):=Qj l [] trivial
theorem EV(r:List Tm)(p:ByteArray):Dw (t::r) p=if t.path=p then some t else Dw r p:=by
 grind [Dw]
theorem Kw{p q:ByteArray}{l:List Tm}(h:BL (some p) l)(hq:Ek p q=false):Dw l q=none:=by
 grind [Dw,BL.low]
def Ti(o:Option Tm)(t:Tm):Tm:=match o with | none=>Dp t | some u=>ET u t
theorem RM(o:Option Tm)(t:Tm)(h:∀u,o=some u->u.path=t.path):(Ti o t).path=t.path:=by
 cases o with
 |none=>rfl
 |some u=>exact h u rfl
theorem LL{l:List Tm}{p:ByteArray}{u:Tm}(h:Dw l p=some u):u.path=p:=by
 have:=FI h;simp_all
theorem Ha{l:List Tm}{p:ByteArray}{u:Tm}(h:Dw l p=some u):u∈l:=Bh h
theorem Ux:∀{l:List Tm} {lo:Option ByteArray} (t:Tm) (p:ByteArray),BL lo l->Dw (HJ t l) p=if t.path=p then some (Ti (Dw l p) t)else Dw l p
 | [],lo,t,p,_=>by
  grind [HJ,Dp,Dw,Ti]
 |u::r,lo,t,p,⟨h1,h2,h3⟩=>by
  unfold HJ;split
  .rename_i E4;rw[EV,EV,Ux t p h3]
   grind [T3]
  grind [EV,ET,Ti,Dp,Kw]
def KJ(o:Option Tm)(t:Tm):Option Tm:=if t.path=p then some (Ti o t)else o
theorem Sy(p:ByteArray):∀(l acc:List Tm),BL none acc->Dw (l.foldl (fun acc t=>HJ t acc) acc) p=l.foldl (KJ p) (Dw acc p)
 | [],_,_=>rfl
 |t::l,acc,h=>by
  rw[FJ,Sy p l _ (MY t h fun _ e=>by cases e),Ux t p h];rfl
theorem JM(p:ByteArray):Dw (Ds l) p=l.foldl (KJ p) none:=Sy p l [] trivial
theorem Np:∀{a b:List Tm} {lo:Option ByteArray},BL lo a->BL lo b->(∀p,Dw a p=Dw b p)->a=b
 | [],[],_,_,_,_=>rfl
 | [],z::s,_,_,_,h=>by have:=h z.path;rw[EV,A1 rfl]at this;cases this
 |z::s,[],_,_,_,h=>by have:=h z.path;rw[EV,A1 rfl]at this;cases this
 |y::r,z::s,lo,⟨f1,f2,f3⟩,⟨g1,g2,g3⟩,h=>by
  have e:y=z:=by
   have a1:=h y.path;have a2:=h z.path
   grind [EV,BL.low,Ha,D2,Dd]
  subst e
  congr 1
  refine Np f3 g3 fun p=>?_;have hp:=h p
  grind [EV,Kw,Dd]
theorem BL.filter(q:Tm->Bool):∀{l:List Tm} {lo:Option ByteArray},BL lo l->BL lo (l.filter q)
 | [],_,_=>trivial
 |t::r,lo,⟨h1,h2,h3⟩=>by
  have ih:=BL.filter q h3;rw[List.filter_cons];split
  .exact⟨h1,h2,ih⟩
  .cases lo<;>grind [BL.weak,BL.mono]
theorem GZ{l:List Tm}{t:Tm}(h:BL lo l):t∈l↔Dw l t.path=some t:=by
 constructor
 .induction l generalizing lo with
  |nil=>simp_all
  |cons u r ih=>
   intro ht;rw[EV];rcases AM.1 ht with rfl | ht
   .simp_all
   .have:=BL.low h.2.2 t ht
    rw[AL (T3 this)];exact ih h.2.2 ht
 .exact Ha
def Dj(o:Option Sl):Bool:=match o with | none=>t.absent | some x=>Bv x.ver&&has t.set (place x.ver)
theorem nX(s:List Sl):E9 t s=Dj t (AE s t.path):=by
 unfold E9 Dj AE;rfl
theorem Kv{p:ByteArray}{x:Sl}(h:AE s p=some x):x.path=p:=by
 have:=FI h;simp_all
theorem GY{p:ByteArray}{x:Sl}(h:AE s p=some x):x∈s:=Bh h
theorem Ky{p:ByteArray}:BP s p=(AE s p).isSome:=by
 grind [BP,AE]
theorem eJ(o:Option Sl):Dj (Dp t) o=Dj t o:=by
 unfold Dj Dp;grind [EA]
theorem bh(o:Option Sl):Dj (ET u t) o=(Dj u o&&Dj t o):=by
 unfold Dj ET;cases o<;>grind [ND]
theorem Om(o:Option Sl):Dj (CP u t) o=(Dj u o||Dj t o):=by
 unfold Dj CP;cases o<;>grind [jZ]
def je(o:Option Sl)(l:List Tm):Bool:=l.all fun t=>!decide (t.path=p)||Dj t o
theorem Kx(p:ByteArray)(o:Option Sl):∀(l:List Tm) (a:Option Tm),(∀u,a=some u->u.path=p) ->
  (l.foldl (KJ p) a=none↔a=none/\l.all (fun t=>!decide (t.path=p))=true)/\(∀u,l.foldl (KJ p) a=some u->u.path=p/\Dj u o=((match a with | none=>true | some b=>Dj b o)&&je p o l))
 | [],a,ha=>by
  grind [je]
 |t::l,a,ha=>by
  rw[FJ]
  by_cases e:t.path=p
  .have hs:KJ p a t=some (Ti a t):=by grind [KJ]
   rw[hs];have ih:=Kx p o l (some (Ti a t)) (fun u h=>by grind [RM])
   grind [je,Ti,eJ,bh]
  .have hs:KJ p a t=a:=by grind [KJ]
   rw[hs];have ih:=Kx p o l a ha
   grind [je]
theorem Bu{l:List Tm}:AX l s=true↔∀t∈l,Dj t (AE s t.path)=true:=by
 grind [AX,nX]
theorem Mn(s:List Sl):AX (Ds l) s=AX l s:=by
 rw[CI,Bu,Bu];constructor
 .intro h t ht
  have:=Kx t.path (AE s t.path) l none (fun _ e=>by cases e)
  rw[<-JM]at this;cases e:Dw (Ds l) t.path<;>grind [Ha,je]
 .intro h u hu;have e:=(GZ (DT l)).1 hu
  have:=Kx u.path (AE s u.path) l none (fun _ e=>by cases e)
  grind [JM,je]
theorem fB{t:Tm}(h:F7 t=true)(o:Option Sl):Dj t o=false:=by
 unfold F7 at h;simp only[Aq,EY,Jh]at h;unfold Dj
 grind [has]
def Gv(s:List Sl):Prop:=∀x∈s,Bv x.ver=true
theorem FE{v:Ver}(h:Bv v=true):0<=v.a/\v.a<=999/\0<=v.b/\v.b<=999/\0<=v.c/\v.c<=999:=by
 unfold Bv at h;simp only[Aq]at h;obtain⟨⟨a,b⟩,c⟩:=h;obtain⟨a1,a2⟩:=Db a;obtain⟨b1,b2⟩:=Db b;obtain⟨c1,c2⟩:=Db c<;>simp_all
theorem Kf{v:Ver}(h:Bv v=true):0<=place v/\place v<1000000:=by
 have:=FE h;grind [place]
theorem Wj{t:Tm}(h:Fx t=true)(hs:Gv s):Dj t (AE s t.path)=true:=by
 unfold Fx at h;simp only[Aq,A4]at h;unfold Dj;cases e:AE s t.path with
 |none=>exact h.1
 |some x=>
  have:=hs x (GY e)
  grind [Kf,has,BM]
theorem Dn{l:List Tm}(hs:Gv s):AX l s=(match Bj l with | none=>false | some c=>AX c s):=by
 unfold Bj;split
 .rename_i h;split at h
  .rename_i hn;rw[<-Mn,BC]
   grind [Bu,fB]
  simp_all
 .rename_i c h;split at h
  .cases h
  .rename_i hn;cases h;rw[<-Mn,CI,Bu,Bu]
   grind [Wj]
theorem HE(a b:List Tm)(s:List Sl):AX (a++b) s=(AX a s&&AX b s):=by grind [AX]
theorem E7{l c:List Tm}(h:Bj l=some c):BL none c:=by
 grind [Bj,BL.filter,DT]
theorem G3{l r:List Tm}{p:ByteArray}{t:Tm}(hs:Gv s)(h:D1 l p=some (t,r)):AX l s=(Dj t (AE s p)&&AX r s)/\t.path=p:=by
 unfold D1 at h;cases hc:Bj l with
 |none=>simp_all
 |some c=>
  rw[hc]at h;dsimp only at h;cases hf:Dw c p with
  |none=>simp_all
  |some u=>
   rw[hf]at h;cases h;have hp:=LL hf;refine⟨?_,hp⟩;rw[Dn hs,hc];dsimp only;rw[CI,Aq,Bu,Bu];constructor
   .intro h
    have:=h t (Ha hf)
    rw[hp]at this;exact⟨this,fun v hv=>h v (Cw.1 hv).1⟩
   .intro⟨h1,h2⟩ v hv
    by_cases e:v.path=p
    .have:=(GZ (E7 hc)).1 hv
     simp_all
    .exact h2 v (Cw.2 ⟨hv,by simp[e]⟩)
theorem VK{a b o:List Tm}{p:ByteArray}(hs:Gv s)(h:AU a b p=(o,0))(hv:AX o s=true):AX a s=true\/AX b s=true:=by
 unfold AU at h;cases h1:D1 a p with
 |none=>simp_all
 |some x=>
  cases h2:D1 b p with
  |none=>simp_all
  |some y=>
   obtain⟨t,r⟩:=x;obtain⟨u,m⟩:=y;rw[h1,h2]at h;dsimp only at h;cases hc:Bj (r++m++[CP t u])with
   |none=>simp_all
   |some c=>
    rw[hc]at h
    have:c=o:=aa0
    subst this;have e:=Dn (l:=r++m++[CP t u]) hs;rw[hc]at e;dsimp only at e;rw[hv,HE,HE]at e;simp only[Aq]at e;obtain⟨⟨e1,e2⟩,e3⟩:=e;obtain⟨va,pa⟩:=G3 hs h1;obtain⟨I,pb⟩:=G3 hs h2;have e3:=Bu.1 e3 _ (AI.2 rfl)
    grind [CP,Om]
theorem RI{l:List Tm}(hs:Gv s)(ER:H l≠[]):AX (H l) s=AX l s:=by
 grind [Dn,H]
-- paths
def EP:Bool:=decide (97<=c)&&decide (c<=122)
def MH:Bool:=decide (65<=c)&&decide (c<=90)
def Cu:Bool:=decide (48<=c)&&decide (c<=57)
def FV:Bool:=EP c||MH c||Cu c||decide (c=95)
def fm:List UInt8:=[32,97,110,100,32,97,110,121,32,97,115,32,98,111,111,108,32,100,101,112,114,101,99,97,116,101,100,32,101,108,115,101,32,101,120,112,111,114,116,32,102,97,108,115,101,32,102,110,32,102,111,108,100,32,102,114,111,109,32,105,102,32,105,109,112,111,114,116,32,105,110,32,105,110,116,32,108,101,110,103,116,104,32,108,101,116,32,108,105,115,116,32,109,97,116,99,104,32,109,111,100,117,108,101,32,110,111,110,101,32,110,111,116,32,111,114,32,116,101,120,116,32,116,104,101,110,32,116,114,117,101,32,116,121,112,101,32,117,115,101,32]
def QN:List UInt8->List UInt8->Bool
 | [],_=>true
 |_::_,[]=>false
 |a::x,b::y=>decide (a=b)&&QN x y
def qD(x:List UInt8):List UInt8->Bool
 | []=>QN x []
 |b::y=>QN x (b::y)||qD x y
def Wv(s:List UInt8):Bool:=qD (32::(s++[32])) fm
def GD(s:List UInt8):Bool:=!s.isEmpty&&decide (s.length<=32)&&EP (s.headD 0)&&s.all FV&&!Wv s
def H2(s:List UInt8):Bool:=GD s&&s.all fun c=>EP c||Cu c
def D7(s:List UInt8):Int:=s.foldl (fun n c=>10*n+((c.toNat:Int)-48)) 0
def Gx(s:List UInt8):Option Int:=match s with
 |c::r=>if c=118 then(if r.isEmpty||decide (3<r.length)||(decide (1<r.length)&&decide (r.headD 0=48))||!r.all Cu then none else some (D7 r))else none
 | []=>none
def CJ(c:UInt8):List UInt8->List (List UInt8)
 | []=>[[]]
 |b::r=>if b=c then []::CJ c r else match CJ c r with
  | []=>[[b]]
  |x::l=>(b::x)::l
def Pd(p:List UInt8):Option Int:=match Gx ((CJ 47 p).getLastD [])with
 |none=>none
 |some n=>if 64<p.length||(CJ 47 p).length<2 then none else if(CJ 47 p).all H2 then some n else none
def AP:Option Int:=Pd p.data.toList
-- indexes
def Hd(before:Option ByteArray)(q:Rq):Int:=
 if(AP q.path).isNone then 4 else if q.set.isEmpty||!decide (q.set=canon q.set)||(match before with | some b=>!Ek b q.path | none=>false)then 1 else 0
def DL(before:Option ByteArray):List Rq->Int
 | []=>0
 |q::r=>if Hd before q=0 then DL (some q.path) r else Hd before q
def AK(l:List Rq):Int:=if 16<l.length then 7 else DL none l
def CK(s:ByteArray):Bool:=decide (s.size=0)||decide (s.size=32)
def CE:Int:=match AP r.path with
 |none=>4
 |some m=>if !Bv r.ver||!decide (r.ver.a=m)then 2 else if AK r.reqs≠0 then AK r.reqs else if CK r.arch&&CK r.ifc&&CK r.cert then 0 else 1
def Gk(a b:Int):Int:=if a<b then -1 else if b<a then 1 else 0
def JH(a b:ByteArray):Int:=if Ek a b then -1 else if Ek b a then 1 else 0
def JI(a b:Ver):Int:=if Gk a.a b.a≠0 then Gk a.a b.a else if Gk a.b b.b≠0 then Gk a.b b.b else Gk a.c b.c
def I7(a b:Rl):Int:=if JH a.path b.path≠0 then JH a.path b.path else JI a.ver b.ver
def Cr:Sl:=⟨r.path,r.ver⟩
def BR(before:Option Rl):List Rl->Int
 | []=>0
 |r::l=>if CE r≠0 then CE r else match before with
  |none=>BR (some r) l
  |some b=>if Cr b=Cr r then 5 else if 0<I7 b r then 1 else BR (some r) l
def Aw(l:List Rl):Int:=if 256<l.length then 7 else BR none l
def AW(x:List Rl)(y:Sl):Option Rl:=if Aw x≠0 then none else x.find? fun r=>decide (Cr r=y)
def IL(x:List Rl)(p:ByteArray):List Rl:=if Aw x≠0 then []else x.filter fun r=>decide (r.path=p)
def Ba(x:List Rl)(p:ByteArray):AN:=canon (((IL x p).filter fun r=>!r.yanked).map fun r=>(plc r.ver,plc r.ver+1))
def La(before:Option ByteArray):List Sl->Bool
 | []=>true
 |y::r=>(match before with |some b=>Ek b y.path |none=>true)&&La (some y.path) r
def Be(s:List Sl):Bool:=La none s
-- solutions
def F9(x:List Rl):List Sl->Option (List Rl)
 | []=>some []
 |y::s=>match AW x y with
  |none=>none
  |some r=>match F9 x s with
   |none=>none
   |some l=>some (r::l)
def Ck(l:List Rl)(q:Rq):Bool:=match l.find? (fun r=>decide (r.path=q.path))with
 |none=>true
 |some r=>!has q.set (plc r.ver)
def Fj(l:List Rl)(p:ByteArray):List Rq:=match l.find? (fun r=>decide (r.path=p))with
 |none=>[]
 |some r=>r.reqs
def FD(l:List Rl):Nat->List Rq->List ByteArray->List ByteArray
 |0,_,d=>d
 |_+1,[],d=>d
 |n+1,q::t,d=>if d.any (fun p=>decide (p=q.path))then FD l n t d else FD l n (t++Fj l q.path) (d++[q.path])
def HU(l:List Rl)(roots:List Rq):Nat:=roots.length+(l.map fun r=>r.reqs.length).foldl (·+·) 0+1
def Do(x:List Rl)(roots:List Rq)(s:List Sl):Int:=
 if Aw x≠0 then 1 else if !Be s then 1 else match F9 x s with
  |none=>6
  |some l=>if l.any (fun r=>r.reqs.any (Ck l))then 17 else if roots.any (Ck l)then 17 else
   if(FD l (HU l roots) roots []).length<l.length then 8 else 0
-- derivations
def Dt(x:List Rl)(p:ByteArray)(pl:Int):Option Rl:=x.find? fun r=>decide (r.path=p)&&decide (plc r.ver=pl)
def R:ByteArray:=⟨#[]⟩
def DU(l:List α)(i:Int):Option α:=if i<0 then none else l[i.toNat]?
def Ph:Option (List Tm):=if l.isEmpty then none else some l
def AR(x:List Rl)(roots:List Rq)(d:List (List Tm))(i:Nf):Option (List Tm):=
 if i.kind=0 then
  if i.path=R/\i.place=0/\i.left=0/\i.right=0 then(DU roots i.number).map GE else none
 else if i.kind=1 then
  if i.left=0/\i.right=0 then match Dt x i.path i.place with
   |none=>none
   |some r=>match DU r.reqs i.number with
    |none=>none
    |some q=>Ph (BU i.path i.place q)
  else none
 else if i.kind=2 then
  if i.place=0/\i.number=0/\i.left=0/\i.right=0 then Ph (Eh i.path (Ba x i.path))else none
 else if i.kind=3 then
  if i.place=0/\i.number=0 then match DU d i.left,DU d i.right with
   |some a,some b=>if(AU a b i.path).2=0 then some (AU a b i.path).1 else none
   |_,_=>none
  else none
 else none
def BI(x:List Rl)(roots:List Rq):List Nf->List (List Tm)->Option (List (List Tm))
 | [],d=>some d
 |i::l,d=>match AR x roots d i with
  |none=>none
  |some t=>BI x roots l (d++[t])
def A5(x:List Rl)(roots:List Rq)(l:List Nf):List (List Tm)×Int:=
 if Aw x≠0\/AK roots≠0 then([],1)else if 65536<l.length then([],7)else match BI x roots l []with
  |none=>([],18)
  |some d=>(d,0)
def EN(d:List (List Tm)):Bool:=match d.getLast? with | some []=>true | _=>false
def Gn(x:List Rl)(roots:List Rq)(l:List Nf):Int:=
 if(A5 x roots l).2≠0 then(A5 x roots l).2 else if EN (A5 x roots l).1 then 0 else 18
-- decisions
def CO(before:List Sl):List Rq->Option ByteArray->Option ByteArray
 | [],acc=>acc
 |q::l,acc=>CO before l (if BP before q.path then acc else match acc with
  |none=>some q.path
  |some p=>if Ek q.path p then some q.path else some p)
def DH(needs:List Rq)(before:List Sl):Option ByteArray:=CO before needs none
structure WH where
 before:List Sl
 needs:List Rq
 rel:Rl
def Ef(x:List Rl)(s:List Sl):Nat->List Sl->List Rq->List WH×Bool
 |0,_,_=>([],true)
 |n+1,before,needs=>match DH needs before with
  |none=>([],true)
  |some p=>match AE s p with
   |none=>([],false)
   |some y=>match AW x y with
    |none=>([],false)
    |some r=>(⟨before,needs,r⟩::(Ef x s n (before++[y]) (needs++r.reqs)).1,(Ef x s n (before++[y]) (needs++r.reqs)).2)
def visits(x:List Rl)(roots:List Rq)(s:List Sl):List WH×Bool:=Ef x s (s.length+1) [] roots
-- answers
def DM(d:List (List Tm))(v:WH):List Rl->List Sk->List Sk×Bool
 | [],k=>(k,true)
 |o::x,k=>
  if !decide (o.path=v.rel.path)||o.yanked||!decide (plc o.ver<plc v.rel.ver)then DM d v x k else
  if v.needs.any (fun q=>decide (q.path=v.rel.path)&&!has q.set (plc o.ver))then DM d v x k else
  match k with
  | []=>([],false)
  |y::k'=>if !decide (y.path=v.rel.path)||!decide (y.place=plc o.ver)then([],false)else match DU d y.inf with
   |none=>([],false)
   |some t=>if Bq t (v.before++[Cr o])then DM d v x k' else([],false)
def Cf(x:List Rl)(d:List (List Tm))(a:Bool×List Sk)(v:WH):Bool×List Sk:=
 (a.1&&(DM d v x a.2).2&&!v.rel.yanked,(DM d v x a.2).1)
def Di(x:List Rl)(roots:List Rq)(a:An):Int:=
 if(A5 x roots a.infs).2≠0 then(A5 x roots a.infs).2 else
 if a.found=false then(if !a.sel.isEmpty||!a.skips.isEmpty||!EN (A5 x roots a.infs).1 then 18 else 0)else
 if Do x roots a.sel≠0 then 18 else
 if(((visits x roots a.sel).1.foldl (Cf x (A5 x roots a.infs).1) (true,a.skips)).1&&((visits x roots a.sel).1.foldl (Cf x (A5 x roots a.infs).1) (true,a.skips)).2.isEmpty)then 0 else 18
-- the example
def bs(l:List UInt8):ByteArray:=⟨⟨l⟩⟩
-- the order of releases
theorem K5{a b:Int}(h:Gk a b=0):a=b:=by
 grind [Gk]
theorem Yr{a b:Int}(h:Gk a b<0):a<b:=by
 grind [Gk]
theorem W2(h:JH a b=0):a=b:=by
 grind [JH,Ik]
theorem rp(h:JH a b<0):Ek a b=true:=by
 grind [JH]
def uU(a b:Ver):Prop:=a.a<b.a\/(a.a=b.a/\(a.b<b.b\/(a.b=b.b/\a.c<b.c)))
def kF(a b:Rl):Prop:=Ek a.path b.path=true\/(a.path=b.path/\uU a.ver b.ver)
theorem ru{a b:Ver}(h:JI a b<0):uU a b:=by
 unfold JI at h;split at h
 .exact .inl (Yr h)
 .rename_i h1;have h1:=K5 (BV.1 h1);split at h
  .exact .inr ⟨h1,.inl (Yr h)⟩
  .rename_i h2;exact .inr ⟨h1,.inr ⟨K5 (BV.1 h2),Yr h⟩⟩
theorem jA{a b:Ver}(h:JI a b=0):a=b:=by
 unfold JI at h;split at h
 .omega
 .rename_i h1;have h1:=K5 (BV.1 h1);split at h
  .omega
  .rename_i h2;have h2:=K5 (BV.1 h2);have h3:=K5 h;cases a<;>simp_all
theorem W3{a b:Rl}(h:I7 a b=0):Cr a=Cr b:=by
 grind [I7,W2,jA,Cr]
theorem rr{a b:Rl}(h:I7 a b<0):kF a b:=by
 unfold I7 at h;split at h
 .exact .inl (rp h)
 .rename_i h1;exact .inr ⟨W2 (BV.1 h1),ru h⟩
theorem kH{a b c:Ver}(h:uU a b)(k:uU b c):uU a c:=by grind [uU]
theorem kG{a b c:Rl}(h:kF a b)(k:kF b c):kF a c:=by
 rcases h with h | ⟨h1,h2⟩
 .rcases k with k | ⟨k1,k2⟩
  .exact .inl (D2 h k)
  .exact .inl (k1▸h)
 .rcases k with k | ⟨k1,k2⟩
  .exact .inl (h1▸k)
  .exact .inr ⟨h1.trans k1,kH h2 k2⟩
theorem Pc{a b:Rl}(h:kF a b)(k:Cr a=Cr b):False:=by
 unfold Cr at k;simp only[Sl.mk.injEq]at k;rcases h with h | ⟨_,h⟩<;>grind [Dd,uU]
-- a valid index
structure JE(r:Rl):Prop where
 maj:AP r.path=some r.ver.a
 val:Bv r.ver=true
 reqs:AK r.reqs=0
theorem Ub{r:Rl}(h:CE r=0):JE r:=by
 grind [CE,JE.mk]
theorem PR:∀{l:List Rl} {b:Option Rl},BR b l=0->(∀r∈l,JE r)/\(l.Pairwise kF/\∀c,b=some c->∀r∈l,kF c r)
 | [],b,_=>⟨fun _ h=>(by cases h),.nil,fun _ _ _ h=>(by cases h)⟩
 |r::l,b,h=>by
  unfold BR at h;split at h
  .omega
  .rename_i h1;have hr:=Ub (BV.1 h1);have go:BR (some r) l=0->(∀c,b=some c->kF c r)->(∀z∈r::l,JE z)/\((r::l).Pairwise kF/\∀c,b=some c->∀z∈r::l,kF c z):=fun h hc=>by
    obtain⟨i1,i2,i3⟩:=PR h<;>grind [kG,List.Pairwise.cons]
   grind [rr,W3]
theorem Bp{l:List Rl}(h:Aw l=0):(∀r∈l,JE r)/\l.Pairwise kF:=by
 grind [Aw,PR]
theorem U6{l:List Rl}(h:l.Pairwise kF){a b:Rl}(ha:a∈l)(hb:b∈l)(hk:Cr a=Cr b):a=b:=by
 induction h<;>grind [Pc]
theorem ZF{a b:Ver}(ha:Bv a=true)(hb:Bv b=true)(h1:a.a=b.a)(h2:place a=place b):a=b:=by
 have:=FE ha
 have:=FE hb
 unfold place at h2;have e1:a.b=b.b:=Wk
 have e2:a.c=b.c:=Wk
 cases a<;>simp_all
theorem JE.plc{r:Rl}(h:JE r):plc r.ver=place r.ver:=by grind [plc,JE.val]
theorem iM{l:List Rl}(h:(∀r∈l,JE r)/\l.Pairwise kF){a b:Rl}(ha:a∈l)(hb:b∈l)(h1:a.path=b.path)(h2:place a.ver=place b.ver):a=b:=by
 grind [U6,Cr,ZF,JE.maj,JE.val]
theorem Ce{r:Rl}(h:AW x y=some r):Aw x=0/\r∈x/\Cr r=y:=by
 grind [AW]
structure lS(x:List Rl)(roots:List Rq)(s:List Sl):Prop where
 ix:Aw x=0
 inc:Be s=true
 fnd:∀y∈s,∃r,AW x y=some r/\r.yanked=false
 root:∀q∈roots,∃y,AE s q.path=some y/\has q.set (place y.ver)=true
 req:∀y∈s,∀r,AW x y=some r->∀q∈r.reqs,∃z,AE s q.path=some z/\has q.set (place z.ver)=true
theorem HI:∀{s:List Sl} {b:Option ByteArray},La b s=true->s.Pairwise (fun a b=>Ek a.path b.path=true)/\∀c,b=some c->∀y∈s,Ek c y.path=true
 | [],_,_=>⟨.nil,fun _ _ _ h=>by cases h⟩
 |y::r,b,h=>by
  unfold La at h;simp only[Aq]at h;obtain⟨h1,h2⟩:=h;obtain⟨i1,i2⟩:=HI h2<;>grind [D2,List.Pairwise.cons]
theorem Oj(h:s.Pairwise (fun a b=>Ek a.path b.path=true))(hy:y∈s):AE s y.path=some y:=by
 induction h<;>grind [AE,T3]
theorem Sx(h:Be s=true)(hy:y∈s):AE s y.path=some y:=Oj (HI h).1 hy
theorem lS.valid(h:lS x roots s):Gv s:=fun y hy=>by
 obtain⟨r,h1,_⟩:=h.fnd y hy;obtain⟨_,h2,h3⟩:=Ce h1
 have:=((Bp h.ix).1 r h2).val
 rw[<-h3];exact this
theorem FP{x:List Rl}:∀{s:List Sl} {l:List Rl},F9 x s=some l->l.map Cr=s/\(∀r∈l,AW x (Cr r)=some r)/\∀y∈s,∃r∈l,AW x y=some r
 | [],l,h=>by cases h<;>simp_all
 |y::s,l,h=>by
  unfold F9 at h;split at h
  .cases h
  .rename_i r hr;split at h
   .cases h
   .rename_i l' hl;cases h;obtain⟨i1,i2,i3⟩:=FP hl;have hk:=(Ce hr).2.2;simp_all
theorem Rt:∀(l:List Rl) (p:ByteArray),(l.find? fun r=>decide (r.path=p)).map Cr=AE (l.map Cr) p
 | [],_=>rfl
 |r::l,p=>by
  unfold AE;rw[Ie,Bo,Ie];show _=(match decide (r.path=p)with | true=>some (Cr r) | false=>_);cases h:decide (r.path=p)with
  |true=>rfl
  |false=>exact Rt l p
theorem LY{l:List Rl}(hx:Aw x=0)(hl:F9 x s=some l){q:Rq}(h:Ck l q=false):∃y,AE s q.path=some y/\has q.set (place y.ver)=true:=by
 obtain⟨h1,h2,h3⟩:=FP hl;unfold Ck at h;have hk:=Rt l q.path;split at h
 .cases h
 .rename_i r hr;rw[hr,h1]at hk;refine⟨Cr r,hk.symm,?_⟩;have hm:=(Ce (h2 r (Bh hr))).2.1;show has q.set (place r.ver)=true;rw[<-((Bp hx).1 r hm).plc];simp_all
structure KY(x:List Rl)(roots:List Rq)(s:List Sl)(l:List Rl):Prop where
 ix:Aw x=0
 inc:Be s=true
 sel:F9 x s=some l
 rl:∀r∈l,∀q∈r.reqs,Ck l q=false
 rt:∀q∈roots,Ck l q=false
 min:l.length<=(FD l (HU l roots) roots []).length
theorem VW(h:Do x roots s=0):∃l,KY x roots s l:=by
 unfold Do at h;split at h
 .cases h
 .rename_i h1;split at h
  .cases h
  .rename_i h2;split at h
   .cases h
   .rename_i l hl;split at h
    .cases h
    .rename_i h3;split at h
     .cases h
     .rename_i h4;split at h
      .cases h
      .rename_i h5;refine⟨l,BV.1 h1,by simp_all,hl,fun r hr q hq=>?_,fun q hq=>?_,by omega⟩
       all_goals grind
theorem KY.sol{l:List Rl}(h:KY x roots s l)(hy:∀y∈s,∀r,AW x y=some r->r.yanked=false):lS x roots s:=by
 obtain⟨h1,h2,h3⟩:=FP h.sel;refine⟨h.ix,h.inc,fun y hm=>?_,fun q hq=>LY h.ix h.sel (h.rt q hq),fun y hm r hr q hq=>?_⟩
 .grind
 .obtain⟨r',h4,h5⟩:=h3 y hm;rw[hr]at h5;cases h5;exact LY h.ix h.sel (h.rl r h4 q hq)
-- soundness
theorem SO{q:Rq}(h:∃y,AE s q.path=some y/\has q.set (place y.ver)=true):Dj (DG q) (AE s q.path)=false:=by
 grind [Dj,DG,Fu]
theorem pe{l:List Tm}(hs:Gv s)(hn:Bj l≠none)(hv:AX l s=false):AX (H l) s=false:=by
 grind [Dn,H]
theorem bW{l:List Tm}(hs:Gv s){o:List Tm}(h:Ph (H l)=some o)(hv:AX l s=false):AX o s=false:=by
 grind [Ph,RI]
theorem fT:Bj [DG q]≠none:=by
 grind [Bj,Ds,HJ,F7,Dp,DG]
theorem Vq{l:List α}{i:Int}{a:α}(h:DU l i=some a):a∈l:=by
 grind [DU]
theorem YX(hs:lS x roots s){d:List (List Tm)}(hd:∀t∈d,AX t s=false){i:Nf}{o:List Tm}(h:AR x roots d i=some o):AX o s=false:=by
 have hv:=hs.valid;unfold AR at h;split at h
 .split at h
  .rw[B6]at h;obtain⟨q,hq,rfl⟩:=h;refine pe hv (fT q) ?_;rw[BC];intro hw
   have:=Bu.1 hw _ (AI.2 rfl)
   rw[show(DG q).path=q.path from rfl,SO (hs.root q (Vq hq))]at this;simp_all
  simp_all
 .split at h
  .split at h
   .split at h
    .cases h
    .rename_i r hr;split at h
     .cases h
     .rename_i q hq;refine bW hv h ?_;rw[BC];intro hw;have h1:=Bu.1 hw _ (Ah ..);have h2:=Bu.1 hw (DG q) aa1;rw[show(DG q).path=q.path from rfl]at h2;dsimp only at h1;cases hf:AE s i.path with
      |none=>grind [Dj]
      |some y=>
       rw[hf]at h1;unfold Dj at h1;simp only[Aq]at h1;have hp:place y.ver=i.place:=by
        grind [has,BM]
       have hy:=GY hf;have hyp:=Kv hf;obtain⟨r',e1,e2⟩:=hs.fnd y hy;obtain⟨_,m1,k1⟩:=Ce e1;have nZ:r∈x:=Bh hr;have eT:=FI hr;simp only[Aq,A4]at eT;have GJ:=Bp hs.ix
       have:r'=r:=by
        refine iM GJ m1 nZ ?_ ?_
        .rw[eT.1,<-hyp,<-k1];rfl
        .rw[<-(GJ.1 r nZ).plc,eT.2,<-hp,<-k1];rfl
       subst this
       have:=hs.req y hy r' e1 q (Vq hq)
       grind [SO]
   simp_all
  .split at h
   .split at h
    .refine bW hv h ?_;rw[BC];intro hw;have h1:=Bu.1 hw _ (AI.2 rfl);dsimp only at h1;cases hf:AE s i.path with
     |none=>grind [Dj]
     |some y=>
      rw[hf]at h1;unfold Dj at h1;simp only[Aq]at h1;have hy:=GY hf;have hyp:=Kv hf;obtain⟨r,e1,e2⟩:=hs.fnd y hy;obtain⟨_,m1,k1⟩:=Ce e1;have GJ:=Bp hs.ix;have h1:=h1.2;rw[Fu]at h1;have aY:=Kf (hv y hy)
      have:has (Ba x i.path) (place y.ver)=true:=by
       unfold Ba;rw[EA];unfold has;simp only[aY,decide_true,S0,Bs,Ar,Cw];refine⟨(plc r.ver,plc r.ver+1),⟨r,⟨?_,by simp_all⟩,rfl⟩,?_⟩
       .unfold IL;simp only[hs.ix,ne_eq,not_true,if_false,Cw,m1,true_and,A4];rw[<-hyp,<-k1];rfl
       .rw[(GJ.1 r m1).plc,<-k1];rw[EC];exact⟨B4 _,by show place r.ver<place r.ver+1;omega⟩
      simp_all
    simp_all
   .split at h
    .split at h
     .split at h
      .rename_i a b ha hb;split at h
       .rename_i h0;cases h;rw[BC];intro hw;rcases VK hv (o:=(AU a b i.path).1) (Prod.ext rfl h0) hw with hw | hw<;>grind [Vq]
       simp_all
      simp_all
     simp_all
    simp_all
theorem Im{x:List Rl}{roots:List Rq}{s:List Sl}(hs:lS x roots s):∀{l:List Nf} {d d' : List (List Tm)},(∀t∈d,AX t s=false)->BI x roots l d=some d'->∀t∈d',AX t s=false
 | [],d,d',hd,h=>by cases h;exact hd
 |i::l,d,d',hd,h=>by
  unfold BI at h;split at h
  .cases h
  .rename_i o ho;refine Im hs (fun t ht=>?_) h
   grind [YX]
theorem CC{α:Type}[DecidableEq α]:∀{l m:List α},l.Nodup->(∀x∈l,x∈m)->l.length<=m.length
 | [],_,_,_=>Ak _
 |a::l,m,hn,hs=>by
  rw[GL]at hn;have ha:a∈m:=hs a (Ah ..)
  have:=CC (l:=l) (m:=m.erase a) hn.2 fun x hx=>by
   grind
  grind
theorem bZ[DecidableEq α]{l m:List α}(hn:l.Nodup)(hs:∀x∈l,x∈m)(hl:m.length<=l.length):∀x∈m,x∈l:=fun x hx=>by
 apply As;intro cZ
 have:=CC (m:=m.erase x) hn fun y hy=>(List.mem_erase_of_ne (a:=y) (b:=x) (fun e=>cZ aa0)).2 (hs y hy)
 grind
abbrev Pz(s:List Sl):Prop:=s.Pairwise (fun a b=>Ek a.path b.path=true)
theorem eY(h:Pz s):(s.map (·.path)).Nodup:=by
 grind [T3]
-- the next path
theorem KF(before:List Sl):∀{l:List Rq} {acc:Option ByteArray},(∀p,acc=some p->BP before p=false) ->
  (∀p,CO before l acc=some p->BP before p=false/\(acc=some p\/∃q∈l,q.path=p))/\(CO before l acc=none->acc=none/\∀q∈l,BP before q.path=true)
 | [],acc,ha=>⟨fun p h=>⟨ha p h,.inl h⟩,fun h=>⟨h,fun _ h=>(by cases h)⟩⟩
 |q::l,acc,ha=>by
  unfold CO
  have key:∀jc,(∀p,jc=some p->BP before p=false)->(∀p,jc=some p->acc=some p\/q.path=p)->(jc=none->acc=none/\BP before q.path=true) ->
    (∀p,CO before l jc=some p->BP before p=false/\(acc=some p\/∃q'∈q::l,q'.path=p))/\(CO before l jc=none->acc=none/\∀q'∈q::l,BP before q'.path=true):=by
   intro jc h1 h2 h3;obtain⟨i1,i2⟩:=KF before (l:=l) h1<;>grind
  cases hb:BP before q.path<;>grind
theorem IK{needs:List Rq}{before:List Sl}{p:ByteArray}(h:DH needs before=some p):BP before p=false/\∃q∈needs,q.path=p:=by
 obtain⟨h1,h2⟩:=(KF before (l:=needs) (acc:=none) fun _ e=>by cases e).1 p h<;>simp_all
theorem Vm{needs:List Rq}{before:List Sl}(h:DH needs before=none):∀q∈needs,BP before q.path=true:=
 ((KF before (l:=needs) (acc:=none) fun _ e=>by cases e).2 h).2
theorem LP{p:ByteArray}:BP s p=true↔∃y∈s,y.path=p:=by grind [BP]
theorem E8{p:ByteArray}:BP s p=true↔p∈s.map (·.path):=by grind [LP]
abbrev F1(v:WH):Sl:=Cr v.rel
structure qN(x:List Rl)(s:List Sl)(before:List Sl)(needs:List Rq)(vs:List WH):Prop where
 closed:∀q∈needs,BP (before++vs.map F1) q.path=true
 closedR:∀v∈vs,∀q∈v.rel.reqs,BP (before++vs.map F1) q.path=true
 mem:∀v∈vs,F1 v∈s/\AW x (F1 v)=some v.rel
 nodup:((before++vs.map F1).map (·.path)).Nodup
theorem pP{x:List Rl}{s:List Sl}:∀{n:Nat} {before:List Sl} {needs:List Rq},(before.map (·.path)).Nodup->(∀y∈before,y∈s)->s.length+1<=n+before.length->(Ef x s n before needs).2=true ->
  qN x s before needs (Ef x s n before needs).1
 |0,before,needs,h1,h2,h3,_=>by
  exfalso
  have:=CC (m:=s.map (·.path)) h1 fun p hp=>by
   grind
  grind
 |n+1,before,needs,h1,h2,h3,h4=>by
  unfold Ef at h4⊢;cases hp:DH needs before with
  |none=>grind [Vm,qN.mk]
  |some p=>
   rw[hp]at h4;dsimp only at h4⊢;cases hf:AE s p with
   |none=>simp_all
   |some y=>
    rw[hf]at h4;dsimp only at h4⊢;cases hr:AW x y with
    |none=>simp_all
    |some r=>
     rw[hr]at h4;dsimp only at h4⊢;obtain⟨g1,g2⟩:=IK hp;have hy:=GY hf;have hyp:=Kv hf;have hk:Cr r=y:=(Ce hr).2.2;have ih:=pP (x:=x) (s:=s) (n:=n) (before:=before++[y]) (needs:=needs++r.reqs) (by
       grind [E8])
      (fun z hz=>by
       grind) aa2 h4
     have e:before++(⟨before,needs,r⟩::(Ef x s n (before++[y]) (needs++r.reqs)).1).map F1=before++[y]++(Ef x s n (before++[y]) (needs++r.reqs)).1.map F1:=by
      simp_all
     refine⟨fun q hq=>?_,fun v hv q hq=>?_,fun v hv=>?_,?_⟩
     all_goals grind [qN.closed,qN.closedR,qN.mem,qN.nodup]
theorem IS(h:(visits x roots s).2=true):qN x s [] roots (visits x roots s).1:=pP aa1 (fun _ h=>by cases h) aa1 h
theorem PU{x:List Rl}{s:List Sl}(hs:∀y∈s,∃r,AW x y=some r)(hq:∀y∈s,∀r,AW x y=some r->∀q∈r.reqs,∃z,AE s q.path=some z) :
  ∀{n:Nat} {before:List Sl} {needs:List Rq},(∀q∈needs,∃z,AE s q.path=some z)->(Ef x s n before needs).2=true
 |0,_,_,_=>rfl
 |n+1,before,needs,hn=>by
  unfold Ef;cases hp:DH needs before with
  |none=>rfl
  |some p=>
   dsimp only;obtain⟨_,q,q1,q2⟩:=IK hp;obtain⟨z,hz⟩:=hn q q1;rw[q2]at hz;rw[hz];dsimp only;obtain⟨r,hr⟩:=hs z (GY hz);rw[hr];dsimp only;refine PU hs hq fun q hq'=>?_
   grind [GY]
-- what is needed
theorem NN{l:List Rl}{C:List ByteArray}(hC:∀r∈l,r.path∈C->∀q∈r.reqs,q.path∈C):∀{n:Nat} {t:List Rq} {d:List ByteArray},(∀q∈t,q.path∈C)->(∀p∈d,p∈C)->∀p∈FD l n t d,p∈C
 |0,_,_,_,hd=>by grind [FD]
 |_+1,[],_,_,hd=>by grind [FD]
 |n+1,q::t,d,ht,hd=>by
  unfold FD;split
  .exact NN hC (fun q hq=>ht q (Aj _ hq)) hd
  .refine NN hC (fun q' hq=>?_) fun p hp=>?_
   all_goals grind [Fj]
theorem KD{l:List Rl}:∀{n:Nat} {t:List Rq} {d:List ByteArray},d.Nodup->(FD l n t d).Nodup
 |0,_,_,hd=>by grind [FD]
 |_+1,[],_,hd=>by grind [FD]
 |n+1,q::t,d,hd=>by
  unfold FD;split
  .exact KD hd
  .rename_i h;refine KD ?_
   grind
theorem dL{l:List Rl}(h:KY x roots s l){C:List ByteArray}(hn:C.Nodup)(hr:∀q∈roots,q.path∈C)(hC:∀y∈s,∀r,AW x y=some r->y.path∈C->∀q∈r.reqs,q.path∈C)(hs:∀p∈C,p∈s.map (·.path)):(∀y∈s,y.path∈C)/\C.length=s.length:=by
 obtain⟨h1,h2,h3⟩:=FP h.sel;have kh:=NN (l:=l) (C:=C) (fun r hr hp q hq=>by
  have hk:Cr r∈s:=aa2
  grind [Cr]) (n:=HU l roots) (t:=roots) (d:=[]) hr (fun _ h=>by cases h)
 have CN:=CC (KD (l:=l) (n:=HU l roots) (t:=roots) KX) kh;have hl:l.length=s.length:=aa2
 have sb:=h.min;have AeM:=bZ hn hs aa2;refine⟨fun y hy=>AeM _ (Ar.2 ⟨y,hy,rfl⟩),?_⟩
 have:=CC hn hs
 grind
theorem KY.fnd{l:List Rl}(h:KY x roots s l):∀y∈s,∃r,AW x y=some r:=fun y hy=>by
 obtain⟨r,_,h⟩:=(FP h.sel).2.2 y hy<;>simp_all
theorem KY.req{l:List Rl}(h:KY x roots s l):∀y∈s,∀r,AW x y=some r->∀q∈r.reqs,∃z,AE s q.path=some z/\has q.set (place z.ver)=true:=fun y hy r hr q hq=>by
 obtain⟨r',h4,h5⟩:=(FP h.sel).2.2 y hy;rw[hr]at h5;cases h5;exact LY h.ix h.sel (h.rl r h4 q hq)
theorem KY.root{l:List Rl}(h:KY x roots s l):∀q∈roots,∃z,AE s q.path=some z/\has q.set (place z.ver)=true:=fun q hq=>LY h.ix h.sel (h.rt q hq)
theorem KY.visits{x:List Rl}{roots:List Rq}{s:List Sl}{l:List Rl}(h:KY x roots s l):(visits x roots s).2=true:=
 PU h.fnd (fun y hy r hr q hq=>let ⟨z,hz,_⟩:=h.req y hy r hr q hq;⟨z,hz⟩) fun q hq=>let ⟨z,hz,_⟩:=h.root q hq;⟨z,hz⟩
theorem KY.all{l:List Rl}(h:KY x roots s l):(∀y∈s,∃v∈(Go.Eng.visits x roots s).1,F1 v=y)/\(Go.Eng.visits x roots s).1.length=s.length:=by
 have hr:=IS h.visits;have hu:∀{y:Sl},y∈s->AE s y.path=some y:=Sx h.inc;have key:∀y∈s,y.path∈((Go.Eng.visits x roots s).1.map F1).map (·.path)->∃v∈(Go.Eng.visits x roots s).1,F1 v=y:=fun y hy hp=>by
  obtain⟨z,hz,e⟩:=Ar.1 hp;obtain⟨v,hv,rfl⟩:=Ar.1 hz;refine⟨v,hv,?_⟩;have h1:=hu (hr.mem v hv).1;simp_all
 have:=dL h (C:=((Go.Eng.visits x roots s).1.map F1).map (·.path)) (by simpa using hr.nodup) (fun q hq=>by have:=hr.closed q hq;grind [E8]) (fun y hy r hrl hp q hq=>by
  obtain⟨v,hv,e⟩:=key y hy hp;have h1:=(hr.mem v hv).2;rw[e,hrl]at h1;cases h1
  have:=hr.closedR v hv q hq;grind [E8]) (fun p hp=>by
  obtain⟨z,hz,rfl⟩:=Ar.1 hp;obtain⟨v,hv,rfl⟩:=Ar.1 hz;exact Ar.2 ⟨_,(hr.mem v hv).1,rfl⟩)
 grind
-- skips
theorem Yx{t:List Tm}{b:List Sl}(hs:Be s=true)(hb:∀y∈b,y∈s)(h:Bq t b=true):AX t s=true:=by
 unfold Bq at h;simp only[Aq,EY,IC]at h;obtain⟨h1,h2⟩:=h;rw[Bu]at h1⊢;intro u hu
 have:=h2 u hu
 simp only[Sh]at this;rw[Ky]at this;cases hf:AE b u.path<;>grind [AE,Sx]
end Go.Eng
