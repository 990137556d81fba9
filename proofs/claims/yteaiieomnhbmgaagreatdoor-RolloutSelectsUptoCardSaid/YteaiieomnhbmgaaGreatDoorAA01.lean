/- Lemmas 1. -/
import Derived.Test.YteaiieomnhbmgaaGreatDoorAA00
namespace Go.Eng
variable {a b:ByteArray}{lo:Option ByteArray}{B:List Int}{α:Type}(m:List (Int×Int))(c:UInt8)(p:ByteArray)(k:Int)
def BS(p:Int)(s:Int×Int):Bool:=decide (s.1<=p)&&decide (p<s.2)
def has(s:List (Int×Int))(p:Int):Bool:=decide (0<=p)&&decide (p<1000000)&&s.any (BS p)
abbrev A7:=List (Int×Int)
variable (S:A7)
def ER(lo:Int):A7->Prop
 | []=>True
 |y::r=>lo<=y.1/\y.1<y.2/\y.2<=1000000/\ER (y.2+1) r
abbrev EY(l:A7):Prop:=ER 0 l
def Zy(x:Int×Int):A7->A7
 | []=>[x]
 |y::r=>if x.2<y.1 then x::y::r else if y.2<x.1 then y::Zy x r else Zy (min x.1 y.1,max x.2 y.2) r
def GV(x:Int×Int):Int×Int:=(max x.1 0,min x.2 1000000)
def canon:A7->A7
 | []=>[]
 |x::r=>if(GV x).1<(GV x).2 then Zy (GV x) (canon r)else canon r
def Lq(at_:Int):A7->A7
 | []=>if at_<1000000 then [(at_,1000000)]else []
 |y::r=>if at_<y.1 then(at_,y.1)::Lq y.2 r else Lq y.2 r
def Fc(s:A7):A7:=Lq 0 (canon s)
def Rw(l:List A7):A7:=canon l.flatten
def QP(l:List A7):A7:=Fc (l.map Fc).flatten
def Qo(a b:A7):A7:=Rw [a,b]
def PE(a b:A7):A7:=QP [a,b]
theorem ER.mono{lo H9 : Int}:∀{l:A7},ER lo l->H9<=lo->ER H9 l
 | [],_,_=>trivial
 |_::_,⟨h1,h2,h3,h4⟩,h=>⟨Int.le_trans h h1,h2,h3,h4⟩
theorem ER.low{lo:Int}:∀{l:A7},ER lo l->∀y∈l,lo<=y.1/\y.1<y.2/\y.2<=1000000
 |y::r,⟨h1,h2,h3,h4⟩,z,hz=>by
  rcases AZ.1 hz with rfl | hz
  .omega
  .have:=h4.low z hz
   omega
theorem Ez{p:Int}{s:Int×Int}:BS p s=true↔s.1<=p/\p<s.2:=by simp[BS]
theorem OR{lo:Int}{l:A7}(h:ER lo l){p:Int}(hp:l.any (BS p)=true):lo<=p:=by
 obtain⟨y,hy,h2⟩:=Ce.1 hp
 have:=h.low y hy
 grind [Ez]
theorem lM{lo:Int}{l:A7}(h:ER lo l){p:Int}(hp:l.any (BS p)=true):p<1000000:=by
 obtain⟨y,hy,h2⟩:=Ce.1 hp
 have:=h.low y hy
 grind [Ez]
theorem N5:∀(l:A7) {lo:Int} {x:Int×Int},ER lo l->lo<=x.1->x.1<x.2->x.2<=1000000->ER lo (Zy x l)
 | [],lo,x,_,h1,h2,h3=>⟨h1,h2,h3,trivial⟩
 |y::r,lo,x,⟨g1,g2,g3,g4⟩,h1,h2,h3=>by
  unfold Zy;split
  .exact⟨h1,h2,h3,by omega,g2,g3,g4⟩
  .split
   .exact⟨g1,g2,g3,N5 r g4 ch h2 h3⟩
   .refine N5 r (g4.mono ch) ?_ ?_ ?_<;>dsimp only<;>omega
theorem OP:∀(l:A7) {lo:Int} {x:Int×Int} (p:Int),ER lo l->x.1<x.2->(Zy x l).any (BS p)=(BS p x||l.any (BS p))
 | [],lo,x,p,_,_=>by simp[Zy]
 |y::r,lo,x,p,⟨g1,g2,g3,g4⟩,h2=>by
  unfold Zy;split
  .simp
  .split
   .rw[DW,OP r p g4 h2,DW,<-Bool.or_assoc,<-Bool.or_assoc,Bool.or_comm (BS p y)]
   .rw[OP r p g4 ch,DW,<-Bool.or_assoc]
    grind [BS]
theorem B6:∀s:A7,EY (canon s)
 | []=>trivial
 |x::r=>by
  unfold canon;split
  .rename_i h;refine N5 _ (B6 r) ?_ h ?_<;>simp only[GV]<;>omega
  .exact B6 r
theorem KK:∀(s:A7) (p:Int),(canon s).any (BS p)=has s p
 | [],p=>by simp[has,canon]
 |x::r,p=>by
  have ih:=KK r p
  grind [canon,BS,GV,OP,B6,has]
theorem HX{l:A7}(h:EY l)(p:Int):has l p=l.any (BS p):=by
 unfold has;cases e:l.any (BS p)with
 |false=>simp
 |true=>have h1:0<=p:=OR h e;grind [lM]
theorem Hv(s:A7)(p:Int):has (canon s) p=has s p:=by
 rw[HX (B6 s),KK]
theorem NH:∀{a b:A7} {lo:Int},ER lo a->ER lo b->(∀p,a.any (BS p)=b.any (BS p))->a=b
 | [],[],_,_,_,_=>rfl
 | [],z::s,_,_,⟨g1,g2,g3,g4⟩,h=>by
  have:=h z.1
  grind [Ez]
 |y::r,[],_,⟨g1,g2,g3,g4⟩,_,h=>by
  have:=h y.1
  grind [Ez]
 |y::r,z::s,lo,⟨f1,f2,f3,f4⟩,⟨g1,g2,g3,g4⟩,h=>by
  have below:∀{x:Int×Int} {t:A7} {p:Int},ER (x.2+1) t->(x::t).any (BS p)=true->p<=x.2->x.1<=p/\p<x.2:=fun {x t p} ht hp Jk=>by
   rw[DW,JV]at hp;rcases hp with hp | hp
   .exact Ez.1 hp
   .have:=OR ht hp;omega
  have low:∀{x:Int×Int} {t:A7} {p:Int},x.1<x.2->ER (x.2+1) t->(x::t).any (BS p)=true->x.1<=p:=fun {x t p} hx ht hp=>by
   grind
  have cov:∀{x:Int×Int} {t:A7} {p:Int},x.1<=p->p<x.2->(x::t).any (BS p)=true:=fun {x t p} h1 h2=>by
   grind [Ez]
  have e1:y.1=z.1:=by
   grind
  have e2:y.2=z.2:=by
   rcases Int.lt_trichotomy y.2 z.2 with hl | he | hl
   .grind
   .exact he
   .have:=below g4 ((h z.2).symm.trans (cov ch hl)) (Bs _);omega
  have e:y=z:=Prod.ext e1 e2;subst e
  congr 1
  refine NH f4 g4 fun p=>?_;have hp:=h p;simp only[DW]at hp;cases hs:BS p y with
  |false=>simp_all
  |true=>
   have:=Ez.1 hs
   have n:∀{t:A7},ER (y.2+1) t->t.any (BS p)=false:=fun {t} ht=>by
    rw[BY];intro hx;have:=OR ht hx;omega
   grind
theorem HR{a b:A7}(ha:EY a)(hb:EY b)(h:∀p,has a p=has b p):a=b:=
 NH ha hb fun p=>by rw[<-HX ha,<-HX hb,h]
theorem TC{a s:A7}(ha:EY a)(h:∀p,has a p=has s p):a=canon s:=
 HR ha (B6 s) fun p=>by rw[h,Hv]
theorem JA{a:A7}(ha:EY a):canon a=a:=(TC ha fun _=>rfl).symm
theorem QN{s:A7}{p:Int}(h:has s p=true):0<=p/\p<1000000:=by
 grind [has]
def SB(p:Int):Bool:=decide (0<=p)&&decide (p<1000000)
theorem Lr:∀(l:A7) {at_ lo:Int},0<=at_->ER lo l->lo<=at_+1->at_<=lo->ER at_ (Lq at_ l)/\∀p,(Lq at_ l).any (BS p)=(decide (at_<=p)&&decide (p<1000000)&&!l.any (BS p))
 | [],at_,lo,h0,_,h1,h2=>by
  unfold Lq;split
  .exact⟨⟨Bs _,by omega,Bs _,trivial⟩,fun p=>by simp[BS]⟩
  .refine⟨trivial,fun p=>?_⟩
   grind
 |y::r,at_,lo,h0,⟨g1,g2,g3,g4⟩,h1,h2=>by
  have ih:=Lr r (at_:=y.2) ch g4 (Bs _) ch;have key:∀p,(decide (at_<=p)&&decide (p<y.1)||(Lq y.2 r).any (BS p))=(decide (at_<=p)&&decide (p<1000000)&&!(y::r).any (BS p)):=fun p=>by
   rw[ih.2,DW];cases hr:r.any (BS p)with
   |true=>
    have:=OR g4 hr
    grind
   |false=>
    grind [BS]
  unfold Lq;split
  .rename_i h;refine⟨⟨Bs _,h,by omega,ih.1 |> fun c=>?_⟩,fun p=>?_⟩
   .dsimp only;cases e:Lq y.2 r with
    |nil=>trivial
    |cons z s=>
     rw[e]at c;exact⟨by have:=c.1;omega,c.2⟩
   .rw[DW,<-key];rfl
  grind [ER.mono]
theorem Hs(s:A7):EY (Fc s):=by
 grind [Fc,Lr,B6]
theorem Gg(s:A7)(p:Int):has (Fc s) p=(SB p&&!has s p):=by
 rw[HX (Hs s)];unfold Fc;rw[(Lr _ (Bs _) (B6 s) ch (Bs _)).2,KK];rfl
theorem dy(a b:A7)(p:Int):has (a++b) p=(has a p||has b p):=by
 grind [has]
theorem MA:∀(l:List A7) (p:Int),has l.flatten p=l.any fun s=>has s p
 | [],p=>by simp[has]
 |s::l,p=>by rw[BZ,dy,MA l p,DW]
theorem Ug(l:List A7)(p:Int):has (Rw l) p=l.any fun s=>has s p:=by
 unfold Rw;rw[Hv,MA]
theorem Y2(l:List A7):EY (Rw l):=B6 _
theorem Yy(l:List A7):EY (QP l):=Hs _
theorem Uf(l:List A7)(p:Int):has (QP l) p=(SB p&&l.all fun s=>has s p):=by
 grind [QP,Gg,MA,List.any_map]
theorem bZ(a b:A7):EY (Qo a b):=B6 _
theorem RS(a b:A7):EY (PE a b):=Hs _
theorem jx(a b:A7)(p:Int):has (Qo a b) p=(has a p||has b p):=by
 grind [Qo,Ug]
theorem WE(a b:A7)(p:Int):has (PE a b) p=(has a p&&has b p):=by
 grind [PE,Uf,QN,SB]
theorem dH(s:A7):PE s s=canon s:=HR (RS _ _) (B6 _) fun p=>by grind [WE,Hv]
theorem VE{s:A7}:canon s=[]↔∀p,has s p=false:=by
 constructor
 .intro h p;rw[<-Hv,h];simp[has]
 .intro h;exact HR (B6 s) (b:=[]) trivial fun p=>by grind [Hv,has]
theorem QW{s:A7}(hs:EY s):s=[]↔∀p,has s p=false:=by
 rw[<-VE,JA hs]
def mD(l:List A7)(p:Int):Nat:=l.countP fun s=>has s p
theorem TB:∀{l:A7} {lo:Int},ER lo l->lo<=1000000->(l.length:Int)<=1000000-lo
 | [],lo,_,h=>by simp_all
 |y::r,lo,⟨g1,g2,g3,g4⟩,h=>by
  by_cases h3:y.2+1<=1000000
  .have:=TB g4 h3
   grind
  .cases r with
   |nil=>grind
   |cons z s=>have:=g4.1;have:=g4.2.1;have:=g4.2.2.1;omega
theorem Ij{l:A7}(h:EY l):l.length<=1000000:=by have:=TB h ch;omega
structure Ver where
 (a b c:Int)
structure Rq where
 path:ByteArray
 set:List (Int×Int)
variable {roots:List Rq}(q:Rq)
structure Rl where
 path:ByteArray
 ver:Ver
 reqs:List Rq
 (arch ifc cert:ByteArray)
 yanked:Bool
variable (r:Rl)(x:List Rl)
structure Sl where
 path:ByteArray
 ver:Ver
variable {s:List Sl}{y:Sl}
structure Tm where
 path:ByteArray
 absent:Bool
 set:List (Int×Int)
variable {d:List (List Tm)}(l:List Tm)(u t:Tm)
structure Nf where
 kind:Int
 path:ByteArray
 (place number left right:Int)
structure Sk where
 path:ByteArray
 (place inf:Int)
structure An where
 found:Bool
 sel:List Sl
 infs:List Nf
 skips:List Sk
instance:DecidableEq Ver:=fun x y=>decidable_of_iff (x.a=y.a/\x.b=y.b/\x.c=y.c) ⟨fun⟨h1,h2,h3⟩=>by cases x<;>simp_all,fun h=>by simp_all⟩
instance:DecidableEq Sl:=fun x y=>decidable_of_iff (x.path=y.path/\x.ver=y.ver) ⟨fun⟨h1,h2⟩=>by cases x<;>simp_all,fun h=>by simp_all⟩
instance:DecidableEq Tm:=fun x y=>decidable_of_iff (x.path=y.path/\x.absent=y.absent/\x.set=y.set) ⟨fun⟨h1,h2,h3⟩=>by cases x<;>simp_all,fun h=>by simp_all⟩
theorem yh{x y:Tm}(h1:x.path=y.path)(h2:x.absent=y.absent)(h3:x.set=y.set):x=y:=by cases x<;>simp_all
def okPart(n:Int):Prop:=0<=n/\n<=999
instance (n:Int):Decidable (okPart n):=by unfold okPart;infer_instance
def BN(v:Ver):Bool:=decide (okPart v.a)&&decide (okPart v.b)&&decide (okPart v.c)
def place(v:Ver):Int:=1000*v.b+v.c
def plc(v:Ver):Int:=if BN v then place v else 0
def vt:Sl:=⟨⟨#[]⟩,⟨0,0,0⟩⟩
def BE(s:List Sl)(p:ByteArray):Option Sl:=s.find? fun x=>decide (x.path=p)
def Hw(s:List Sl):Bool:=
 match s.find? (fun x=>decide (x.path=t.path))with
 |none=>t.absent
 |some x=>BN x.ver&&has t.set (place x.ver)
def CO(s:List Sl)(p:ByteArray):Bool:=s.any fun x=>decide (x.path=p)
def A9(s:List Sl):Bool:=l.all fun t=>Hw t s
def CH(s:List Sl):Bool:=A9 l s&&!l.any fun t=>!CO s t.path
def IJ:List UInt8->List UInt8->Bool
 | [],[]=>false
 | [],_::_=>true
 |_::_,[]=>false
 |a::x,b::y=>decide (a<b)||(decide (a=b)&&IJ x y)
def Dq(a b:ByteArray):Bool:=IJ a.data.toList b.data.toList
theorem RU:∀x,IJ x x=false
 | []=>rfl
 |a::x=>by
  unfold IJ;simp[RU x]
theorem Ok:∀{x y z},IJ x y=true->IJ y z=true->IJ x z=true
 | [],[],_,h,_=>by omega
 | [],_::_,[],_,h=>by grind [IJ]
 | [],_::_,_::_,_,_=>rfl
 |_::_,[],_,h,_=>by grind [IJ]
 |_::_,_::_,[],_,h=>by grind [IJ]
 |a::x,b::y,c::z,h1,h2=>by
  unfold IJ at *
  simp only[JV,At,Bj]at *
  rcases h1 with h1 | ⟨rfl,h1⟩
  .grind
  .rcases h2 with h2 | ⟨rfl,h2⟩
   .simp_all
   .exact .inr ⟨rfl,Ok h1 h2⟩
theorem UC:∀{x y},IJ x y=false->IJ y x=false->x=y
 | [],[],_,_=>rfl
 | [],_::_,h,_=>by grind [IJ]
 |_::_,[],_,h=>by grind [IJ]
 |a::x,b::y,h1,h2=>by
  unfold IJ at *
  simp only[Bool.or_eq_false_iff,Bool.and_eq_false_iff,decide_eq_false_iff_not]at *
  have e:a=b:=by
   grind
  subst e
  have:=UC (x:=x) (y:=y) B0 B0
  simp_all
theorem zX(h:a.data.toList=b.data.toList):a=b:=by
 cases a<;>simp_all
theorem Cm(a:ByteArray):Dq a a=false:=RU _
theorem DF{c:ByteArray}(h:Dq a b=true)(k:Dq b c=true):Dq a c=true:=Ok h k
theorem Hd(h:Dq a b=false)(k:Dq b a=false):a=b:=zX (UC h k)
theorem Ih(h:Dq a b=true):a≠b:=fun e=>by grind [Cm]
theorem Jn(h:Dq a b=true):Dq b a=false:=by
 grind [DF,Cm]
def Mm:Tm:=⟨t.path,t.absent,canon t.set⟩
def G4:Tm:=⟨u.path,u.absent&&t.absent,PE u.set t.set⟩
def Oh(t:Tm):List Tm->List Tm
 | []=>[Mm t]
 |u::r=>if Dq u.path t.path then u::Oh t r else if u.path=t.path then G4 u t::r else Mm t::u::r
def Fy:List Tm:=l.foldl (fun acc t=>Oh t acc) []
def IX:Bool:=!t.absent&&t.set.isEmpty
def Hc:Bool:=t.absent&&decide (t.set=[(0,1000000)])
def C3:Option (List Tm):=if(Fy l).any IX then none else some ((Fy l).filter fun t=>!Hc t)
def QZ:List Tm:=(C3 l).getD []
def DE:Tm:=⟨q.path,true,Fc q.set⟩
def JP:List Tm:=QZ [DE q]
def EQ(path:ByteArray)(pl:Int)(q:Rq):List Tm:=QZ [⟨path,false,[(pl,pl+1)]⟩,DE q]
def Ie(path:ByteArray)(zV:A7):List Tm:=QZ [⟨path,false,Fc zV⟩]
def DB(p:ByteArray):Option Tm:=l.find? fun t=>decide (t.path=p)
def Gb(p:ByteArray):List Tm:=l.filter fun t=>!decide (t.path=p)
def Ds(a b:Tm):Tm:=⟨a.path,a.absent||b.absent,Qo a.set b.set⟩
def Fz(p:ByteArray):Option (Tm×List Tm):=match C3 l with
 |none=>none
 |some c=>match DB c p with
  |none=>none
  |some t=>some (t,Gb c p)
def BG(a b:List Tm)(p:ByteArray):List Tm×Int:=
 match Fz a p,Fz b p with
 |some (t,r),some (u,m)=>match C3 (r++m++[Ds t u])with
  |some o=>(o,0)
  |none=>([],8)
 |_,_=>([],1)
def BP(lo:Option ByteArray):List Tm->Prop
 | []=>True
 |t::r=>(∀p,lo=some p->Dq p t.path=true)/\EY t.set/\BP (some t.path) r
theorem BP.weak:∀{l:List Tm},BP lo l->BP none l
 | [],_=>trivial
 |_::_,⟨_,h2,h3⟩=>⟨fun _ h=>(by cases h),h2,h3⟩
theorem BP.low{p:ByteArray}:∀{l:List Tm},BP (some p) l->∀t∈l,Dq p t.path=true
 |t::r,⟨h1,h2,h3⟩,u,hu=>by
  rcases AZ.1 hu with rfl | hu
  .simp_all
  .exact DF (h1 p rfl) (h3.low u hu)
theorem BP.canon{lo:Option ByteArray}:∀{l:List Tm},BP lo l->∀t∈l,EY t.set
 |t::r,⟨h1,h2,h3⟩,u,hu=>by
  rcases AZ.1 hu with rfl | hu
  .exact h2
  .exact h3.canon u hu
theorem BP.mono{p q:ByteArray}:∀{l:List Tm},BP (some p) l->Dq q p=true->BP (some q) l
 | [],_,_=>trivial
 |t::r,⟨h1,h2,h3⟩,h=>⟨fun _ e=>by grind [DF],h2,h3⟩
theorem MD:∀{l:List Tm} {lo:Option ByteArray} (t:Tm),BP lo l->(∀p,lo=some p->Dq p t.path=true)->BP lo (Oh t l)
 | [],lo,t,_,h=>⟨h,B6 _,trivial⟩
 |u::r,lo,t,⟨h1,h2,h3⟩,h=>by
  unfold Oh;split
  .rename_i EU;exact⟨h1,h2,MD t h3 fun p e=>by simp_all⟩
  .rename_i EU;split
   .rename_i he;exact⟨h1,RS _ _,h3⟩
   .rename_i he;refine⟨h,B6 _,fun p e=>?_,h2,h3⟩;cases e
    have:Dq u.path t.path=false:=B0
    cases hb:Dq t.path u.path with
    |true=>exact hb
    |false=>grind [Hd]
theorem Pt:∀(l acc:List Tm),BP none acc->BP none (l.foldl (fun acc t=>Oh t acc) acc)
 | [],_,h=>h
 |t::l,acc,h=>Pt l _ (MD t h fun _ e=>by cases e)
theorem ED:BP none (Fy l):=Pt l [] trivial
theorem ET(r:List Tm)(p:ByteArray):DB (t::r) p=if t.path=p then some t else DB r p:=by
 grind [DB]
theorem Kc{p q:ByteArray}{l:List Tm}(h:BP (some p) l)(hq:Dq p q=false):DB l q=none:=by
 grind [DB,BP.low]
def SD(o:Option Tm)(t:Tm):Tm:=match o with | none=>Mm t | some u=>G4 u t
theorem Rd(o:Option Tm)(t:Tm)(h:∀u,o=some u->u.path=t.path):(SD o t).path=t.path:=by
 cases o with
 |none=>rfl
 |some u=>exact h u rfl
theorem Lu{l:List Tm}{p:ByteArray}{u:Tm}(h:DB l p=some u):u.path=p:=by
 have:=DA h;simp_all
theorem GM{l:List Tm}{p:ByteArray}{u:Tm}(h:DB l p=some u):u∈l:=AX h
theorem T3:∀{l:List Tm} {lo:Option ByteArray} (t:Tm) (p:ByteArray),BP lo l->DB (Oh t l) p=if t.path=p then some (SD (DB l p) t)else DB l p
 | [],lo,t,p,_=>by
  grind [Oh,Mm,DB,SD]
 |u::r,lo,t,p,⟨h1,h2,h3⟩=>by
  unfold Oh;split
  .rename_i EU;rw[ET,ET,T3 t p h3]
   grind [Ih]
  grind [ET,G4,SD,Mm,Kc]
def Kq(o:Option Tm)(t:Tm):Option Tm:=if t.path=p then some (SD o t)else o
theorem RL(p:ByteArray):∀(l acc:List Tm),BP none acc->DB (l.foldl (fun acc t=>Oh t acc) acc) p=l.foldl (Kq p) (DB acc p)
 | [],_,_=>rfl
 |t::l,acc,h=>by
  rw[Gt,RL p l _ (MD t h fun _ e=>by cases e),T3 t p h];rfl
theorem Ji(p:ByteArray):DB (Fy l) p=l.foldl (Kq p) none:=RL p l [] trivial
theorem MW:∀{a b:List Tm} {lo:Option ByteArray},BP lo a->BP lo b->(∀p,DB a p=DB b p)->a=b
 | [],[],_,_,_,_=>rfl
 | [],z::s,_,_,_,h=>by have:=h z.path;rw[ET,Ax rfl]at this;cases this
 |z::s,[],_,_,_,h=>by have:=h z.path;rw[ET,Ax rfl]at this;cases this
 |y::r,z::s,lo,⟨f1,f2,f3⟩,⟨g1,g2,g3⟩,h=>by
  have e:y=z:=by
   have a1:=h y.path;have a2:=h z.path
   grind [ET,BP.low,GM,DF,Cm]
  subst e
  congr 1
  refine MW f3 g3 fun p=>?_;have hp:=h p
  grind [ET,Kc,Cm]
theorem BP.filter(q:Tm->Bool):∀{l:List Tm} {lo:Option ByteArray},BP lo l->BP lo (l.filter q)
 | [],_,_=>trivial
 |t::r,lo,⟨h1,h2,h3⟩=>by
  have ih:=BP.filter q h3;rw[List.filter_cons];split
  .exact⟨h1,h2,ih⟩
  .cases lo<;>grind [BP.weak,BP.mono]
theorem GA{l:List Tm}{t:Tm}(h:BP lo l):t∈l↔DB l t.path=some t:=by
 constructor
 .induction l generalizing lo with
  |nil=>simp_all
  |cons u r ih=>
   intro ht;rw[ET];rcases AZ.1 ht with rfl | ht
   .simp_all
   .have:=BP.low h.2.2 t ht
    rw[AA (Ih this)];exact ih h.2.2 ht
 .exact GM
def Dg(o:Option Sl):Bool:=match o with | none=>t.absent | some x=>BN x.ver&&has t.set (place x.ver)
theorem nK(s:List Sl):Hw t s=Dg t (BE s t.path):=by
 unfold Hw Dg BE;rfl
theorem RK{p:ByteArray}{x:Sl}(h:BE s p=some x):x.path=p:=by
 have:=DA h;simp_all
theorem Lt{p:ByteArray}{x:Sl}(h:BE s p=some x):x∈s:=AX h
theorem Ke{p:ByteArray}:CO s p=(BE s p).isSome:=by
 grind [CO,BE]
theorem dB(o:Option Sl):Dg (Mm t) o=Dg t o:=by
 unfold Dg Mm;grind [Hv]
theorem aE(o:Option Sl):Dg (G4 u t) o=(Dg u o&&Dg t o):=by
 unfold Dg G4;cases o<;>grind [WE]
theorem NQ(o:Option Sl):Dg (Ds u t) o=(Dg u o||Dg t o):=by
 unfold Dg Ds;cases o<;>grind [jx]
def iH(o:Option Sl)(l:List Tm):Bool:=l.all fun t=>!decide (t.path=p)||Dg t o
theorem Kd(p:ByteArray)(o:Option Sl):∀(l:List Tm) (a:Option Tm),(∀u,a=some u->u.path=p) ->
  (l.foldl (Kq p) a=none↔a=none/\l.all (fun t=>!decide (t.path=p))=true)/\(∀u,l.foldl (Kq p) a=some u->u.path=p/\Dg u o=((match a with | none=>true | some b=>Dg b o)&&iH p o l))
 | [],a,ha=>by
  grind [iH]
 |t::l,a,ha=>by
  rw[Gt]
  by_cases e:t.path=p
  .have hs:Kq p a t=some (SD a t):=by grind [Kq]
   rw[hs];have ih:=Kd p o l (some (SD a t)) (fun u h=>by grind [Rd])
   grind [iH,SD,dB,aE]
  .have hs:Kq p a t=a:=by grind [Kq]
   rw[hs];have ih:=Kd p o l a ha
   grind [iH]
theorem Br{l:List Tm}:A9 l s=true↔∀t∈l,Dg t (BE s t.path)=true:=by
 grind [A9,nK]
theorem L5(s:List Sl):A9 (Fy l) s=A9 l s:=by
 rw[Eu,Br,Br];constructor
 .intro h t ht
  have:=Kd t.path (BE s t.path) l none (fun _ e=>by cases e)
  rw[<-Ji]at this;cases e:DB (Fy l) t.path<;>grind [GM,iH]
 .intro h u hu;have e:=(GA (ED l)).1 hu
  have:=Kd u.path (BE s u.path) l none (fun _ e=>by cases e)
  grind [Ji,iH]
theorem dS{t:Tm}(h:IX t=true)(o:Option Sl):Dg t o=false:=by
 unfold IX at h;simp only[At,FA,L7]at h;unfold Dg
 grind [has]
def Gk(s:List Sl):Prop:=∀x∈s,BN x.ver=true
theorem HC{v:Ver}(h:BN v=true):0<=v.a/\v.a<=999/\0<=v.b/\v.b<=999/\0<=v.c/\v.c<=999:=by
 unfold BN at h;simp only[At]at h;obtain⟨⟨a,b⟩,c⟩:=h;obtain⟨a1,a2⟩:=AT a;obtain⟨b1,b2⟩:=AT b;obtain⟨c1,c2⟩:=AT c<;>simp_all
theorem JO{v:Ver}(h:BN v=true):0<=place v/\place v<1000000:=by
 have:=HC h;grind [place]
theorem VB{t:Tm}(h:Hc t=true)(hs:Gk s):Dg t (BE s t.path)=true:=by
 unfold Hc at h;simp only[At,Bj]at h;unfold Dg;cases e:BE s t.path with
 |none=>exact h.1
 |some x=>
  have:=hs x (Lt e)
  grind [JO,has,BS]
theorem Dj{l:List Tm}(hs:Gk s):A9 l s=(match C3 l with | none=>false | some c=>A9 c s):=by
 unfold C3;split
 .rename_i h;split at h
  .rename_i hn;rw[<-L5,BY]
   grind [Br,dS]
  simp_all
 .rename_i c h;split at h
  .cases h
  .rename_i hn;cases h;rw[<-L5,Eu,Br,Br]
   grind [VB]
theorem Hh(a b:List Tm)(s:List Sl):A9 (a++b) s=(A9 a s&&A9 b s):=by grind [A9]
theorem E8{l c:List Tm}(h:C3 l=some c):BP none c:=by
 grind [C3,BP.filter,ED]
theorem GI{l r:List Tm}{p:ByteArray}{t:Tm}(hs:Gk s)(h:Fz l p=some (t,r)):A9 l s=(Dg t (BE s p)&&A9 r s)/\t.path=p:=by
 unfold Fz at h;cases hc:C3 l with
 |none=>simp_all
 |some c=>
  rw[hc]at h;dsimp only at h;cases hf:DB c p with
  |none=>simp_all
  |some u=>
   rw[hf]at h;cases h;have hp:=Lu hf;refine⟨?_,hp⟩;rw[Dj hs,hc];dsimp only;rw[Eu,At,Br,Br];constructor
   .intro h
    have:=h t (GM hf)
    rw[hp]at this;exact⟨this,fun v hv=>h v (CY.1 hv).1⟩
   .intro⟨h1,h2⟩ v hv
    by_cases e:v.path=p
    .have:=(GA (E8 hc)).1 hv
     simp_all
    .exact h2 v (CY.2 ⟨hv,by simp[e]⟩)
theorem U6{a b o:List Tm}{p:ByteArray}(hs:Gk s)(h:BG a b p=(o,0))(hv:A9 o s=true):A9 a s=true\/A9 b s=true:=by
 unfold BG at h;cases h1:Fz a p with
 |none=>simp_all
 |some x=>
  cases h2:Fz b p with
  |none=>simp_all
  |some y=>
   obtain⟨t,r⟩:=x;obtain⟨u,m⟩:=y;rw[h1,h2]at h;dsimp only at h;cases hc:C3 (r++m++[Ds t u])with
   |none=>simp_all
   |some c=>
    rw[hc]at h
    have:c=o:=B0
    subst this;have e:=Dj (l:=r++m++[Ds t u]) hs;rw[hc]at e;dsimp only at e;rw[hv,Hh,Hh]at e;simp only[At]at e;obtain⟨⟨e1,e2⟩,e3⟩:=e;obtain⟨va,pa⟩:=GI hs h1;obtain⟨vb,pb⟩:=GI hs h2;have e3:=Br.1 e3 _ (AQ.2 rfl)
    grind [Ds,NQ]
theorem Q0{l:List Tm}(hs:Gk s)(Ef:QZ l≠[]):A9 (QZ l) s=A9 l s:=by
 grind [Dj,QZ]
-- paths
def EL:Bool:=decide (97<=c)&&decide (c<=122)
def Mo:Bool:=decide (65<=c)&&decide (c<=90)
def Cs:Bool:=decide (48<=c)&&decide (c<=57)
def FO:Bool:=EL c||Mo c||Cs c||decide (c=95)
def dL:List UInt8:=[32,97,110,100,32,97,110,121,32,97,115,32,98,111,111,108,32,100,101,112,114,101,99,97,116,101,100,32,101,108,115,101,32,101,120,112,111,114,116,32,102,97,108,115,101,32,102,110,32,102,111,108,100,32,102,114,111,109,32,105,102,32,105,109,112,111,114,116,32,105,110,32,105,110,116,32,108,101,110,103,116,104,32,108,101,116,32,108,105,115,116,32,109,97,116,99,104,32,109,111,100,117,108,101,32,110,111,110,101,32,110,111,116,32,111,114,32,116,101,120,116,32,116,104,101,110,32,116,114,117,101,32,116,121,112,101,32,117,115,101,32]
def Qb:List UInt8->List UInt8->Bool
 | [],_=>true
 |_::_,[]=>false
 |a::x,b::y=>decide (a=b)&&Qb x y
def qL(x:List UInt8):List UInt8->Bool
 | []=>Qb x []
 |b::y=>Qb x (b::y)||qL x y
def VL(s:List UInt8):Bool:=qL (32::(s++[32])) dL
def Gq(s:List UInt8):Bool:=!s.isEmpty&&decide (s.length<=32)&&EL (s.headD 0)&&s.all FO&&!VL s
def Hz(s:List UInt8):Bool:=Gq s&&s.all fun c=>EL c||Cs c
def D3(s:List UInt8):Int:=s.foldl (fun n c=>10*n+((c.toNat:Int)-48)) 0
def Gm(s:List UInt8):Option Int:=match s with
 |c::r=>if c=118 then(if r.isEmpty||decide (3<r.length)||(decide (1<r.length)&&decide (r.headD 0=48))||!r.all Cs then none else some (D3 r))else none
 | []=>none
def CL(c:UInt8):List UInt8->List (List UInt8)
 | []=>[[]]
 |b::r=>if b=c then []::CL c r else match CL c r with
  | []=>[[b]]
  |x::l=>(b::x)::l
def QU(p:List UInt8):Option Int:=match Gm ((CL 47 p).getLastD [])with
 |none=>none
 |some n=>if 64<p.length||(CL 47 p).length<2 then none else if(CL 47 p).all Hz then some n else none
def Bc:Option Int:=QU p.data.toList
-- indexes
def GZ(before:Option ByteArray)(q:Rq):Int:=
 if(Bc q.path).isNone then 4 else if q.set.isEmpty||!decide (q.set=canon q.set)||(match before with | some b=>!Dq b q.path | none=>false)then 1 else 0
def D7(before:Option ByteArray):List Rq->Int
 | []=>0
 |q::r=>if GZ before q=0 then D7 (some q.path) r else GZ before q
def A8(l:List Rq):Int:=if 16<l.length then 7 else D7 none l
def Er(s:ByteArray):Bool:=decide (s.size=0)||decide (s.size=32)
def CM:Int:=match Bc r.path with
 |none=>4
 |some m=>if !BN r.ver||!decide (r.ver.a=m)then 2 else if A8 r.reqs≠0 then A8 r.reqs else if Er r.arch&&Er r.ifc&&Er r.cert then 0 else 1
def FG(a b:Int):Int:=if a<b then -1 else if b<a then 1 else 0
def IT(a b:ByteArray):Int:=if Dq a b then -1 else if Dq b a then 1 else 0
def Ik(a b:Ver):Int:=if FG a.a b.a≠0 then FG a.a b.a else if FG a.b b.b≠0 then FG a.b b.b else FG a.c b.c
def CB(a b:Rl):Int:=if IT a.path b.path≠0 then IT a.path b.path else Ik a.ver b.ver
def Fa:Sl:=⟨r.path,r.ver⟩
def B5(before:Option Rl):List Rl->Int
 | []=>0
 |r::l=>if CM r≠0 then CM r else match before with
  |none=>B5 (some r) l
  |some b=>if Fa b=Fa r then 5 else if 0<CB b r then 1 else B5 (some r) l
def AL(l:List Rl):Int:=if 256<l.length then 7 else B5 none l
def By(y:Sl):Option Rl:=if AL x≠0 then none else x.find? fun r=>decide (Fa r=y)
def LF(p:ByteArray):List Rl:=if AL x≠0 then []else x.filter fun r=>decide (r.path=p)
def B3(p:ByteArray):A7:=canon (((LF x p).filter fun r=>!r.yanked).map fun r=>(plc r.ver,plc r.ver+1))
def MB(before:Option ByteArray):List Sl->Bool
 | []=>true
 |y::r=>(match before with |some b=>Dq b y.path |none=>true)&&MB (some y.path) r
def CD(s:List Sl):Bool:=MB none s
-- solutions
-- derivations
def Qc(p:ByteArray)(pl:Int):Option Rl:=x.find? fun r=>decide (r.path=p)&&decide (plc r.ver=pl)
def mt:ByteArray:=⟨#[]⟩
def Mb(l:List α)(i:Int):Option α:=if i<0 then none else l[i.toNat]?
def jY:Option (List Tm):=if l.isEmpty then none else some l
def D0(roots:List Rq)(d:List (List Tm))(i:Nf):Option (List Tm):=
 if i.kind=0 then
  if i.path=mt/\i.place=0/\i.left=0/\i.right=0 then(Mb roots i.number).map JP else none
 else if i.kind=1 then
  if i.left=0/\i.right=0 then match Qc x i.path i.place with
   |none=>none
   |some r=>match Mb r.reqs i.number with
    |none=>none
    |some q=>jY (EQ i.path i.place q)
  else none
 else if i.kind=2 then
  if i.place=0/\i.number=0/\i.left=0/\i.right=0 then jY (Ie i.path (B3 x i.path))else none
 else if i.kind=3 then
  if i.place=0/\i.number=0 then match Mb d i.left,Mb d i.right with
   |some a,some b=>if(BG a b i.path).2=0 then some (BG a b i.path).1 else none
   |_,_=>none
  else none
 else none
def Du(x:List Rl)(roots:List Rq):List Nf->List (List Tm)->Option (List (List Tm))
 | [],d=>some d
 |i::l,d=>match D0 x roots d i with
  |none=>none
  |some t=>Du x roots l (d++[t])
-- decisions
def DD(before:List Sl):List Rq->Option ByteArray->Option ByteArray
 | [],acc=>acc
 |q::l,acc=>DD before l (if CO before q.path then acc else match acc with
  |none=>some q.path
  |some p=>if Dq q.path p then some q.path else some p)
def L1(needs:List Rq)(before:List Sl):Option ByteArray:=DD before needs none
structure Vis where
 before:List Sl
 needs:List Rq
 rel:Rl
-- answers
-- the example
def bs(l:List UInt8):ByteArray:=⟨⟨l⟩⟩
-- the order of releases
theorem KL{a b:Int}(h:FG a b=0):a=b:=by
 grind [FG]
theorem X3{a b:Int}(h:FG a b<0):a<b:=by
 grind [FG]
theorem Wt(h:IT a b=0):a=b:=by
 grind [IT,Hd]
theorem rA(h:IT a b<0):Dq a b=true:=by
 grind [IT]
def sK(a b:Ver):Prop:=a.a<b.a\/(a.a=b.a/\(a.b<b.b\/(a.b=b.b/\a.c<b.c)))
def cz(a b:Rl):Prop:=Dq a.path b.path=true\/(a.path=b.path/\sK a.ver b.ver)
theorem fI{a b:Ver}(h:Ik a b<0):sK a b:=by
 unfold Ik at h;split at h
 .exact .inl (X3 h)
 .rename_i h1;have h1:=KL (CI.1 h1);split at h
  .exact .inr ⟨h1,.inl (X3 h)⟩
  .rename_i h2;exact .inr ⟨h1,.inr ⟨KL (CI.1 h2),X3 h⟩⟩
theorem i7{a b:Ver}(h:Ik a b=0):a=b:=by
 unfold Ik at h;split at h
 .omega
 .rename_i h1;have h1:=KL (CI.1 h1);split at h
  .omega
  .rename_i h2;have h2:=KL (CI.1 h2);have h3:=KL h;cases a<;>simp_all
theorem Wu{a b:Rl}(h:CB a b=0):Fa a=Fa b:=by
 grind [CB,Wt,i7,Fa]
theorem rC{a b:Rl}(h:CB a b<0):cz a b:=by
 unfold CB at h;split at h
 .exact .inl (rA h)
 .rename_i h1;exact .inr ⟨Wt (CI.1 h1),fI h⟩
theorem jU{a b c:Ver}(h:sK a b)(k:sK b c):sK a c:=by grind [sK]
theorem WS{a b c:Rl}(h:cz a b)(k:cz b c):cz a c:=by
 rcases h with h | ⟨h1,h2⟩
 .rcases k with k | ⟨k1,k2⟩
  .exact .inl (DF h k)
  .exact .inl (k1▸h)
 .rcases k with k | ⟨k1,k2⟩
  .exact .inl (h1▸k)
  .exact .inr ⟨h1.trans k1,jU h2 k2⟩
theorem JJ{a b:Rl}(h:cz a b)(k:Fa a=Fa b):False:=by
 unfold Fa at k;simp only[Sl.mk.injEq]at k;rcases h with h | ⟨_,h⟩<;>grind [Cm,sK]
-- a valid index
structure KG(r:Rl):Prop where
 maj:Bc r.path=some r.ver.a
 val:BN r.ver=true
 reqs:A8 r.reqs=0
theorem c9{r:Rl}(h:CM r=0):KG r:=by
 grind [CM,KG.mk]
theorem O0:∀{l:List Rl} {b:Option Rl},B5 b l=0->(∀r∈l,KG r)/\(l.Pairwise cz/\∀c,b=some c->∀r∈l,cz c r)
 | [],b,_=>⟨fun _ h=>(by cases h),.nil,fun _ _ _ h=>(by cases h)⟩
 |r::l,b,h=>by
  unfold B5 at h;split at h
  .omega
  .rename_i h1;have hr:=c9 (CI.1 h1);have go:B5 (some r) l=0->(∀c,b=some c->cz c r)->(∀z∈r::l,KG z)/\((r::l).Pairwise cz/\∀c,b=some c->∀z∈r::l,cz c z):=fun h hc=>by
    obtain⟨i1,i2,i3⟩:=O0 h<;>grind [WS,List.Pairwise.cons]
   grind [rC,Wu]
theorem B7{l:List Rl}(h:AL l=0):(∀r∈l,KG r)/\l.Pairwise cz:=by
 grind [AL,O0]
theorem Uw{l:List Rl}(h:l.Pairwise cz){a b:Rl}(ha:a∈l)(hb:b∈l)(hk:Fa a=Fa b):a=b:=by
 induction h<;>grind [JJ]
theorem Y5{a b:Ver}(ha:BN a=true)(hb:BN b=true)(h1:a.a=b.a)(h2:place a=place b):a=b:=by
 have:=HC ha
 have:=HC hb
 unfold place at h2;have e1:a.b=b.b:=ch
 have e2:a.c=b.c:=ch
 cases a<;>simp_all
theorem KG.plc{r:Rl}(h:KG r):plc r.ver=place r.ver:=by grind [plc,KG.val]
theorem YU{l:List Rl}(h:(∀r∈l,KG r)/\l.Pairwise cz){a b:Rl}(ha:a∈l)(hb:b∈l)(h1:a.path=b.path)(h2:place a.ver=place b.ver):a=b:=by
 grind [Uw,Fa,Y5,KG.maj,KG.val]
theorem Gf{x:List Rl}{r:Rl}(h:By x y=some r):AL x=0/\r∈x/\Fa r=y:=by
 grind [By]
structure zd(x:List Rl)(roots:List Rq)(s:List Sl):Prop where
 ix:AL x=0
 inc:CD s=true
 fnd:∀y∈s,∃r,By x y=some r/\r.yanked=false
 root:∀q∈roots,∃y,BE s q.path=some y/\has q.set (place y.ver)=true
 req:∀y∈s,∀r,By x y=some r->∀q∈r.reqs,∃z,BE s q.path=some z/\has q.set (place z.ver)=true
theorem Og:∀{s:List Sl} {b:Option ByteArray},MB b s=true->s.Pairwise (fun a b=>Dq a.path b.path=true)/\∀c,b=some c->∀y∈s,Dq c y.path=true
 | [],_,_=>⟨.nil,fun _ _ _ h=>by cases h⟩
 |y::r,b,h=>by
  unfold MB at h;simp only[At]at h;obtain⟨h1,h2⟩:=h;obtain⟨i1,i2⟩:=Og h2<;>grind [DF,List.Pairwise.cons]
theorem NN(h:s.Pairwise (fun a b=>Dq a.path b.path=true))(hy:y∈s):BE s y.path=some y:=by
 induction h<;>grind [BE,Ih]
theorem ah(h:CD s=true)(hy:y∈s):BE s y.path=some y:=NN (Og h).1 hy
theorem zd.valid{x:List Rl}(h:zd x roots s):Gk s:=fun y hy=>by
 obtain⟨r,h1,_⟩:=h.fnd y hy;obtain⟨_,h2,h3⟩:=Gf h1
 have:=((B7 h.ix).1 r h2).val
 rw[<-h3];exact this
-- soundness
theorem Se{q:Rq}(h:∃y,BE s q.path=some y/\has q.set (place y.ver)=true):Dg (DE q) (BE s q.path)=false:=by
 grind [Dg,DE,Gg]
theorem oY{l:List Tm}(hs:Gk s)(hn:C3 l≠none)(hv:A9 l s=false):A9 (QZ l) s=false:=by
 grind [Dj,QZ]
theorem br{l:List Tm}(hs:Gk s){o:List Tm}(h:jY (QZ l)=some o)(hv:A9 l s=false):A9 o s=false:=by
 grind [jY,Q0]
theorem eJ:C3 [DE q]≠none:=by
 grind [C3,Fy,Oh,IX,Mm,DE]
theorem UM{l:List α}{i:Int}{a:α}(h:Mb l i=some a):a∈l:=by
 grind [Mb]
theorem Yw{x:List Rl}(hs:zd x roots s)(hd:∀t∈d,A9 t s=false){i:Nf}{o:List Tm}(h:D0 x roots d i=some o):A9 o s=false:=by
 have hv:=hs.valid;unfold D0 at h;split at h
 .split at h
  .rw[Cj]at h;obtain⟨q,hq,rfl⟩:=h;refine oY hv (eJ q) ?_;rw[BY];intro hw
   have:=Br.1 hw _ (AQ.2 rfl)
   rw[show(DE q).path=q.path from rfl,Se (hs.root q (UM hq))]at this;simp_all
  simp_all
 .split at h
  .split at h
   .split at h
    .cases h
    .rename_i r hr;split at h
     .cases h
     .rename_i q hq;refine br hv h ?_;rw[BY];intro hw;have h1:=Br.1 hw _ (Ah ..);have h2:=Br.1 hw (DE q) Cl;rw[show(DE q).path=q.path from rfl]at h2;dsimp only at h1;cases hf:BE s i.path with
      |none=>grind [Dg]
      |some y=>
       rw[hf]at h1;unfold Dg at h1;simp only[At]at h1;have hp:place y.ver=i.place:=by
        grind [has,BS]
       have hy:=Lt hf;have hyp:=RK hf;obtain⟨r',e1,e2⟩:=hs.fnd y hy;obtain⟨_,m1,k1⟩:=Gf e1;have nM:r∈x:=AX hr;have zB:=DA hr;simp only[At,Bj]at zB;have GX:=B7 hs.ix
       have:r'=r:=by
        refine YU GX m1 nM ?_ ?_
        .rw[zB.1,<-hyp,<-k1];rfl
        .rw[<-(GX.1 r nM).plc,zB.2,<-hp,<-k1];rfl
       subst this
       have:=hs.req y hy r' e1 q (UM hq)
       grind [Se]
   simp_all
  .split at h
   .split at h
    .refine br hv h ?_;rw[BY];intro hw;have h1:=Br.1 hw _ (AQ.2 rfl);dsimp only at h1;cases hf:BE s i.path with
     |none=>grind [Dg]
     |some y=>
      rw[hf]at h1;unfold Dg at h1;simp only[At]at h1;have hy:=Lt hf;have hyp:=RK hf;obtain⟨r,e1,e2⟩:=hs.fnd y hy;obtain⟨_,m1,k1⟩:=Gf e1;have GX:=B7 hs.ix;have h1:=h1.2;rw[Gg]at h1;have lz:=JO (hv y hy)
      have:has (B3 x i.path) (place y.ver)=true:=by
       unfold B3;rw[Hv];unfold has;simp only[lz,decide_true,Bool.true_and,Ce,Ay,CY];refine⟨(plc r.ver,plc r.ver+1),⟨r,⟨?_,by simp_all⟩,rfl⟩,?_⟩
       .unfold LF;simp only[hs.ix,ne_eq,not_true,if_false,CY,m1,true_and,Bj];rw[<-hyp,<-k1];rfl
       .rw[(GX.1 r m1).plc,<-k1];rw[Ez];exact⟨Bs _,by show place r.ver<place r.ver+1;omega⟩
      simp_all
    simp_all
   .split at h
    .split at h
     .split at h
      .rename_i a b ha hb;split at h
       .rename_i h0;cases h;rw[BY];intro hw;rcases U6 hv (o:=(BG a b i.path).1) (Prod.ext rfl h0) hw with hw | hw<;>grind [UM]
       simp_all
      simp_all
     simp_all
    simp_all
theorem Mt{x:List Rl}{roots:List Rq}{s:List Sl}(hs:zd x roots s):∀{l:List Nf} {d d' : List (List Tm)},(∀t∈d,A9 t s=false)->Du x roots l d=some d'->∀t∈d',A9 t s=false
 | [],d,d',hd,h=>by cases h;exact hd
 |i::l,d,d',hd,h=>by
  unfold Du at h;split at h
  .cases h
  .rename_i o ho;refine Mt hs (fun t ht=>?_) h
   grind [Yw]
theorem G9{α:Type}[DecidableEq α]:∀{l m:List α},l.Nodup->(∀x∈l,x∈m)->l.length<=m.length
 | [],_,_,_=>Aj _
 |a::l,m,hn,hs=>by
  rw[HN]at hn;have ha:a∈m:=hs a (Ah ..)
  have:=G9 (l:=l) (m:=m.erase a) hn.2 fun x hx=>by
   grind
  grind
theorem bv[DecidableEq α]{l m:List α}(hn:l.Nodup)(hs:∀x∈l,x∈m)(hl:m.length<=l.length):∀x∈m,x∈l:=fun x hx=>by
 apply Aq;intro zy
 have:=G9 (m:=m.erase x) hn fun y hy=>(List.mem_erase_of_ne (a:=y) (b:=x) (fun e=>zy B0)).2 (hs y hy)
 grind
abbrev XG(s:List Sl):Prop:=s.Pairwise (fun a b=>Dq a.path b.path=true)
-- the next path
theorem Kj(before:List Sl):∀{l:List Rq} {acc:Option ByteArray},(∀p,acc=some p->CO before p=false) ->
  (∀p,DD before l acc=some p->CO before p=false/\(acc=some p\/∃q∈l,q.path=p))/\(DD before l acc=none->acc=none/\∀q∈l,CO before q.path=true)
 | [],acc,ha=>⟨fun p h=>⟨ha p h,.inl h⟩,fun h=>⟨h,fun _ h=>(by cases h)⟩⟩
 |q::l,acc,ha=>by
  unfold DD
  have key:∀iF,(∀p,iF=some p->CO before p=false)->(∀p,iF=some p->acc=some p\/q.path=p)->(iF=none->acc=none/\CO before q.path=true) ->
    (∀p,DD before l iF=some p->CO before p=false/\(acc=some p\/∃q'∈q::l,q'.path=p))/\(DD before l iF=none->acc=none/\∀q'∈q::l,CO before q'.path=true):=by
   intro iF h1 h2 h3;obtain⟨i1,i2⟩:=Kj before (l:=l) h1<;>grind
  cases hb:CO before q.path<;>grind
theorem UI{needs:List Rq}{before:List Sl}{p:ByteArray}(h:L1 needs before=some p):CO before p=false/\∃q∈needs,q.path=p:=by
 obtain⟨h1,h2⟩:=(Kj before (l:=needs) (acc:=none) fun _ e=>by cases e).1 p h<;>simp_all
theorem dT{needs:List Rq}{before:List Sl}(h:L1 needs before=none):∀q∈needs,CO before q.path=true:=
 ((Kj before (l:=needs) (acc:=none) fun _ e=>by cases e).2 h).2
theorem Lx{p:ByteArray}:CO s p=true↔∃y∈s,y.path=p:=by grind [CO]
theorem Hu{p:ByteArray}:CO s p=true↔p∈s.map (·.path):=by grind [Lx]
-- what is needed
-- skips
theorem X8{t:List Tm}{b:List Sl}(hs:CD s=true)(hb:∀y∈b,y∈s)(h:CH t b=true):A9 t s=true:=by
 unfold CH at h;simp only[At,FA,List.any_eq_false]at h;obtain⟨h1,h2⟩:=h;rw[Br]at h1⊢;intro u hu
 have:=h2 u hu
 simp only[Bool.not_eq_false]at this;rw[Ke]at this;cases hf:BE b u.path<;>grind [BE,ah]
-- right answers
-- the first decision that differs
-- prefixes
theorem Jf{x:List Rl}{roots:List Rq}:∀{l:List Nf} {d d' : List (List Tm)},Du x roots l d=some d'->d'.length=d.length+l.length
 | [],d,d',h=>by cases h;rfl
 |i::l,d,d',h=>by
  unfold Du at h;split at h
  .cases h
  .have:=Jf h
   grind
theorem He{x:List Rl}{roots:List Rq}:∀(l m:List Nf) (d:List (List Tm)),Du x roots (l++m) d=match Du x roots l d with | none=>none | some d'=>Du x roots m d'
 | [],_,_=>rfl
 |i::l,m,d=>by
  show(match D0 x roots d i with | none=>none | some t=>Du x roots (l++m) (d++[t]))=(match(match D0 x roots d i with | none=>none | some t=>Du x roots l (d++[t]))with | none=>none | some d'=>Du x roots m d');cases D0 x roots d i with
  |none=>rfl
  |some t=>exact He l m _
theorem LU{x:List Rl}{roots:List Rq}:∀{l:List Nf} {d d' : List (List Tm)},Du x roots l d=some d'->d <+: d'
 | [],d,d',h=>by cases h<;>simp_all
 |i::l,d,d',h=>by
  unfold Du at h;split at h
  .cases h
  .exact(List.prefix_append _ _).trans (LU h)
theorem NJ{x:List Rl}{l:List Nf}(h:Du x roots l []=some d)(k:Nat):Du x roots (l.take k) []=some (d.take k):=by
 rw[<-LQ k l,He]at h;cases e:Du x roots (l.take k) []with
 |none=>simp_all
 |some f=>
  rw[e]at h;dsimp only at h;have h1:=Jf e;have h2:=Jf h;have h3:=LU h
  congr 1
  simp only[AC,AF,G1]at h1 h2;obtain⟨z,rfl⟩:=h3
  by_cases hk:k<=l.length
  .simp_all
  .rw[Ac]at h2
   have:z=[]:=AY ch
   grind [List.take_of_length_le]
def Form:Prop:=C3 l=some l
theorem kJ{l:List Tm}:∀(l2:List Tm),BP none (l2++l)->l.foldl (fun acc t=>Oh t acc) l2=l2++l:=by
 induction l with
 |nil=>simp_all
 |cons t r ih=>
  intro l2 h;have hi:Oh t l2=l2++[t]:=by
   have:∀(m:List Tm) (lo:Option ByteArray),BP lo (m++t::r)->Oh t m=m++[t]:=by
    intro m
    induction m with
    |nil=>
     intro lo hm;have hc:EY t.set:=hm.2.1;unfold Oh;rw[show Mm t=t from yh rfl rfl (JA hc)];rfl
    |cons u m ihm=>
     grind [BP,BP.low,Oh]
   grind
  simp_all
theorem QV{l:List Tm}(h:BP none l):Fy l=l:=by
 grind [kJ,Fy]
theorem RI{l c:List Tm}(h:C3 l=some c):Form c:=by
 grind [E8,Form,C3,QV,List.filter_filter]
theorem T8:Form []:=rfl
theorem MN:Form (QZ l):=by
 grind [QZ,C3,T8,RI]
theorem NW(a b:List Tm)(p:ByteArray):Form (BG a b p).1:=by
 grind [BG,RI,T8]
theorem bq{l o:List Tm}(h:jY l=some o):o=l:=by grind [jY]
theorem aL{x:List Rl}{i:Nf}{o:List Tm}(h:D0 x roots d i=some o):Form o:=by
 unfold D0 at h;split at h
 .split at h
  .rw[Cj]at h;obtain⟨q,_,rfl⟩:=h;exact MN _
  simp_all
 .split at h
  .split at h
   .split at h
    .cases h
    .split at h
     .cases h
     .rw[bq h];exact MN _
   simp_all
  .split at h
   .split at h
    .rw[bq h];exact MN _
    simp_all
   grind [NW]
theorem NI{x:List Rl}{roots:List Rq}:∀{l:List Nf} {d d' : List (List Tm)},(∀t∈d,Form t)->Du x roots l d=some d'->∀t∈d',Form t
 | [],d,d',hd,h=>by cases h;exact hd
 |i::l,d,d',hd,h=>by
  unfold Du at h;split at h
  .cases h
  .rename_i o ho;refine NI (fun t ht=>?_) h
   grind [aL]
-- tampering
def D4(l:A7):A7:=(l.map GV).filter fun x=>decide (x.1<x.2)
theorem Ws{l:A7}{x:Int×Int}(h:x∈D4 l):0<=x.1/\x.1<x.2/\x.2<=1000000:=by
 grind [D4,GV]
theorem iY(l:A7)(p:Int):(D4 l).any (BS p)=has l p:=by
 rw[<-KK]
 induction l<;>grind [D4,canon,OP,B6]
theorem N8:∀{l:A7} {lo:Int},ER lo l↔(∀y∈l,lo<=y.1/\y.1<y.2/\y.2<=1000000)/\l.Pairwise fun a b=>a.2<b.1
 | [],lo=>by simp[ER]
 |y::r,lo=>by
  rw[BI];constructor
  .intro h;have hl:=h.low;refine⟨hl,fun z hz=>?_,((N8 (l:=r)).1 h.2.2.2).2⟩
   have:=h.2.2.2.low z hz;omega
  .intro⟨h1,h2,h3⟩;have hy:=h1 y (Ah ..);refine⟨hy.1,hy.2.1,hy.2.2,N8.2 ⟨fun z hz=>?_,h3⟩⟩
   grind
def JS(r:A7)(x:Int×Int):A7:=match r with
 | []=>[x]
 |y::t=>if x.1<=y.2 then(y.1,max y.2 x.2)::t else x::y::t
def BF(s:A7):A7:=s.foldl JS []
theorem Fv(s:A7)(i:Nat)(h:i<s.length):BF (s.take (i+1))=JS (BF (s.take i)) s[i]:=by
 grind [BF,List.take_add_one]
theorem kW(r:A7)(x:Int×Int):(JS r x).length<=r.length+1/\r.length<=(JS r x).length/\0<(JS r x).length:=by
 unfold JS
 grind
theorem Om(s:A7):∀i,i<=s.length->(BF (s.take i)).length<=i/\(0<i->0<(BF (s.take i)).length):=by
 intro i
 induction i<;>grind [BF,Fv,kW]
structure iD(r done:A7):Prop where
 ok:∀y∈r,0<=y.1/\y.1<y.2/\y.2<=1000000
 pw:r.Pairwise fun a b=>b.2<a.1
 has:∀p,r.any (BS p)=done.any (BS p)
 first:∀y t,r=y::t->∃x∈done,y.1=x.1
theorem kV{r done:A7}{x:Int×Int}(h:iD r done)(hx:0<=x.1/\x.1<x.2/\x.2<=1000000)(hs:∀y∈done,y.1<=x.1):iD (JS r x) (done++[x]):=by
 unfold JS;split
 .refine⟨fun y hy=>?_,by simp,fun p=>?_,fun y t e=>?_⟩
  all_goals grind [iD.has]
 .rename_i y t;have hy:=h.ok y (Ah ..);obtain⟨pw1,pw2⟩:=BI.1 h.pw;obtain⟨z,hz,e⟩:=h.first y t rfl
  have hyx:=hs z hz;split
  .rename_i Jk;refine⟨fun u hu=>?_,BI.2 ⟨pw1,pw2⟩,fun p=>?_,fun u t' e'=>?_⟩
   .rcases AZ.1 hu with rfl | hu
    .omega
    .exact h.ok u (Am _ hu)
   .rw[List.any_append,<-h.has,DW,DW,DW,List.any_nil,Bool.or_false]
    grind [BS]
   grind
  .rename_i Jk;refine⟨fun u hu=>?_,BI.2 ⟨fun u hu=>?_,h.pw⟩,fun p=>?_,fun u t' e'=>?_⟩
   .rcases AZ.1 hu with rfl | hu
    .exact hx
    .exact h.ok u hu
   all_goals grind [iD.has]
theorem dQ{s:A7}(GX:∀y∈s,0<=y.1/\y.1<y.2/\y.2<=1000000)(hs:s.Pairwise fun a b=>a.1<=b.1):∀i,i<=s.length->iD (BF (s.take i)) (s.take i):=by
 intro i
 induction i with
 |zero=>intro _;exact⟨fun _ h=>by grind [BF],by simp[BF],fun p=>by simp[BF],fun y t e=>by grind [BF]⟩
 |succ i ih=>
  grind [Fv,List.take_add_one,kV,List.mem_iff_getElem,List.pairwise_iff_getElem]
theorem LR{l s:A7}(hp:s.Perm (D4 l))(hs:s.Pairwise fun a b=>a.1<=b.1):(BF s).reverse=canon l:=by
 have hi:=dQ (s:=s) (fun y hy=>Ws (hp.mem_iff.1 hy)) hs s.length (Ao _);rw[Cf]at hi;have hc:EY (BF s).reverse:=by
  unfold EY;rw[N8];refine⟨fun y hy=>hi.ok y (List.mem_reverse.1 hy),?_⟩
  grind [iD.pw]
 refine TC hc fun p=>?_;rw[HX hc,List.any_reverse,hi.has,<-iY]
 grind
-- maps from numbers to numbers,as lists in the order in which they are met
def FJ:Int:=match m.find? (fun p=>decide (p.1=k))with | some p=>p.2 | none=>0
def LI(v:Int):List (Int×Int):=if m.any (fun p=>decide (p.1=k))then m.map (fun p=>if p.1=k then(k,v)else p)else m++[(k,v)]
theorem Nu(p:Int×Int)(m:List (Int×Int))(k:Int):FJ (p::m) k=if p.1=k then p.2 else FJ m k:=by
 grind [FJ]
theorem Qp(v j:Int):FJ (LI m k v) j=if j=k then v else FJ m j:=by
 unfold LI;split
 .rename_i h
  induction m with
  |nil=>simp_all
  |cons p m ih=>
   rw[Bq,Nu,Nu]
   by_cases e:p.1=k
   .rw[Ax e];dsimp only
    by_cases ej:j=k
    .omega
    .rw[AA (fun c=>ej c.symm),AA ej,AA (fun c=>ej (c.symm.trans e))]
     by_cases hm:(m.any fun p=>decide (p.1=k))=true
     .simp_all
     .have:∀q∈m,q.1≠k:=fun q hq e=>hm (Ce.2 ⟨q,hq,by simp[e]⟩)
      have:m.map (fun p=>if p.1=k then(k,v)else p)=m:=by
       conv=>rhs;rw[<-Hp m]
       grind [List.map_congr_left]
      simp_all
   grind
 .rename_i h;have hn:∀q∈m,q.1≠k:=fun q hq e=>h (Ce.2 ⟨q,hq,by simp[e]⟩)
  induction m<;>grind [Nu]
def Fp:List Int:=m.map (·.1)
theorem WP(v:Int):Fp (LI m k v)=if k∈Fp m then Fp m else Fp m++[k]:=by
 grind [LI,Fp,List.map_congr_left]
theorem ME{m:List (Int×Int)}(h:(Fp m).Nodup)(k v:Int):(Fp (LI m k v)).Nodup:=by
 grind [WP]
theorem KR(v j:Int):j∈Fp (LI m k v)↔j=k\/j∈Fp m:=by
 grind [WP]
theorem qa{m:List (Int×Int)}(h:(Fp m).Nodup){p:Int×Int}(hp:p∈m):FJ m p.1=p.2:=by
 induction m<;>grind [Nu,Fp]
theorem qb{m:List (Int×Int)}{k:Int}(h:k∉Fp m):FJ m k=0:=by
 unfold FJ
 have:m.find? (fun p=>decide (p.1=k))=none:=by
  rw[OM];intro p hp;simp only[Bj];exact fun e=>h (Ay.2 ⟨p,hp,e⟩)
 grind
-- counting
def cF(k:Int):Nat:=S.countP fun x=>decide (x.1=k)
def cT(k:Int):Nat:=S.countP fun x=>decide (x.2=k)
def lF(k:Int):Nat:=S.countP fun x=>decide (x.1<=k)
def lT(k:Int):Nat:=S.countP fun x=>decide (x.2<=k)
theorem Je{α:Type}{p q r:α->Bool}:∀{l:List α},(∀x∈l,(p x=true↔q x=true\/r x=true)/\¬(q x=true/\r x=true))->l.countP p=l.countP q+l.countP r
 | [],_=>rfl
 |x::l,h=>by
  have ih:=Je fun y hy=>h y (Am _ hy)
  grind
structure F1(m:List (Int×Int))(S:A7):Prop where
 nd:(Fp m).Nodup
 val:∀k,FJ m k=(cF S k:Int)-cT S k
 keys:0∈Fp m/\1000000∈Fp m/\∀x∈S,x.1∈Fp m/\x.2∈Fp m
 rng:∀k∈Fp m,0<=k/\k<=1000000
def ch0:List (Int×Int):=[(0,0),(1000000,0)]
theorem rx:F1 ch0 []:=⟨by decide,fun k=>by
  grind [ch0,FJ,cF,cT],⟨by decide,by decide,fun _ h=>by cases h⟩,fun k hk=>by
  grind [ch0,Fp]⟩
def bW(x:Int×Int):List (Int×Int):=LI (LI m x.1 (FJ m x.1+1)) x.2 (FJ (LI m x.1 (FJ m x.1+1)) x.2-1)
theorem kU{m:List (Int×Int)}{S:A7}{x:Int×Int}(h:F1 m S)(hx:0<=x.1/\x.1<x.2/\x.2<=1000000):F1 (bW m x) (S++[x]):=by
 unfold bW;refine⟨ME (ME h.nd _ _) _ _,fun k=>?_,⟨?_,?_,fun y hy=>?_⟩,fun k hk=>?_⟩
 .rw[Qp,Qp,Qp,h.val,h.val,h.val];unfold cF cT;simp only[List.countP_append,List.countP_singleton,Bj]
  grind
 .grind [KR,F1.keys]
 .grind [KR,F1.keys]
 .grind [KR,F1.keys]
 .rw[KR,KR]at hk;rcases hk with rfl | rfl | hk
  .omega
  .omega
  .exact h.rng k hk
def IZ(B:List Int):Int:=(B.map (FJ m)).foldl (·+·) 0
theorem Rv(B:List Int)(i:Nat)(h:i<B.length):IZ m (B.take (i+1))=IZ m (B.take i)+FJ m B[i]:=by
 grind [IZ,List.take_add_one]
structure qS(B:List Int)(m:List (Int×Int)):Prop where
 perm:B.Perm (Fp m)
 srt:B.Pairwise fun a b=>a<b
theorem hJ{m:List (Int×Int)}{S:A7}(h:F1 m S)(hB:qS B m):∀i (hi:i<B.length),IZ m (B.take (i+1))=(lF S B[i]:Int)-lT S B[i]:=by
 have mem:∀k,k∈Fp m->∃j,∃hj:j<B.length,B[j]=k:=fun k hk=>by
  have:=hB.perm.mem_iff.2 hk
  grind [List.mem_iff_getElem]
 have lt:∀i j (hi:i<B.length) (hj:j<B.length),i<j->B[i]<B[j]:=fun i j hi hj az=>(Bz.1 hB.srt) i j hi hj az;intro i
 induction i with
 |zero=>
  intro hi;rw[Rv m B 0 hi,h.val]
  have:IZ m (B.take 0)=0:=by simp[IZ]
  rw[this];have low:∀k∈Fp m,B[0]<=k:=fun k hk=>by
   grind
  have e1:lF S B[0]=cF S B[0]:=by
   grind [lF,cF,List.countP_congr,F1.keys]
  grind [lT,cT,List.countP_congr,F1.keys]
 |succ i ih=>
  intro hi;rw[Rv m B (i+1) hi,ih ch,h.val];have nb:∀k∈Fp m,k<=B[i+1]↔k<=B[i]\/k=B[i+1]:=fun k hk=>by
   grind
  have l0:=lt i (i+1) ch hi ch;have e1:lF S B[i+1]=lF S B[i]+cF S B[i+1]:=by
   unfold lF cF;apply Je
   grind [F1.keys]
  have e2:lT S B[i+1]=lT S B[i]+cT S B[i+1]:=by
   unfold lT cT;apply Je
   grind [F1.keys]
  omega
theorem ZP{S:A7}(hS:∀x∈S,x.1<x.2)(p:Int):(lF S p:Int)-lT S p=(S.countP (BS p):Nat):=by
 have:lF S p=S.countP (BS p)+lT S p:=by
  unfold lF lT
  grind [Je,BS]
 omega
theorem Pd:∀{l:A7} {lo:Int} (p:Int),ER lo l->l.countP (BS p)=if l.any (BS p)then 1 else 0
 | [],_,_,_=>rfl
 |y::r,lo,p,⟨h1,h2,h3,h4⟩=>by
  rw[List.countP_cons,Pd p h4,DW];cases hy:BS p y with
  |false=>grind
  |true=>
   have:=Ez.1 hy
   have:r.any (BS p)=false:=by
    rw[BY];intro hr;have:=OR h4 hr;omega
   simp_all
theorem Mr:∀(l:List A7) (p:Int),((l.map canon).flatten).countP (BS p)=mD l p
 | [],_=>rfl
 |s::l,p=>by
  rw[Bq,BZ,List.countP_append,Mr l p,Pd p (B6 s),KK]
  grind [mD]
def EJ(keep:Nat->Bool)(m:List (Int×Int))(B:List Int):Nat->A7
 |0=>[]
 |i+1=>EJ keep m B i++(match B[i]?,B[i+1]? with
  |some a,some b=>if keep (IZ m (B.take (i+1))).toNat then [(a,b)]else []
  |_,_=>[])
theorem QQ{keep:Nat->Bool}{m:List (Int×Int)}{B:List Int}{x:Int×Int}:∀{n:Nat},x∈EJ keep m B n↔∃i,i<n/\∃(h1:i<B.length) (h2:i+1<B.length),keep (IZ m (B.take (i+1))).toNat=true/\x=(B[i],B[i+1])
 |0=>by simp[EJ]
 |n+1=>by
  unfold EJ;rw[Bh,QQ (n:=n)]
  grind
theorem OU{B:List Int}(hs:B.Pairwise fun a b=>a<b){p:Int}:∀(n:Nat) (h0:0<B.length) (hn:n<B.length),B[0]<=p->p<B[n]->∃i,∃(h1:i<B.length) (h2:i+1<B.length),B[i]<=p/\p<B[i+1]
 |0,h0,hn,h1,h2=>by omega
 |n+1,h0,hn,h1,h2=>by
  by_cases e:B[n]<=p
  .grind
  .exact OU hs n h0 ch h1 ch
theorem oh{keep:Nat->Bool}{l:List A7}{m:List (Int×Int)}(h:F1 m (l.map canon).flatten)(hB:qS B m)(p:Int):has (EJ keep m B (B.length-1)) p=(SB p&&keep (mD l p)):=by
 have hS:∀x∈(l.map canon).flatten,x.1<x.2:=fun x hx=>by
  obtain⟨s,hs,hx⟩:=G2.1 hx;obtain⟨t,_,rfl⟩:=Ay.1 hs;exact((B6 t).low x hx).2.1
 have mem:∀k,k∈Fp m->∃j,∃hj:j<B.length,B[j]=k:=fun k hk=>by
  obtain⟨j,hj,e⟩:=DS.1 (hB.perm.mem_iff.2 hk)<;>grind [List.mem_iff_getElem]
 have lt:∀i j (hi:i<B.length) (hj:j<B.length),i<j->B[i]<B[j]:=fun i j hi hj az=>(Bz.1 hB.srt) i j hi hj az;have rng:∀i (hi:i<B.length),0<=B[i]/\B[i]<=1000000:=fun i hi=>h.rng _ (hB.perm.mem_iff.1 (Ai hi))
 -- rg two bounds
 have rg:∀i (h1:i<B.length) (h2:i+1<B.length),B[i]<=p->p<B[i+1]->(IZ m (B.take (i+1))).toNat=mD l p:=fun i h1 h2 a b=>by
  have same:∀k∈Fp m,k<=B[i]↔k<=p:=fun k hk=>by
   grind
  have e1:lF (l.map canon).flatten B[i]=lF (l.map canon).flatten p:=by
   grind [lF,List.countP_congr,F1.keys]
  grind [lT,List.countP_congr,hJ,ZP,Mr,F1.keys]
 rw[Eu];constructor
 .grind [has,QQ,Ez,SB]
 .intro hh;simp only[At,SB,Bj]at hh;obtain⟨⟨p0,p1⟩,hk⟩:=hh;obtain⟨j0,hj0,e0⟩:=mem 0 h.keys.1;obtain⟨j1,hj1,e1⟩:=mem 1000000 h.keys.2.1;have hb0:B[0]' ch<=p:=by
   grind
  obtain⟨i,h1,h2,a,b⟩:=OU hB.srt j1 ch hj1 hb0 ch;unfold has;simp only[p0,p1,decide_true,Bool.true_and];exact Ce.2 ⟨(B[i],B[i+1]),QQ.2 ⟨i,by omega,h1,h2,by simp_all,rfl⟩,Ez.2 ⟨a,b⟩⟩
theorem pR{l:List A7}{m:List (Int×Int)}(h:F1 m (l.map canon).flatten)(hB:qS B m)(i:Nat)(hi:i<B.length):0<=IZ m (B.take (i+1))/\IZ m (B.take (i+1))<=l.length:=by
 have hS:∀x∈(l.map canon).flatten,x.1<x.2:=fun x hx=>by
  obtain⟨s,hs,hx⟩:=G2.1 hx;obtain⟨t,_,rfl⟩:=Ay.1 hs;exact((B6 t).low x hx).2.1
 rw[hJ h hB i hi,ZP hS,Mr]
 grind [mD]
end Go.Eng
