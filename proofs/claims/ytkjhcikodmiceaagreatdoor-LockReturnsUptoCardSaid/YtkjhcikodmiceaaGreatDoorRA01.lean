/- Lemmas 1. -/
import Derived.Test.YtkjhcikodmiceaaGreatDoorRA00
namespace Go.Eng
variable {a b:ByteArray}{lo:Option ByteArray}{α:Type}(c:UInt8)(p:ByteArray)
def BS(p:Int)(s:Int×Int):Bool:=decide (s.1<=p)&&decide (p<s.2)
def has(s:List (Int×Int))(p:Int):Bool:=decide (0<=p)&&decide (p<1000000)&&s.any (BS p)
abbrev Ba:=List (Int×Int)
def Ej(lo:Int):Ba->Prop
 | []=>True
 |y::r=>lo<=y.1/\y.1<y.2/\y.2<=1000000/\Ej (y.2+1) r
abbrev En(l:Ba):Prop:=Ej 0 l
def W5(x:Int×Int):Ba->Ba
 | []=>[x]
 |y::r=>if x.2<y.1 then x::y::r else if y.2<x.1 then y::W5 x r else W5 (min x.1 y.1,max x.2 y.2) r
def Pu(x:Int×Int):Int×Int:=(max x.1 0,min x.2 1000000)
def canon:Ba->Ba
 | []=>[]
 |x::r=>if(Pu x).1<(Pu x).2 then W5 (Pu x) (canon r)else canon r
def Kr(at_:Int):Ba->Ba
 | []=>if at_<1000000 then [(at_,1000000)]else []
 |y::r=>if at_<y.1 then(at_,y.1)::Kr y.2 r else Kr y.2 r
def EB(s:Ba):Ba:=Kr 0 (canon s)
def Qq(l:List Ba):Ba:=canon l.flatten
def PJ(l:List Ba):Ba:=EB (l.map EB).flatten
def Pg(a b:Ba):Ba:=Qq [a,b]
def OI(a b:Ba):Ba:=PJ [a,b]
theorem Ej.mono{lo HC : Int}:∀{l:Ba},Ej lo l->HC<=lo->Ej HC l
 | [],_,_=>trivial
 |_::_,⟨h1,h2,h3,h4⟩,h=>⟨Int.le_trans h h1,h2,h3,h4⟩
theorem Ej.low{lo:Int}:∀{l:Ba},Ej lo l->∀y∈l,lo<=y.1/\y.1<y.2/\y.2<=1000000
 |y::r,⟨h1,h2,h3,h4⟩,z,hz=>by
  rcases AM.1 hz with rfl | hz
  .omega
  .have:=h4.low z hz
   omega
theorem D0{p:Int}{s:Int×Int}:BS p s=true↔s.1<=p/\p<s.2:=by simp[BS]
theorem N6{lo:Int}{l:Ba}(h:Ej lo l){p:Int}(hp:l.any (BS p)=true):lo<=p:=by
 obtain⟨y,hy,h2⟩:=CB.1 hp
 have:=h.low y hy
 grind [D0]
theorem gH{lo:Int}{l:Ba}(h:Ej lo l){p:Int}(hp:l.any (BS p)=true):p<1000000:=by
 obtain⟨y,hy,h2⟩:=CB.1 hp
 have:=h.low y hy
 grind [D0]
theorem Np:∀(l:Ba) {lo:Int} {x:Int×Int},Ej lo l->lo<=x.1->x.1<x.2->x.2<=1000000->Ej lo (W5 x l)
 | [],lo,x,_,h1,h2,h3=>⟨h1,h2,h3,trivial⟩
 |y::r,lo,x,⟨g1,g2,g3,g4⟩,h1,h2,h3=>by
  unfold W5;split
  .exact⟨h1,h2,h3,by omega,g2,g3,g4⟩
  .split
   .exact⟨g1,g2,g3,Np r g4 B0 h2 h3⟩
   .refine Np r (g4.mono B0) ?_ ?_ ?_<;>dsimp only<;>omega
theorem N3:∀(l:Ba) {lo:Int} {x:Int×Int} (p:Int),Ej lo l->x.1<x.2->(W5 x l).any (BS p)=(BS p x||l.any (BS p))
 | [],lo,x,p,_,_=>by simp[W5]
 |y::r,lo,x,p,⟨g1,g2,g3,g4⟩,h2=>by
  unfold W5;split
  .simp
  .split
   .rw[Em,N3 r p g4 h2,Em,<-Bool.or_assoc,<-Bool.or_assoc,Bool.or_comm (BS p y)]
   .rw[N3 r p g4 B0,Em,<-Bool.or_assoc]
    grind [BS]
theorem B6:∀s:Ba,En (canon s)
 | []=>trivial
 |x::r=>by
  unfold canon;split
  .rename_i h;refine Np _ (B6 r) ?_ h ?_<;>simp only[Pu]<;>omega
  .exact B6 r
theorem JR:∀(s:Ba) (p:Int),(canon s).any (BS p)=has s p
 | [],p=>by simp[has,canon]
 |x::r,p=>by
  have ih:=JR r p
  grind [canon,BS,Pu,N3,B6,has]
theorem Hk{l:Ba}(h:En l)(p:Int):has l p=l.any (BS p):=by
 unfold has;cases e:l.any (BS p)with
 |false=>simp
 |true=>have h1:0<=p:=N6 h e;grind [gH]
theorem GY(s:Ba)(p:Int):has (canon s) p=has s p:=by
 rw[Hk (B6 s),JR]
theorem MV:∀{a b:Ba} {lo:Int},Ej lo a->Ej lo b->(∀p,a.any (BS p)=b.any (BS p))->a=b
 | [],[],_,_,_,_=>rfl
 | [],z::s,_,_,⟨g1,g2,g3,g4⟩,h=>by
  have:=h z.1
  grind [D0]
 |y::r,[],_,⟨g1,g2,g3,g4⟩,_,h=>by
  have:=h y.1
  grind [D0]
 |y::r,z::s,lo,⟨f1,f2,f3,f4⟩,⟨g1,g2,g3,g4⟩,h=>by
  have below:∀{x:Int×Int} {t:Ba} {p:Int},Ej (x.2+1) t->(x::t).any (BS p)=true->p<=x.2->x.1<=p/\p<x.2:=fun {x t p} ht hp Ig=>by
   rw[Em,Ja]at hp;rcases hp with hp | hp
   .exact D0.1 hp
   .have:=N6 ht hp;omega
  have low:∀{x:Int×Int} {t:Ba} {p:Int},x.1<x.2->Ej (x.2+1) t->(x::t).any (BS p)=true->x.1<=p:=fun {x t p} hx ht hp=>by
   grind
  have cov:∀{x:Int×Int} {t:Ba} {p:Int},x.1<=p->p<x.2->(x::t).any (BS p)=true:=fun {x t p} h1 h2=>by
   grind [D0]
  have e1:y.1=z.1:=by
   grind
  have e2:y.2=z.2:=by
   rcases Int.lt_trichotomy y.2 z.2 with hl | he | hl
   .grind
   .exact he
   .have:=below g4 ((h z.2).symm.trans (cov B0 hl)) (Cp _);omega
  have e:y=z:=Prod.ext e1 e2;subst e
  congr 1
  refine MV f4 g4 fun p=>?_;have hp:=h p;simp only[Em]at hp;cases hs:BS p y with
  |false=>simp_all
  |true=>
   have:=D0.1 hs
   have n:∀{t:Ba},Ej (y.2+1) t->t.any (BS p)=false:=fun {t} ht=>by
    rw[Bn];intro hx;have:=N6 ht hx;omega
   grind
theorem Hc{a b:Ba}(ha:En a)(hb:En b)(h:∀p,has a p=has b p):a=b:=
 MV ha hb fun p=>by rw[<-Hk ha,<-Hk hb,h]
theorem Sh{a s:Ba}(ha:En a)(h:∀p,has a p=has s p):a=canon s:=
 Hc ha (B6 s) fun p=>by rw[h,GY]
theorem IZ{a:Ba}(ha:En a):canon a=a:=(Sh ha fun _=>rfl).symm
theorem PE{s:Ba}{p:Int}(h:has s p=true):0<=p/\p<1000000:=by
 grind [has]
def Ru(p:Int):Bool:=decide (0<=p)&&decide (p<1000000)
theorem Ks:∀(l:Ba) {at_ lo:Int},0<=at_->Ej lo l->lo<=at_+1->at_<=lo->Ej at_ (Kr at_ l)/\∀p,(Kr at_ l).any (BS p)=(decide (at_<=p)&&decide (p<1000000)&&!l.any (BS p))
 | [],at_,lo,h0,_,h1,h2=>by
  unfold Kr;split
  .exact⟨⟨Cp _,by omega,Cp _,trivial⟩,fun p=>by simp[BS]⟩
  .refine⟨trivial,fun p=>?_⟩
   grind
 |y::r,at_,lo,h0,⟨g1,g2,g3,g4⟩,h1,h2=>by
  have ih:=Ks r (at_:=y.2) B0 g4 (Cp _) B0;have key:∀p,(decide (at_<=p)&&decide (p<y.1)||(Kr y.2 r).any (BS p))=(decide (at_<=p)&&decide (p<1000000)&&!(y::r).any (BS p)):=fun p=>by
   rw[ih.2,Em];cases hr:r.any (BS p)with
   |true=>
    have:=N6 g4 hr
    grind
   |false=>
    grind [BS]
  unfold Kr;split
  .rename_i h;refine⟨⟨Cp _,h,by omega,ih.1 |> fun c=>?_⟩,fun p=>?_⟩
   .dsimp only;cases e:Kr y.2 r with
    |nil=>trivial
    |cons z s=>
     rw[e]at c;exact⟨by have:=c.1;omega,c.2⟩
   .rw[Em,<-key];rfl
  grind [Ej.mono]
theorem GW(s:Ba):En (EB s):=by
 grind [EB,Ks,B6]
theorem FK(s:Ba)(p:Int):has (EB s) p=(Ru p&&!has s p):=by
 rw[Hk (GW s)];unfold EB;rw[(Ks _ (Cp _) (B6 s) B0 (Cp _)).2,JR];rfl
theorem af(a b:Ba)(p:Int):has (a++b) p=(has a p||has b p):=by
 grind [has]
theorem LH:∀(l:List Ba) (p:Int),has l.flatten p=l.any fun s=>has s p
 | [],p=>by simp[has]
 |s::l,p=>by rw[By,af,LH l p,Em]
theorem SL(l:List Ba)(p:Int):has (Qq l) p=l.any fun s=>has s p:=by
 unfold Qq;rw[GY,LH]
theorem WL(l:List Ba):En (Qq l):=B6 _
theorem Wm(l:List Ba):En (PJ l):=GW _
theorem SK(l:List Ba)(p:Int):has (PJ l) p=(Ru p&&l.all fun s=>has s p):=by
 grind [PJ,FK,LH,List.any_map]
theorem Ze(a b:Ba):En (Pg a b):=B6 _
theorem QQ(a b:Ba):En (OI a b):=GW _
theorem dT(a b:Ba)(p:Int):has (Pg a b) p=(has a p||has b p):=by
 grind [Pg,SL]
theorem UX(a b:Ba)(p:Int):has (OI a b) p=(has a p&&has b p):=by
 grind [OI,SK,PE,Ru]
theorem aq(s:Ba):OI s s=canon s:=Hc (QQ _ _) (B6 _) fun p=>by grind [UX,GY]
theorem Ui{s:Ba}:canon s=[]↔∀p,has s p=false:=by
 constructor
 .intro h p;rw[<-GY,h];simp[has]
 .intro h;exact Hc (B6 s) (b:=[]) trivial fun p=>by grind [GY,has]
theorem PS{s:Ba}(hs:En s):s=[]↔∀p,has s p=false:=by
 rw[<-Ui,IZ hs]
def ib(l:List Ba)(p:Int):Nat:=l.countP fun s=>has s p
theorem Sg:∀{l:Ba} {lo:Int},Ej lo l->lo<=1000000->(l.length:Int)<=1000000-lo
 | [],lo,_,h=>by simp_all
 |y::r,lo,⟨g1,g2,g3,g4⟩,h=>by
  by_cases h3:y.2+1<=1000000
  .have:=Sg g4 h3
   grind
  .cases r with
   |nil=>grind
   |cons z s=>have:=g4.1;have:=g4.2.1;have:=g4.2.2.1;omega
theorem HG{l:Ba}(h:En l):l.length<=1000000:=by have:=Sg h B0;omega
structure Ver where
 (a b c:Int)
variable (v:Ver)
structure Rq where
 path:ByteArray
 set:List (Int×Int)
variable {roots:List Rq}(q:Rq)
structure Rl where
 path:ByteArray
 ver:Ver
 reqs:List Rq
 (arch ifc cert:ByteArray)
 yanked:Bool
variable {x:List Rl}(r:Rl)
structure Sl where
 path:ByteArray
 ver:Ver
variable {s:List Sl}{y:Sl}
structure Tm where
 path:ByteArray
 absent:Bool
 set:List (Int×Int)
variable (l:List Tm)(u t:Tm)
structure Nf where
 kind:Int
 path:ByteArray
 (place number left right:Int)
structure Sk where
 path:ByteArray
 (place inf:Int)
structure An where
 found:Bool
 sel:List Sl
 infs:List Nf
 skips:List Sk
instance:DecidableEq Ver:=fun x y=>decidable_of_iff (x.a=y.a/\x.b=y.b/\x.c=y.c) ⟨fun⟨h1,h2,h3⟩=>by cases x<;>simp_all,fun h=>by simp_all⟩
instance:DecidableEq Sl:=fun x y=>decidable_of_iff (x.path=y.path/\x.ver=y.ver) ⟨fun⟨h1,h2⟩=>by cases x<;>simp_all,fun h=>by simp_all⟩
instance:DecidableEq Tm:=fun x y=>decidable_of_iff (x.path=y.path/\x.absent=y.absent/\x.set=y.set) ⟨fun⟨h1,h2,h3⟩=>by cases x<;>simp_all,fun h=>by simp_all⟩
theorem rp{x y:Tm}(h1:x.path=y.path)(h2:x.absent=y.absent)(h3:x.set=y.set):x=y:=by cases x<;>simp_all
def okPart(n:Int):Prop:=0<=n/\n<=999
instance (n:Int):Decidable (okPart n):=by unfold okPart;infer_instance
def Ct:Bool:=decide (okPart v.a)&&decide (okPart v.b)&&decide (okPart v.c)
def place:Int:=1000*v.b+v.c
def plc:Int:=if Ct v then place v else 0
def BD(s:List Sl)(p:ByteArray):Option Sl:=s.find? fun x=>decide (x.path=p)
def GZ(s:List Sl):Bool:=
 match s.find? (fun x=>decide (x.path=t.path))with
 |none=>t.absent
 |some x=>Ct x.ver&&has t.set (place x.ver)
def Ch(s:List Sl)(p:ByteArray):Bool:=s.any fun x=>decide (x.path=p)
def A4(s:List Sl):Bool:=l.all fun t=>GZ t s
def B7(s:List Sl):Bool:=A4 l s&&!l.any fun t=>!Ch s t.path
def Y0(a:An):Bool:=decide (a.infs.length<=400)&&decide (a.sel.length<=16)&&decide (a.skips.length<=100)
def J3:List UInt8->List UInt8->Bool
 | [],[]=>false
 | [],_::_=>true
 |_::_,[]=>false
 |a::x,b::y=>decide (a<b)||(decide (a=b)&&J3 x y)
def E0(a b:ByteArray):Bool:=J3 a.data.toList b.data.toList
theorem QS:∀x,J3 x x=false
 | []=>rfl
 |a::x=>by
  unfold J3;simp[QS x]
theorem Ti:∀{x y z},J3 x y=true->J3 y z=true->J3 x z=true
 | [],[],_,h,_=>by omega
 | [],_::_,[],_,h=>by grind [J3]
 | [],_::_,_::_,_,_=>rfl
 |_::_,[],_,h,_=>by grind [J3]
 |_::_,_::_,[],_,h=>by grind [J3]
 |a::x,b::y,c::z,h1,h2=>by
  unfold J3 at *
  simp only[Ja,Aj,AQ]at *
  rcases h1 with h1 | ⟨rfl,h1⟩
  .grind
  .rcases h2 with h2 | ⟨rfl,h2⟩
   .simp_all
   .exact .inr ⟨rfl,Ti h1 h2⟩
theorem X7:∀{x y},J3 x y=false->J3 y x=false->x=y
 | [],[],_,_=>rfl
 | [],_::_,h,_=>by grind [J3]
 |_::_,[],_,h=>by grind [J3]
 |a::x,b::y,h1,h2=>by
  unfold J3 at *
  simp only[Bool.or_eq_false_iff,Bool.and_eq_false_iff,decide_eq_false_iff_not]at *
  have e:a=b:=by
   grind
  subst e
  have:=X7 (x:=x) (y:=y) Wk Wk
  simp_all
theorem xa(h:a.data.toList=b.data.toList):a=b:=by
 cases a<;>simp_all
theorem CO(a:ByteArray):E0 a a=false:=QS _
theorem DZ{c:ByteArray}(h:E0 a b=true)(k:E0 b c=true):E0 a c=true:=Ti h k
theorem HT(h:E0 a b=false)(k:E0 b a=false):a=b:=xa (X7 h k)
theorem VL(h:E0 a b=true):a≠b:=fun e=>by grind [CO]
theorem du(h:E0 a b=true):E0 b a=false:=by
 grind [DZ,CO]
def Lv:Tm:=⟨t.path,t.absent,canon t.set⟩
def GC:Tm:=⟨u.path,u.absent&&t.absent,OI u.set t.set⟩
def NF(t:Tm):List Tm->List Tm
 | []=>[Lv t]
 |u::r=>if E0 u.path t.path then u::NF t r else if u.path=t.path then GC u t::r else Lv t::u::r
def E4:List Tm:=l.foldl (fun acc t=>NF t acc) []
def Io:Bool:=!t.absent&&t.set.isEmpty
def GJ:Bool:=t.absent&&decide (t.set=[(0,1000000)])
def CD:Option (List Tm):=if(E4 l).any Io then none else some ((E4 l).filter fun t=>!GJ t)
def PT:List Tm:=(CD l).getD []
def Dm:Tm:=⟨q.path,true,EB q.set⟩
def Gt:List Tm:=PT [Dm q]
def CW(path:ByteArray)(pl:Int)(q:Rq):List Tm:=PT [⟨path,false,[(pl,pl+1)]⟩,Dm q]
def E3(path:ByteArray)(sd:Ba):List Tm:=PT [⟨path,false,EB sd⟩]
def Df(p:ByteArray):Option Tm:=l.find? fun t=>decide (t.path=p)
def FJ(p:ByteArray):List Tm:=l.filter fun t=>!decide (t.path=p)
def CX(a b:Tm):Tm:=⟨a.path,a.absent||b.absent,Pg a.set b.set⟩
def E6(p:ByteArray):Option (Tm×List Tm):=match CD l with
 |none=>none
 |some c=>match Df c p with
  |none=>none
  |some t=>some (t,FJ c p)
def Bg(a b:List Tm)(p:ByteArray):List Tm×Int:=
 match E6 a p,E6 b p with
 |some (t,r),some (u,m)=>match CD (r++m++[CX t u])with
  |some o=>(o,0)
  |none=>([],8)
 |_,_=>([],1)
def BO(lo:Option ByteArray):List Tm->Prop
 | []=>True
 |t::r=>(∀p,lo=some p->E0 p t.path=true)/\En t.set/\BO (some t.path) r
theorem BO.weak:∀{l:List Tm},BO lo l->BO none l
 | [],_=>trivial
 |_::_,⟨_,h2,h3⟩=>⟨fun _ h=>(by cases h),h2,h3⟩
theorem BO.low{p:ByteArray}:∀{l:List Tm},BO (some p) l->∀t∈l,E0 p t.path=true
 |t::r,⟨h1,h2,h3⟩,u,hu=>by
  rcases AM.1 hu with rfl | hu
  .simp_all
  .exact DZ (h1 p rfl) (h3.low u hu)
theorem BO.canon{lo:Option ByteArray}:∀{l:List Tm},BO lo l->∀t∈l,En t.set
 |t::r,⟨h1,h2,h3⟩,u,hu=>by
  rcases AM.1 hu with rfl | hu
  .exact h2
  .exact h3.canon u hu
theorem BO.mono{p q:ByteArray}:∀{l:List Tm},BO (some p) l->E0 q p=true->BO (some q) l
 | [],_,_=>trivial
 |t::r,⟨h1,h2,h3⟩,h=>⟨fun _ e=>by grind [DZ],h2,h3⟩
theorem LV:∀{l:List Tm} {lo:Option ByteArray} (t:Tm),BO lo l->(∀p,lo=some p->E0 p t.path=true)->BO lo (NF t l)
 | [],lo,t,_,h=>⟨h,B6 _,trivial⟩
 |u::r,lo,t,⟨h1,h2,h3⟩,h=>by
  unfold NF;split
  .rename_i BW;exact⟨h1,h2,LV t h3 fun p e=>by simp_all⟩
  .rename_i BW;split
   .rename_i he;exact⟨h1,QQ _ _,h3⟩
   .rename_i he;refine⟨h,B6 _,fun p e=>?_,h2,h3⟩;cases e
    have:E0 u.path t.path=false:=Wk
    cases hb:E0 t.path u.path with
    |true=>exact hb
    |false=>grind [HT]
theorem Ow:∀(l acc:List Tm),BO none acc->BO none (l.foldl (fun acc t=>NF t acc) acc)
 | [],_,h=>h
 |t::l,acc,h=>Ow l _ (LV t h fun _ e=>by cases e)
theorem D6:BO none (E4 l):=Ow l [] trivial
theorem Ek(r:List Tm)(p:ByteArray):Df (t::r) p=if t.path=p then some t else Df r p:=by
 grind [Df]
theorem Jo{p q:ByteArray}{l:List Tm}(h:BO (some p) l)(hq:E0 p q=false):Df l q=none:=by
 grind [Df,BO.low]
def Rv(o:Option Tm)(t:Tm):Tm:=match o with | none=>Lv t | some u=>GC u t
theorem PZ(o:Option Tm)(t:Tm)(h:∀u,o=some u->u.path=t.path):(Rv o t).path=t.path:=by
 cases o with
 |none=>rfl
 |some u=>exact h u rfl
theorem Kw{l:List Tm}{p:ByteArray}{u:Tm}(h:Df l p=some u):u.path=p:=by
 have:=FW h;simp_all
theorem Gk{l:List Tm}{p:ByteArray}{u:Tm}(h:Df l p=some u):u∈l:=B9 h
theorem SB:∀{l:List Tm} {lo:Option ByteArray} (t:Tm) (p:ByteArray),BO lo l->Df (NF t l) p=if t.path=p then some (Rv (Df l p) t)else Df l p
 | [],lo,t,p,_=>by
  grind [NF,Lv,Df,Rv]
 |u::r,lo,t,p,⟨h1,h2,h3⟩=>by
  unfold NF;split
  .rename_i BW;rw[Ek,Ek,SB t p h3]
   grind [VL]
  grind [Ek,GC,Rv,Lv,Jo]
def Jy(o:Option Tm)(t:Tm):Option Tm:=if t.path=p then some (Rv o t)else o
theorem QK(p:ByteArray):∀(l acc:List Tm),BO none acc->Df (l.foldl (fun acc t=>NF t acc) acc) p=l.foldl (Jy p) (Df acc p)
 | [],_,_=>rfl
 |t::l,acc,h=>by
  rw[FX,QK p l _ (LV t h fun _ e=>by cases e),SB t p h];rfl
theorem II(p:ByteArray):Df (E4 l) p=l.foldl (Jy p) none:=QK p l [] trivial
theorem Mj:∀{a b:List Tm} {lo:Option ByteArray},BO lo a->BO lo b->(∀p,Df a p=Df b p)->a=b
 | [],[],_,_,_,_=>rfl
 | [],z::s,_,_,_,h=>by have:=h z.path;rw[Ek,As rfl]at this;cases this
 |z::s,[],_,_,_,h=>by have:=h z.path;rw[Ek,As rfl]at this;cases this
 |y::r,z::s,lo,⟨f1,f2,f3⟩,⟨g1,g2,g3⟩,h=>by
  have e:y=z:=by
   have a1:=h y.path;have a2:=h z.path
   grind [Ek,BO.low,Gk,DZ,CO]
  subst e
  congr 1
  refine Mj f3 g3 fun p=>?_;have hp:=h p
  grind [Ek,Jo,CO]
theorem BO.filter(q:Tm->Bool):∀{l:List Tm} {lo:Option ByteArray},BO lo l->BO lo (l.filter q)
 | [],_,_=>trivial
 |t::r,lo,⟨h1,h2,h3⟩=>by
  have ih:=BO.filter q h3;rw[List.filter_cons];split
  .exact⟨h1,h2,ih⟩
  .cases lo<;>grind [BO.weak,BO.mono]
theorem F7{l:List Tm}{t:Tm}(h:BO lo l):t∈l↔Df l t.path=some t:=by
 constructor
 .induction l generalizing lo with
  |nil=>simp_all
  |cons u r ih=>
   intro ht;rw[Ek];rcases AM.1 ht with rfl | ht
   .simp_all
   .have:=BO.low h.2.2 t ht
    rw[AB (VL this)];exact ih h.2.2 ht
 .exact Gk
def CH(o:Option Sl):Bool:=match o with | none=>t.absent | some x=>Ct x.ver&&has t.set (place x.ver)
theorem iW(s:List Sl):GZ t s=CH t (BD s t.path):=by
 unfold GZ CH BD;rfl
theorem Jn{p:ByteArray}{x:Sl}(h:BD s p=some x):x.path=p:=by
 have:=FW h;simp_all
theorem F6{p:ByteArray}{x:Sl}(h:BD s p=some x):x∈s:=B9 h
theorem Jq{p:ByteArray}:Ch s p=(BD s p).isSome:=by
 grind [Ch,BD]
theorem aj(o:Option Sl):CH (Lv t) o=CH t o:=by
 unfold CH Lv;grind [GY]
theorem XP(o:Option Sl):CH (GC u t) o=(CH u o&&CH t o):=by
 unfold CH GC;cases o<;>grind [UX]
theorem M4(o:Option Sl):CH (CX u t) o=(CH u o||CH t o):=by
 unfold CH CX;cases o<;>grind [dT]
def df(o:Option Sl)(l:List Tm):Bool:=l.all fun t=>!decide (t.path=p)||CH t o
theorem Jp(p:ByteArray)(o:Option Sl):∀(l:List Tm) (a:Option Tm),(∀u,a=some u->u.path=p) ->
  (l.foldl (Jy p) a=none↔a=none/\l.all (fun t=>!decide (t.path=p))=true)/\(∀u,l.foldl (Jy p) a=some u->u.path=p/\CH u o=((match a with | none=>true | some b=>CH b o)&&df p o l))
 | [],a,ha=>by
  grind [df]
 |t::l,a,ha=>by
  rw[FX]
  by_cases e:t.path=p
  .have hs:Jy p a t=some (Rv a t):=by grind [Jy]
   rw[hs];have ih:=Jp p o l (some (Rv a t)) (fun u h=>by grind [PZ])
   grind [df,Rv,aj,XP]
  .have hs:Jy p a t=a:=by grind [Jy]
   rw[hs];have ih:=Jp p o l a ha
   grind [df]
theorem Bq{l:List Tm}:A4 l s=true↔∀t∈l,CH t (BD s t.path)=true:=by
 grind [A4,iW]
theorem K6(s:List Sl):A4 (E4 l) s=A4 l s:=by
 rw[Dd,Bq,Bq];constructor
 .intro h t ht
  have:=Jp t.path (BD s t.path) l none (fun _ e=>by cases e)
  rw[<-II]at this;cases e:Df (E4 l) t.path<;>grind [Gk,df]
 .intro h u hu;have e:=(F7 (D6 l)).1 hu
  have:=Jp u.path (BD s u.path) l none (fun _ e=>by cases e)
  grind [II,df]
theorem aC{t:Tm}(h:Io t=true)(o:Option Sl):CH t o=false:=by
 unfold Io at h;simp only[Aj,E7,Ij]at h;unfold CH
 grind [has]
def FP(s:List Sl):Prop:=∀x∈s,Ct x.ver=true
theorem G3{v:Ver}(h:Ct v=true):0<=v.a/\v.a<=999/\0<=v.b/\v.b<=999/\0<=v.c/\v.c<=999:=by
 unfold Ct at h;simp only[Aj]at h;obtain⟨⟨a,b⟩,c⟩:=h;obtain⟨a1,a2⟩:=BR a;obtain⟨b1,b2⟩:=BR b;obtain⟨c1,c2⟩:=BR c<;>simp_all
theorem I7{v:Ver}(h:Ct v=true):0<=place v/\place v<1000000:=by
 have:=G3 h;grind [place]
theorem Uf{t:Tm}(h:GJ t=true)(hs:FP s):CH t (BD s t.path)=true:=by
 unfold GJ at h;simp only[Aj,AQ]at h;unfold CH;cases e:BD s t.path with
 |none=>exact h.1
 |some x=>
  have:=hs x (F6 e)
  grind [I7,has,BS]
theorem CJ{l:List Tm}(hs:FP s):A4 l s=(match CD l with | none=>false | some c=>A4 c s):=by
 unfold CD;split
 .rename_i h;split at h
  .rename_i hn;rw[<-K6,Bn]
   grind [Bq,aC]
  simp_all
 .rename_i c h;split at h
  .cases h
  .rename_i hn;cases h;rw[<-K6,Dd,Bq,Bq]
   grind [Uf]
theorem GN(a b:List Tm)(s:List Sl):A4 (a++b) s=(A4 a s&&A4 b s):=by grind [A4]
theorem EA{l c:List Tm}(h:CD l=some c):BO none c:=by
 grind [CD,BO.filter,D6]
theorem Gd{l r:List Tm}{p:ByteArray}{t:Tm}(hs:FP s)(h:E6 l p=some (t,r)):A4 l s=(CH t (BD s p)&&A4 r s)/\t.path=p:=by
 unfold E6 at h;cases hc:CD l with
 |none=>simp_all
 |some c=>
  rw[hc]at h;dsimp only at h;cases hf:Df c p with
  |none=>simp_all
  |some u=>
   rw[hf]at h;cases h;have hp:=Kw hf;refine⟨?_,hp⟩;rw[CJ hs,hc];dsimp only;rw[Dd,Aj,Bq,Bq];constructor
   .intro h
    have:=h t (Gk hf)
    rw[hp]at this;exact⟨this,fun v hv=>h v (CQ.1 hv).1⟩
   .intro⟨h1,h2⟩ v hv
    by_cases e:v.path=p
    .have:=(F7 (EA hc)).1 hv
     simp_all
    .exact h2 v (CQ.2 ⟨hv,by simp[e]⟩)
theorem TN{a b o:List Tm}{p:ByteArray}(hs:FP s)(h:Bg a b p=(o,0))(hv:A4 o s=true):A4 a s=true\/A4 b s=true:=by
 unfold Bg at h;cases h1:E6 a p with
 |none=>simp_all
 |some x=>
  cases h2:E6 b p with
  |none=>simp_all
  |some y=>
   obtain⟨t,r⟩:=x;obtain⟨u,m⟩:=y;rw[h1,h2]at h;dsimp only at h;cases hc:CD (r++m++[CX t u])with
   |none=>simp_all
   |some c=>
    rw[hc]at h
    have:c=o:=Wk
    subst this;have e:=CJ (l:=r++m++[CX t u]) hs;rw[hc]at e;dsimp only at e;rw[hv,GN,GN]at e;simp only[Aj]at e;obtain⟨⟨e1,e2⟩,e3⟩:=e;obtain⟨va,pa⟩:=Gd hs h1;obtain⟨vb,pb⟩:=Gd hs h2;have e3:=Bq.1 e3 _ (AC.2 rfl)
    grind [CX,M4]
theorem PU{l:List Tm}(hs:FP s)(CU:PT l≠[]):A4 (PT l) s=A4 l s:=by
 grind [CJ,PT]
-- paths
def GR:Bool:=decide (97<=c)&&decide (c<=122)
def VO:Bool:=decide (65<=c)&&decide (c<=90)
def EJ:Bool:=decide (48<=c)&&decide (c<=57)
def Mk:Bool:=GR c||VO c||EJ c||decide (c=95)
def jm:List UInt8:=[32,97,110,100,32,97,110,121,32,97,115,32,98,111,111,108,32,100,101,112,114,101,99,97,116,101,100,32,101,108,115,101,32,101,120,112,111,114,116,32,102,97,108,115,101,32,102,110,32,102,111,108,100,32,102,114,111,109,32,105,102,32,105,109,112,111,114,116,32,105,110,32,105,110,116,32,108,101,110,103,116,104,32,108,101,116,32,108,105,115,116,32,109,97,116,99,104,32,109,111,100,117,108,101,32,110,111,110,101,32,110,111,116,32,111,114,32,116,101,120,116,32,116,104,101,110,32,116,114,117,101,32,116,121,112,101,32,117,115,101,32]
def fR:List UInt8->List UInt8->Bool
 | [],_=>true
 |_::_,[]=>false
 |a::x,b::y=>decide (a=b)&&fR x y
def wC(x:List UInt8):List UInt8->Bool
 | []=>fR x []
 |b::y=>fR x (b::y)||wC x y
def au(s:List UInt8):Bool:=wC (32::(s++[32])) jm
def HX(s:List UInt8):Bool:=!s.isEmpty&&decide (s.length<=32)&&GR (s.headD 0)&&s.all Mk&&!au s
def Nc(s:List UInt8):Bool:=HX s&&s.all fun c=>GR c||EJ c
def Gp(s:List UInt8):Int:=s.foldl (fun n c=>10*n+((c.toNat:Int)-48)) 0
def KT(s:List UInt8):Option Int:=match s with
 |c::r=>if c=118 then(if r.isEmpty||decide (3<r.length)||(decide (1<r.length)&&decide (r.headD 0=48))||!r.all EJ then none else some (Gp r))else none
 | []=>none
def Fl(c:UInt8):List UInt8->List (List UInt8)
 | []=>[[]]
 |b::r=>if b=c then []::Fl c r else match Fl c r with
  | []=>[[b]]
  |x::l=>(b::x)::l
def az(p:List UInt8):Option Int:=match KT ((Fl 47 p).getLastD [])with
 |none=>none
 |some n=>if 64<p.length||(Fl 47 p).length<2 then none else if(Fl 47 p).all Nc then some n else none
def BF:Option Int:=az p.data.toList
-- indexes
def HP(before:Option ByteArray)(q:Rq):Int:=
 if(BF q.path).isNone then 4 else if q.set.isEmpty||!decide (q.set=canon q.set)||(match before with | some b=>!E0 b q.path | none=>false)then 1 else 0
def FA(before:Option ByteArray):List Rq->Int
 | []=>0
 |q::r=>if HP before q=0 then FA (some q.path) r else HP before q
def Bu(l:List Rq):Int:=if 16<l.length then 7 else FA none l
def Eg(s:ByteArray):Bool:=decide (s.size=0)||decide (s.size=32)
def D5:Int:=match BF r.path with
 |none=>4
 |some m=>if !Ct r.ver||!decide (r.ver.a=m)then 2 else if Bu r.reqs≠0 then Bu r.reqs else if Eg r.arch&&Eg r.ifc&&Eg r.cert then 0 else 1
def G6(a b:Int):Int:=if a<b then -1 else if b<a then 1 else 0
def Kq(a b:ByteArray):Int:=if E0 a b then -1 else if E0 b a then 1 else 0
def Sj(a b:Ver):Int:=if G6 a.a b.a≠0 then G6 a.a b.a else if G6 a.b b.b≠0 then G6 a.b b.b else G6 a.c b.c
def Xf(a b:Rl):Int:=if Kq a.path b.path≠0 then Kq a.path b.path else Sj a.ver b.ver
def DJ:Sl:=⟨r.path,r.ver⟩
def Eh(before:Option Rl):List Rl->Int
 | []=>0
 |r::l=>if D5 r≠0 then D5 r else match before with
  |none=>Eh (some r) l
  |some b=>if DJ b=DJ r then 5 else if 0<Xf b r then 1 else Eh (some r) l
def AX(l:List Rl):Int:=if 256<l.length then 7 else Eh none l
def BL(x:List Rl)(y:Sl):Option Rl:=if AX x≠0 then none else x.find? fun r=>decide (DJ r=y)
def KJ(x:List Rl)(p:ByteArray):List Rl:=if AX x≠0 then []else x.filter fun r=>decide (r.path=p)
def BC(x:List Rl)(p:ByteArray):Ba:=canon (((KJ x p).filter fun r=>!r.yanked).map fun r=>(plc r.ver,plc r.ver+1))
def LU(before:Option ByteArray):List Sl->Bool
 | []=>true
 |y::r=>(match before with |some b=>E0 b y.path |none=>true)&&LU (some y.path) r
def C3(s:List Sl):Bool:=LU none s
-- solutions
def JG(x:List Rl):List Sl->Option (List Rl)
 | []=>some []
 |y::s=>match BL x y with
  |none=>none
  |some r=>match JG x s with
   |none=>none
   |some l=>some (r::l)
def Dk(l:List Rl)(q:Rq):Bool:=match l.find? (fun r=>decide (r.path=q.path))with
 |none=>true
 |some r=>!has q.set (plc r.ver)
def EL(l:List Rl)(p:ByteArray):List Rq:=match l.find? (fun r=>decide (r.path=p))with
 |none=>[]
 |some r=>r.reqs
def E2(l:List Rl):Nat->List Rq->List ByteArray->List ByteArray
 |0,_,d=>d
 |_+1,[],d=>d
 |n+1,q::t,d=>if d.any (fun p=>decide (p=q.path))then E2 l n t d else E2 l n (t++EL l q.path) (d++[q.path])
def GX(l:List Rl)(roots:List Rq):Nat:=roots.length+(l.map fun r=>r.reqs.length).foldl (·+·) 0+1
def GM(x:List Rl)(roots:List Rq)(s:List Sl):Int:=
 if AX x≠0 then 1 else if !C3 s then 1 else match JG x s with
  |none=>6
  |some l=>if l.any (fun r=>r.reqs.any (Dk l))then 17 else if roots.any (Dk l)then 17 else
   if(E2 l (GX l roots) roots []).length<l.length then 8 else 0
-- derivations
def Fk(x:List Rl)(p:ByteArray)(pl:Int):Option Rl:=x.find? fun r=>decide (r.path=p)&&decide (plc r.ver=pl)
def mt:ByteArray:=⟨#[]⟩
def EH(l:List α)(i:Int):Option α:=if i<0 then none else l[i.toNat]?
def ne0:Option (List Tm):=if l.isEmpty then none else some l
def BA(x:List Rl)(roots:List Rq)(d:List (List Tm))(i:Nf):Option (List Tm):=
 if i.kind=0 then
  if i.path=mt/\i.place=0/\i.left=0/\i.right=0 then(EH roots i.number).map Gt else none
 else if i.kind=1 then
  if i.left=0/\i.right=0 then match Fk x i.path i.place with
   |none=>none
   |some r=>match EH r.reqs i.number with
    |none=>none
    |some q=>ne0 (CW i.path i.place q)
  else none
 else if i.kind=2 then
  if i.place=0/\i.number=0/\i.left=0/\i.right=0 then ne0 (E3 i.path (BC x i.path))else none
 else if i.kind=3 then
  if i.place=0/\i.number=0 then match EH d i.left,EH d i.right with
   |some a,some b=>if(Bg a b i.path).2=0 then some (Bg a b i.path).1 else none
   |_,_=>none
  else none
 else none
def BP(x:List Rl)(roots:List Rq):List Nf->List (List Tm)->Option (List (List Tm))
 | [],d=>some d
 |i::l,d=>match BA x roots d i with
  |none=>none
  |some t=>BP x roots l (d++[t])
def CK(x:List Rl)(roots:List Rq)(l:List Nf):List (List Tm)×Int:=
 if AX x≠0\/Bu roots≠0 then([],1)else if 65536<l.length then([],7)else match BP x roots l []with
  |none=>([],18)
  |some d=>(d,0)
def GG(d:List (List Tm)):Bool:=match d.getLast? with | some []=>true | _=>false
-- decisions
def Cv(before:List Sl):List Rq->Option ByteArray->Option ByteArray
 | [],acc=>acc
 |q::l,acc=>Cv before l (if Ch before q.path then acc else match acc with
  |none=>some q.path
  |some p=>if E0 q.path p then some q.path else some p)
def F9(needs:List Rq)(before:List Sl):Option ByteArray:=Cv before needs none
structure Zk where
 before:List Sl
 needs:List Rq
 rel:Rl
def Ew(x:List Rl)(s:List Sl):Nat->List Sl->List Rq->List Zk×Bool
 |0,_,_=>([],true)
 |n+1,before,needs=>match F9 needs before with
  |none=>([],true)
  |some p=>match BD s p with
   |none=>([],false)
   |some y=>match BL x y with
    |none=>([],false)
    |some r=>(⟨before,needs,r⟩::(Ew x s n (before++[y]) (needs++r.reqs)).1,(Ew x s n (before++[y]) (needs++r.reqs)).2)
def visits(x:List Rl)(roots:List Rq)(s:List Sl):List Zk×Bool:=Ew x s (s.length+1) [] roots
-- answers
def DV(d:List (List Tm))(v:Zk):List Rl->List Sk->List Sk×Bool
 | [],k=>(k,true)
 |o::x,k=>
  if !decide (o.path=v.rel.path)||o.yanked||!decide (plc o.ver<plc v.rel.ver)then DV d v x k else
  if v.needs.any (fun q=>decide (q.path=v.rel.path)&&!has q.set (plc o.ver))then DV d v x k else
  match k with
  | []=>([],false)
  |y::k'=>if !decide (y.path=v.rel.path)||!decide (y.place=plc o.ver)then([],false)else match EH d y.inf with
   |none=>([],false)
   |some t=>if B7 t (v.before++[DJ o])then DV d v x k' else([],false)
def CT(x:List Rl)(d:List (List Tm))(a:Bool×List Sk)(v:Zk):Bool×List Sk:=
 (a.1&&(DV d v x a.2).2&&!v.rel.yanked,(DV d v x a.2).1)
def Hd(x:List Rl)(roots:List Rq)(a:An):Int:=
 if(CK x roots a.infs).2≠0 then(CK x roots a.infs).2 else
 if a.found=false then(if !a.sel.isEmpty||!a.skips.isEmpty||!GG (CK x roots a.infs).1 then 18 else 0)else
 if GM x roots a.sel≠0 then 18 else
 if(((visits x roots a.sel).1.foldl (CT x (CK x roots a.infs).1) (true,a.skips)).1&&((visits x roots a.sel).1.foldl (CT x (CK x roots a.infs).1) (true,a.skips)).2.isEmpty)then 0 else 18
-- the example
-- the order of releases
theorem JS{a b:Int}(h:G6 a b=0):a=b:=by
 grind [G6]
theorem VS{a b:Int}(h:G6 a b<0):a<b:=by
 grind [G6]
theorem UL(h:Kq a b=0):a=b:=by
 grind [Kq,HT]
theorem lR(h:Kq a b<0):E0 a b=true:=by
 grind [Kq]
def o5(a b:Ver):Prop:=a.a<b.a\/(a.a=b.a/\(a.b<b.b\/(a.b=b.b/\a.c<b.c)))
def ff(a b:Rl):Prop:=E0 a.path b.path=true\/(a.path=b.path/\o5 a.ver b.ver)
theorem lU{a b:Ver}(h:Sj a b<0):o5 a b:=by
 unfold Sj at h;split at h
 .exact .inl (VS h)
 .rename_i h1;have h1:=JS (BZ.1 h1);split at h
  .exact .inr ⟨h1,.inl (VS h)⟩
  .rename_i h2;exact .inr ⟨h1,.inr ⟨JS (BZ.1 h2),VS h⟩⟩
theorem dD{a b:Ver}(h:Sj a b=0):a=b:=by
 unfold Sj at h;split at h
 .omega
 .rename_i h1;have h1:=JS (BZ.1 h1);split at h
  .omega
  .rename_i h2;have h2:=JS (BZ.1 h2);have h3:=JS h;cases a<;>simp_all
theorem dC{a b:Rl}(h:Xf a b=0):DJ a=DJ b:=by
 grind [Xf,UL,dD,DJ]
theorem lS{a b:Rl}(h:Xf a b<0):ff a b:=by
 unfold Xf at h;split at h
 .exact .inl (lR h)
 .rename_i h1;exact .inr ⟨UL (BZ.1 h1),lU h⟩
theorem fh{a b c:Ver}(h:o5 a b)(k:o5 b c):o5 a c:=by grind [o5]
theorem fg{a b c:Rl}(h:ff a b)(k:ff b c):ff a c:=by
 rcases h with h | ⟨h1,h2⟩
 .rcases k with k | ⟨k1,k2⟩
  .exact .inl (DZ h k)
  .exact .inl (k1▸h)
 .rcases k with k | ⟨k1,k2⟩
  .exact .inl (h1▸k)
  .exact .inr ⟨h1.trans k1,fh h2 k2⟩
theorem NK{a b:Rl}(h:ff a b)(k:DJ a=DJ b):False:=by
 unfold DJ at k;simp only[Sl.mk.injEq]at k;rcases h with h | ⟨_,h⟩<;>grind [CO,o5]
-- a valid index
structure Jf(r:Rl):Prop where
 maj:BF r.path=some r.ver.a
 val:Ct r.ver=true
 reqs:Bu r.reqs=0
theorem ZL{r:Rl}(h:D5 r=0):Jf r:=by
 grind [D5,Jf.mk]
theorem Of:∀{l:List Rl} {b:Option Rl},Eh b l=0->(∀r∈l,Jf r)/\(l.Pairwise ff/\∀c,b=some c->∀r∈l,ff c r)
 | [],b,_=>⟨fun _ h=>(by cases h),.nil,fun _ _ _ h=>(by cases h)⟩
 |r::l,b,h=>by
  unfold Eh at h;split at h
  .omega
  .rename_i h1;have hr:=ZL (BZ.1 h1);have go:Eh (some r) l=0->(∀c,b=some c->ff c r)->(∀z∈r::l,Jf z)/\((r::l).Pairwise ff/\∀c,b=some c->∀z∈r::l,ff c z):=fun h hc=>by
    obtain⟨i1,i2,i3⟩:=Of h<;>grind [fg,List.Pairwise.cons]
   grind [lS,dC]
theorem BY{l:List Rl}(h:AX l=0):(∀r∈l,Jf r)/\l.Pairwise ff:=by
 grind [AX,Of]
theorem Tb{l:List Rl}(h:l.Pairwise ff){a b:Rl}(ha:a∈l)(hb:b∈l)(hk:DJ a=DJ b):a=b:=by
 induction h<;>grind [NK]
theorem WO{a b:Ver}(ha:Ct a=true)(hb:Ct b=true)(h1:a.a=b.a)(h2:place a=place b):a=b:=by
 have:=G3 ha
 have:=G3 hb
 unfold place at h2;have e1:a.b=b.b:=B0
 have e2:a.c=b.c:=B0
 cases a<;>simp_all
theorem Jf.plc{r:Rl}(h:Jf r):plc r.ver=place r.ver:=by grind [plc,Jf.val]
theorem cJ{l:List Rl}(h:(∀r∈l,Jf r)/\l.Pairwise ff){a b:Rl}(ha:a∈l)(hb:b∈l)(h1:a.path=b.path)(h2:place a.ver=place b.ver):a=b:=by
 grind [Tb,DJ,WO,Jf.maj,Jf.val]
theorem EE{r:Rl}(h:BL x y=some r):AX x=0/\r∈x/\DJ r=y:=by
 grind [BL]
structure la(x:List Rl)(roots:List Rq)(s:List Sl):Prop where
 ix:AX x=0
 inc:C3 s=true
 fnd:∀y∈s,∃r,BL x y=some r/\r.yanked=false
 root:∀q∈roots,∃y,BD s q.path=some y/\has q.set (place y.ver)=true
 req:∀y∈s,∀r,BL x y=some r->∀q∈r.reqs,∃z,BD s q.path=some z/\has q.set (place z.ver)=true
theorem I1:∀{s:List Sl} {b:Option ByteArray},LU b s=true->s.Pairwise (fun a b=>E0 a.path b.path=true)/\∀c,b=some c->∀y∈s,E0 c y.path=true
 | [],_,_=>⟨.nil,fun _ _ _ h=>by cases h⟩
 |y::r,b,h=>by
  unfold LU at h;simp only[Aj]at h;obtain⟨h1,h2⟩:=h;obtain⟨i1,i2⟩:=I1 h2<;>grind [DZ,List.Pairwise.cons]
theorem M1(h:s.Pairwise (fun a b=>E0 a.path b.path=true))(hy:y∈s):BD s y.path=some y:=by
 induction h<;>grind [BD,VL]
theorem QJ(h:C3 s=true)(hy:y∈s):BD s y.path=some y:=M1 (I1 h).1 hy
theorem la.valid(h:la x roots s):FP s:=fun y hy=>by
 obtain⟨r,h1,_⟩:=h.fnd y hy;obtain⟨_,h2,h3⟩:=EE h1
 have:=((BY h.ix).1 r h2).val
 rw[<-h3];exact this
theorem Hx{x:List Rl}:∀{s:List Sl} {l:List Rl},JG x s=some l->l.map DJ=s/\(∀r∈l,BL x (DJ r)=some r)/\∀y∈s,∃r∈l,BL x y=some r
 | [],l,h=>by cases h<;>simp_all
 |y::s,l,h=>by
  unfold JG at h;split at h
  .cases h
  .rename_i r hr;split at h
   .cases h
   .rename_i l' hl;cases h;obtain⟨i1,i2,i3⟩:=Hx hl;have hk:=(EE hr).2.2;simp_all
theorem PB:∀(l:List Rl) (p:ByteArray),(l.find? fun r=>decide (r.path=p)).map DJ=BD (l.map DJ) p
 | [],_=>rfl
 |r::l,p=>by
  unfold BD;rw[Fb,Bb,Fb];show _=(match decide (r.path=p)with | true=>some (DJ r) | false=>_);cases h:decide (r.path=p)with
  |true=>rfl
  |false=>exact PB l p
theorem KH{l:List Rl}(hx:AX x=0)(hl:JG x s=some l){q:Rq}(h:Dk l q=false):∃y,BD s q.path=some y/\has q.set (place y.ver)=true:=by
 obtain⟨h1,h2,h3⟩:=Hx hl;unfold Dk at h;have hk:=PB l q.path;split at h
 .cases h
 .rename_i r hr;rw[hr,h1]at hk;refine⟨DJ r,hk.symm,?_⟩;have hm:=(EE (h2 r (B9 hr))).2.1;show has q.set (place r.ver)=true;rw[<-((BY hx).1 r hm).plc];simp_all
structure Lt(x:List Rl)(roots:List Rq)(s:List Sl)(l:List Rl):Prop where
 ix:AX x=0
 inc:C3 s=true
 sel:JG x s=some l
 rl:∀r∈l,∀q∈r.reqs,Dk l q=false
 rt:∀q∈roots,Dk l q=false
 min:l.length<=(E2 l (GX l roots) roots []).length
theorem bc(h:GM x roots s=0):∃l,Lt x roots s l:=by
 unfold GM at h;split at h
 .cases h
 .rename_i h1;split at h
  .cases h
  .rename_i h2;split at h
   .cases h
   .rename_i l hl;split at h
    .cases h
    .rename_i h3;split at h
     .cases h
     .rename_i h4;split at h
      .cases h
      .rename_i h5;refine⟨l,BZ.1 h1,by simp_all,hl,fun r hr q hq=>?_,fun q hq=>?_,by omega⟩
       all_goals grind
theorem Lt.sol{l:List Rl}(h:Lt x roots s l)(hy:∀y∈s,∀r,BL x y=some r->r.yanked=false):la x roots s:=by
 obtain⟨h1,h2,h3⟩:=Hx h.sel;refine⟨h.ix,h.inc,fun y hm=>?_,fun q hq=>KH h.ix h.sel (h.rt q hq),fun y hm r hr q hq=>?_⟩
 .grind
 .obtain⟨r',h4,h5⟩:=h3 y hm;rw[hr]at h5;cases h5;exact KH h.ix h.sel (h.rl r h4 q hq)
-- soundness
theorem QZ{q:Rq}(h:∃y,BD s q.path=some y/\has q.set (place y.ver)=true):CH (Dm q) (BD s q.path)=false:=by
 grind [CH,Dm,FK]
theorem jK{l:List Tm}(hs:FP s)(hn:CD l≠none)(hv:A4 l s=false):A4 (PT l) s=false:=by
 grind [CJ,PT]
theorem Yk{l:List Tm}(hs:FP s){o:List Tm}(h:ne0 (PT l)=some o)(hv:A4 l s=false):A4 o s=false:=by
 grind [ne0,PU]
theorem aU:CD [Dm q]≠none:=by
 grind [CD,E4,NF,Io,Lv,Dm]
theorem Tt{l:List α}{i:Int}{a:α}(h:EH l i=some a):a∈l:=by
 grind [EH]
theorem Wj(hs:la x roots s){d:List (List Tm)}(hd:∀t∈d,A4 t s=false){i:Nf}{o:List Tm}(h:BA x roots d i=some o):A4 o s=false:=by
 have hv:=hs.valid;unfold BA at h;split at h
 .split at h
  .rw[B1]at h;obtain⟨q,hq,rfl⟩:=h;refine jK hv (aU q) ?_;rw[Bn];intro hw
   have:=Bq.1 hw _ (AC.2 rfl)
   rw[show(Dm q).path=q.path from rfl,QZ (hs.root q (Tt hq))]at this;simp_all
  simp_all
 .split at h
  .split at h
   .split at h
    .cases h
    .rename_i r hr;split at h
     .cases h
     .rename_i q hq;refine Yk hv h ?_;rw[Bn];intro hw;have h1:=Bq.1 hw _ (Ae ..);have h2:=Bq.1 hw (Dm q) aa0;rw[show(Dm q).path=q.path from rfl]at h2;dsimp only at h1;cases hf:BD s i.path with
      |none=>grind [CH]
      |some y=>
       rw[hf]at h1;unfold CH at h1;simp only[Aj]at h1;have hp:place y.ver=i.place:=by
        grind [has,BS]
       have hy:=F6 hf;have wB:=Jn hf;obtain⟨r',e1,e2⟩:=hs.fnd y hy;obtain⟨_,m1,k1⟩:=EE e1;have iY:r∈x:=B9 hr;have lh:=FW hr;simp only[Aj,AQ]at lh;have DY:=BY hs.ix
       have:r'=r:=by
        refine cJ DY m1 iY ?_ ?_
        .rw[lh.1,<-wB,<-k1];rfl
        .rw[<-(DY.1 r iY).plc,lh.2,<-hp,<-k1];rfl
       subst this
       have:=hs.req y hy r' e1 q (Tt hq)
       grind [QZ]
   simp_all
  .split at h
   .split at h
    .refine Yk hv h ?_;rw[Bn];intro hw;have h1:=Bq.1 hw _ (AC.2 rfl);dsimp only at h1;cases hf:BD s i.path with
     |none=>grind [CH]
     |some y=>
      rw[hf]at h1;unfold CH at h1;simp only[Aj]at h1;have hy:=F6 hf;have wB:=Jn hf;obtain⟨r,e1,e2⟩:=hs.fnd y hy;obtain⟨_,m1,k1⟩:=EE e1;have DY:=BY hs.ix;have h1:=h1.2;rw[FK]at h1;have qr:=I7 (hv y hy)
      have:has (BC x i.path) (place y.ver)=true:=by
       unfold BC;rw[GY];unfold has;simp only[qr,decide_true,Rg,CB,Ar,CQ];refine⟨(plc r.ver,plc r.ver+1),⟨r,⟨?_,by simp_all⟩,rfl⟩,?_⟩
       .unfold KJ;simp only[hs.ix,ne_eq,not_true,if_false,CQ,m1,true_and,AQ];rw[<-wB,<-k1];rfl
       .rw[(DY.1 r m1).plc,<-k1];rw[D0];exact⟨Cp _,by show place r.ver<place r.ver+1;omega⟩
      simp_all
    simp_all
   .split at h
    .split at h
     .split at h
      .rename_i a b ha hb;split at h
       .rename_i h0;cases h;rw[Bn];intro hw;rcases TN hv (o:=(Bg a b i.path).1) (Prod.ext rfl h0) hw with hw | hw<;>grind [Tt]
       simp_all
      simp_all
     simp_all
    simp_all
theorem Ly{x:List Rl}{roots:List Rq}{s:List Sl}(hs:la x roots s):∀{l:List Nf} {d d' : List (List Tm)},(∀t∈d,A4 t s=false)->BP x roots l d=some d'->∀t∈d',A4 t s=false
 | [],d,d',hd,h=>by cases h;exact hd
 |i::l,d,d',hd,h=>by
  unfold BP at h;split at h
  .cases h
  .rename_i o ho;refine Ly hs (fun t ht=>?_) h
   grind [Wj]
theorem Da{α:Type}[DecidableEq α]:∀{l m:List α},l.Nodup->(∀x∈l,x∈m)->l.length<=m.length
 | [],_,_,_=>Ao _
 |a::l,m,hn,hs=>by
  rw[FY]at hn;have ha:a∈m:=hs a (Ae ..)
  have:=Da (l:=l) (m:=m.erase a) hn.2 fun x hx=>by
   grind
  grind
theorem Ym[DecidableEq α]{l m:List α}(hn:l.Nodup)(hs:∀x∈l,x∈m)(hl:m.length<=l.length):∀x∈m,x∈l:=fun x hx=>by
 apply AY;intro mD
 have:=Da (m:=m.erase x) hn fun y hy=>(List.mem_erase_of_ne (a:=y) (b:=x) (fun e=>mD Wk)).2 (hs y hy)
 grind
abbrev Ua(s:List Sl):Prop:=s.Pairwise (fun a b=>E0 a.path b.path=true)
theorem ap(h:Ua s):(s.map (·.path)).Nodup:=by
 grind [VL]
-- the next path
theorem Jv(before:List Sl):∀{l:List Rq} {acc:Option ByteArray},(∀p,acc=some p->Ch before p=false) ->
  (∀p,Cv before l acc=some p->Ch before p=false/\(acc=some p\/∃q∈l,q.path=p))/\(Cv before l acc=none->acc=none/\∀q∈l,Ch before q.path=true)
 | [],acc,ha=>⟨fun p h=>⟨ha p h,.inl h⟩,fun h=>⟨h,fun _ h=>(by cases h)⟩⟩
 |q::l,acc,ha=>by
  unfold Cv
  have key:∀db,(∀p,db=some p->Ch before p=false)->(∀p,db=some p->acc=some p\/q.path=p)->(db=none->acc=none/\Ch before q.path=true) ->
    (∀p,Cv before l db=some p->Ch before p=false/\(acc=some p\/∃q'∈q::l,q'.path=p))/\(Cv before l db=none->acc=none/\∀q'∈q::l,Ch before q'.path=true):=by
   intro db h1 h2 h3;obtain⟨i1,i2⟩:=Jv before (l:=l) h1<;>grind
  cases hb:Ch before q.path<;>grind
theorem HJ{needs:List Rq}{before:List Sl}{p:ByteArray}(h:F9 needs before=some p):Ch before p=false/\∃q∈needs,q.path=p:=by
 obtain⟨h1,h2⟩:=(Jv before (l:=needs) (acc:=none) fun _ e=>by cases e).1 p h<;>simp_all
theorem Tq{needs:List Rq}{before:List Sl}(h:F9 needs before=none):∀q∈needs,Ch before q.path=true:=
 ((Jv before (l:=needs) (acc:=none) fun _ e=>by cases e).2 h).2
theorem KA{p:ByteArray}:Ch s p=true↔∃y∈s,y.path=p:=by grind [Ch]
theorem EC{p:ByteArray}:Ch s p=true↔p∈s.map (·.path):=by grind [KA]
abbrev LY(v:Zk):Sl:=DJ v.rel
structure oo(x:List Rl)(s:List Sl)(before:List Sl)(needs:List Rq)(vs:List Zk):Prop where
 closed:∀q∈needs,Ch (before++vs.map LY) q.path=true
 closedR:∀v∈vs,∀q∈v.rel.reqs,Ch (before++vs.map LY) q.path=true
 mem:∀v∈vs,LY v∈s/\BL x (LY v)=some v.rel
 nodup:((before++vs.map LY).map (·.path)).Nodup
theorem kp{x:List Rl}{s:List Sl}:∀{n:Nat} {before:List Sl} {needs:List Rq},(before.map (·.path)).Nodup->(∀y∈before,y∈s)->s.length+1<=n+before.length->(Ew x s n before needs).2=true ->
  oo x s before needs (Ew x s n before needs).1
 |0,before,needs,h1,h2,h3,_=>by
  exfalso
  have:=Da (m:=s.map (·.path)) h1 fun p hp=>by
   grind
  grind
 |n+1,before,needs,h1,h2,h3,h4=>by
  unfold Ew at h4⊢;cases hp:F9 needs before with
  |none=>grind [Tq,oo.mk]
  |some p=>
   rw[hp]at h4;dsimp only at h4⊢;cases hf:BD s p with
   |none=>simp_all
   |some y=>
    rw[hf]at h4;dsimp only at h4⊢;cases hr:BL x y with
    |none=>simp_all
    |some r=>
     rw[hr]at h4;dsimp only at h4⊢;obtain⟨g1,g2⟩:=HJ hp;have hy:=F6 hf;have wB:=Jn hf;have hk:DJ r=y:=(EE hr).2.2;have ih:=kp (x:=x) (s:=s) (n:=n) (before:=before++[y]) (needs:=needs++r.reqs) (by
       grind [EC])
      (fun z hz=>by
       grind) aa1 h4
     have e:before++(⟨before,needs,r⟩::(Ew x s n (before++[y]) (needs++r.reqs)).1).map LY=before++[y]++(Ew x s n (before++[y]) (needs++r.reqs)).1.map LY:=by
      simp_all
     refine⟨fun q hq=>?_,fun v hv q hq=>?_,fun v hv=>?_,?_⟩
     all_goals grind [oo.closed,oo.closedR,oo.mem,oo.nodup]
theorem T1(h:(visits x roots s).2=true):oo x s [] roots (visits x roots s).1:=kp aa0 (fun _ h=>by cases h) aa0 h
theorem Oh{x:List Rl}{s:List Sl}(hs:∀y∈s,∃r,BL x y=some r)(hq:∀y∈s,∀r,BL x y=some r->∀q∈r.reqs,∃z,BD s q.path=some z) :
  ∀{n:Nat} {before:List Sl} {needs:List Rq},(∀q∈needs,∃z,BD s q.path=some z)->(Ew x s n before needs).2=true
 |0,_,_,_=>rfl
 |n+1,before,needs,hn=>by
  unfold Ew;cases hp:F9 needs before with
  |none=>rfl
  |some p=>
   dsimp only;obtain⟨_,q,q1,q2⟩:=HJ hp;obtain⟨z,hz⟩:=hn q q1;rw[q2]at hz;rw[hz];dsimp only;obtain⟨r,hr⟩:=hs z (F6 hz);rw[hr];dsimp only;refine Oh hs hq fun q LP=>?_
   grind [F6]
-- what is needed
theorem PR{l:List Rl}{C:List ByteArray}(hC:∀r∈l,r.path∈C->∀q∈r.reqs,q.path∈C):∀{n:Nat} {t:List Rq} {d:List ByteArray},(∀q∈t,q.path∈C)->(∀p∈d,p∈C)->∀p∈E2 l n t d,p∈C
 |0,_,_,_,hd=>by grind [E2]
 |_+1,[],_,_,hd=>by grind [E2]
 |n+1,q::t,d,ht,hd=>by
  unfold E2;split
  .exact PR hC (fun q hq=>ht q (Ah _ hq)) hd
  .refine PR hC (fun q' hq=>?_) fun p hp=>?_
   all_goals grind [EL]
theorem L5{l:List Rl}:∀{n:Nat} {t:List Rq} {d:List ByteArray},d.Nodup->(E2 l n t d).Nodup
 |0,_,_,hd=>by grind [E2]
 |_+1,[],_,hd=>by grind [E2]
 |n+1,q::t,d,hd=>by
  unfold E2;split
  .exact L5 hd
  .rename_i h;refine L5 ?_
   grind
theorem ZP{l:List Rl}(h:Lt x roots s l){C:List ByteArray}(hn:C.Nodup)(hr:∀q∈roots,q.path∈C)(hC:∀y∈s,∀r,BL x y=some r->y.path∈C->∀q∈r.reqs,q.path∈C)(hs:∀p∈C,p∈s.map (·.path)):(∀y∈s,y.path∈C)/\C.length=s.length:=by
 obtain⟨h1,h2,h3⟩:=Hx h.sel;have mJ:=PR (l:=l) (C:=C) (fun r hr hp q hq=>by
  have hk:DJ r∈s:=aa1
  grind [DJ]) (n:=GX l roots) (t:=roots) (d:=[]) hr (fun _ h=>by cases h)
 have CF:=Da (L5 (l:=l) (n:=GX l roots) (t:=roots) GB) mJ;have hl:l.length=s.length:=aa1
 have AdS:=h.min;have yD:=Ym hn hs aa1;refine⟨fun y hy=>yD _ (Ar.2 ⟨y,hy,rfl⟩),?_⟩
 have:=Da hn hs
 grind
theorem Lt.fnd{l:List Rl}(h:Lt x roots s l):∀y∈s,∃r,BL x y=some r:=fun y hy=>by
 obtain⟨r,_,h⟩:=(Hx h.sel).2.2 y hy<;>simp_all
theorem Lt.req{l:List Rl}(h:Lt x roots s l):∀y∈s,∀r,BL x y=some r->∀q∈r.reqs,∃z,BD s q.path=some z/\has q.set (place z.ver)=true:=fun y hy r hr q hq=>by
 obtain⟨r',h4,h5⟩:=(Hx h.sel).2.2 y hy;rw[hr]at h5;cases h5;exact KH h.ix h.sel (h.rl r h4 q hq)
theorem Lt.root{l:List Rl}(h:Lt x roots s l):∀q∈roots,∃z,BD s q.path=some z/\has q.set (place z.ver)=true:=fun q hq=>KH h.ix h.sel (h.rt q hq)
theorem Lt.visits{x:List Rl}{roots:List Rq}{s:List Sl}{l:List Rl}(h:Lt x roots s l):(visits x roots s).2=true:=
 Oh h.fnd (fun y hy r hr q hq=>let ⟨z,hz,_⟩:=h.req y hy r hr q hq;⟨z,hz⟩) fun q hq=>let ⟨z,hz,_⟩:=h.root q hq;⟨z,hz⟩
theorem Lt.all{l:List Rl}(h:Lt x roots s l):(∀y∈s,∃v∈(Go.Eng.visits x roots s).1,LY v=y)/\(Go.Eng.visits x roots s).1.length=s.length:=by
 have hr:=T1 h.visits;have hu:∀{y:Sl},y∈s->BD s y.path=some y:=QJ h.inc;have key:∀y∈s,y.path∈((Go.Eng.visits x roots s).1.map LY).map (·.path)->∃v∈(Go.Eng.visits x roots s).1,LY v=y:=fun y hy hp=>by
  obtain⟨z,hz,e⟩:=Ar.1 hp;obtain⟨v,hv,rfl⟩:=Ar.1 hz;refine⟨v,hv,?_⟩;have h1:=hu (hr.mem v hv).1;simp_all
 have:=ZP h (C:=((Go.Eng.visits x roots s).1.map LY).map (·.path)) (by simpa using hr.nodup) (fun q hq=>by have:=hr.closed q hq;grind [EC]) (fun y hy r hrl hp q hq=>by
  obtain⟨v,hv,e⟩:=key y hy hp;have h1:=(hr.mem v hv).2;rw[e,hrl]at h1;cases h1
  have:=hr.closedR v hv q hq;grind [EC]) (fun p hp=>by
  obtain⟨z,hz,rfl⟩:=Ar.1 hp;obtain⟨v,hv,rfl⟩:=Ar.1 hz;exact Ar.2 ⟨_,(hr.mem v hv).1,rfl⟩)
 grind
-- skips
theorem VV{t:List Tm}{b:List Sl}(hs:C3 s=true)(hb:∀y∈b,y∈s)(h:B7 t b=true):A4 t s=true:=by
 unfold B7 at h;simp only[Aj,E7,Qx]at h;obtain⟨h1,h2⟩:=h;rw[Bq]at h1⊢;intro u hu
 have:=h2 u hu
 simp only[Bool.not_eq_false]at this;rw[Jq]at this;cases hf:BD b u.path<;>grind [BD,QJ]
end Go.Eng
