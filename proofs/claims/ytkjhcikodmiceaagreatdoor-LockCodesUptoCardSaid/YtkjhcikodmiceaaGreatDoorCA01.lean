/- Lemmas 1. -/
import Derived.Test.YtkjhcikodmiceaaGreatDoorCA00
namespace Go.Eng
abbrev Ak1:=ByteArray
abbrev Ak2:=List UInt8
abbrev Ak3:=List ByteArray
variable {a b:Ak1}{lo:Option Ak1}{α:Type}(c:UInt8)(p:Ak1)
def BK(p:Int)(s:Int×Int):Bool:=decide (s.1<=p)&&decide (p<s.2)
def has(s:List (Int×Int))(p:Int):Bool:=decide (0<=p)&&decide (p<10^6)&&s.any (BK p)
abbrev AY:=List (Int×Int)
def Ep(lo:Int):AY->Prop
 | []=>True
 |y::r=>lo<=y.1/\y.1<y.2/\y.2<=10^6/\Ep (y.2+1) r
abbrev Ev(l:AY):Prop:=Ep 0 l
def cg(x:Int×Int):AY->AY
 | []=>[x]
 |y::r=>if x.2<y.1 then x::y::r else if y.2<x.1 then y::cg x r else cg (min x.1 y.1,max x.2 y.2) r
def GO(x:Int×Int):Int×Int:=(max x.1 0,min x.2 1000000)
def canon:AY->AY
 | []=>[]
 |x::r=>if(GO x).1<(GO x).2 then cg (GO x) (canon r)else canon r
def LI(at_:Int):AY->AY
 | []=>if at_<10^6 then [(at_,1000000)]else []
 |y::r=>if at_<y.1 then(at_,y.1)::LI y.2 r else LI y.2 r
def EJ(s:AY):AY:=LI 0 (canon s)
def SU(l:List AY):AY:=canon l.flatten
def RZ(l:List AY):AY:=EJ (l.map EJ).flatten
def Rk(a b:AY):AY:=SU [a,b]
def QE(a b:AY):AY:=RZ [a,b]
theorem Ep.mono{lo Ik : Int}:∀{l:AY},Ep lo l->Ik<=lo->Ep Ik l
 | [],_,_=>trivial
 |_::_,⟨h1,h2,h3,h4⟩,h=>⟨Int.le_trans h h1,h2,h3,h4⟩
theorem Ep.low{lo:Int}:∀{l:AY},Ep lo l->∀y∈l,lo<=y.1/\y.1<y.2/\y.2<=10^6
 |y::r,⟨h1,h2,h3,h4⟩,z,hz=>by
  rcases AJ.1 hz with rfl | hz
  .omega
  .have:=h4.low z hz
   omega
theorem D5{p:Int}{s:Int×Int}:BK p s=true↔s.1<=p/\p<s.2:=by simp[BK]
theorem PU{lo:Int}{l:AY}(h:Ep lo l){p:Int}(hp:l.any (BK p)=true):lo<=p:=by
 obtain⟨y,hy,h2⟩:=Cs.1 hp
 have:=h.low y hy
 grind [D5]
theorem qc{lo:Int}{l:AY}(h:Ep lo l){p:Int}(hp:l.any (BK p)=true):p<10^6:=by
 obtain⟨y,hy,h2⟩:=Cs.1 hp
 have:=h.low y hy
 grind [D5]
theorem OV:∀(l:AY) {lo:Int} {x:Int×Int},Ep lo l->lo<=x.1->x.1<x.2->x.2<=1000000->Ep lo (cg x l)
 | [],lo,x,_,h1,h2,h3=>⟨h1,h2,h3,trivial⟩
 |y::r,lo,x,⟨g1,g2,g3,g4⟩,h1,h2,h3=>by
  unfold cg;split
  .exact⟨h1,h2,h3,by omega,g2,g3,g4⟩
  .split
   .exact⟨g1,g2,g3,OV r g4 I h2 h3⟩
   .refine OV r (g4.mono I) ?_ ?_ ?_<;>dsimp only<;>omega
theorem PS:∀(l:AY) {lo:Int} {x:Int×Int} (p:Int),Ep lo l->x.1<x.2->(cg x l).any (BK p)=(BK p x||l.any (BK p))
 | [],lo,x,p,_,_=>by simp[cg]
 |y::r,lo,x,p,⟨g1,g2,g3,g4⟩,h2=>by
  unfold cg;split
  .simp
  .split
   .rw[Eu,PS r p g4 h2,Eu,<-Bool.or_assoc,<-Bool.or_assoc,Bool.or_comm (BK p y)]
   .rw[PS r p g4 I,Eu,<-Bool.or_assoc]
    grind [BK]
theorem BV:∀s:AY,Ev (canon s)
 | []=>trivial
 |x::r=>by
  unfold canon;split
  .rename_i h;refine OV _ (BV r) ?_ h ?_<;>simp only[GO]<;>omega
  .exact BV r
theorem KQ:∀(s:AY) (p:Int),(canon s).any (BK p)=has s p
 | [],p=>by simp[has,canon]
 |x::r,p=>by
  have ih:=KQ r p
  grind [canon,BK,GO,PS,BV,has]
theorem H3{l:AY}(h:Ev l)(p:Int):has l p=l.any (BK p):=by
 unfold has;cases e:l.any (BK p)with
 |false=>simp
 |true=>have h1:0<=p:=PU h e;grind [qc]
theorem Hp(s:AY)(p:Int):has (canon s) p=has s p:=by
 rw[H3 (BV s),KQ]
theorem Oq:∀{a b:AY} {lo:Int},Ep lo a->Ep lo b->(∀p,a.any (BK p)=b.any (BK p))->a=b
 | [],[],_,_,_,_=>rfl
 | [],z::s,_,_,⟨g1,g2,g3,g4⟩,h=>by
  have:=h z.1
  grind [D5]
 |y::r,[],_,⟨g1,g2,g3,g4⟩,_,h=>by
  have:=h y.1
  grind [D5]
 |y::r,z::s,lo,⟨f1,f2,f3,f4⟩,⟨g1,g2,g3,g4⟩,h=>by
  have below:∀{x:Int×Int} {t:AY} {p:Int},Ep (x.2+1) t->(x::t).any (BK p)=true->p<=x.2->x.1<=p/\p<x.2:=fun {x t p} ht hp Jo=>by
   rw[Eu,JW]at hp;rcases hp with hp | hp
   .exact D5.1 hp
   .have:=PU ht hp;omega
  have low:∀{x:Int×Int} {t:AY} {p:Int},x.1<x.2->Ep (x.2+1) t->(x::t).any (BK p)=true->x.1<=p:=fun {x t p} hx ht hp=>by
   grind
  have cov:∀{x:Int×Int} {t:AY} {p:Int},x.1<=p->p<x.2->(x::t).any (BK p)=true:=fun {x t p} h1 h2=>by
   grind [D5]
  have e1:y.1=z.1:=by
   grind
  have e2:y.2=z.2:=by
   rcases Int.lt_trichotomy y.2 z.2 with hl | he | hl
   .grind
   .exact he
   .have:=below g4 ((h z.2).symm.trans (cov I hl)) (B6 _);omega
  have e:y=z:=UV e1 e2;subst e
  congr 1
  refine Oq f4 g4 fun p=>?_;have hp:=h p;simp only[Eu]at hp;cases hs:BK p y with
  |false=>simp_all
  |true=>
   have:=D5.1 hs
   have n:∀{t:AY},Ep (y.2+1) t->t.any (BK p)=false:=fun {t} ht=>by
    rw[Bg];intro hx;have:=PU ht hx;omega
   grind
theorem HR{a b:AY}(ha:Ev a)(hb:Ev b)(h:∀p,has a p=has b p):a=b:=
 Oq ha hb fun p=>by rw[<-H3 ha,<-H3 hb,h]
theorem U9{a s:AY}(ha:Ev a)(h:∀p,has a p=has s p):a=canon s:=
 HR ha (BV s) fun p=>by rw[h,Hp]
theorem JF{a:AY}(ha:Ev a):canon a=a:=(U9 ha fun _=>rfl).symm
theorem RU{s:AY}{p:Int}(h:has s p=true):0<=p/\p<10^6:=by
 grind [has]
def Uk(p:Int):Bool:=decide (0<=p)&&decide (p<10^6)
theorem LJ:∀(l:AY) {at_ lo:Int},0<=at_->Ep lo l->lo<=at_+1->at_<=lo->Ep at_ (LI at_ l)/\∀p,(LI at_ l).any (BK p)=(decide (at_<=p)&&decide (p<10^6)&&!l.any (BK p))
 | [],at_,lo,h0,_,h1,h2=>by
  unfold LI;split
  .exact⟨⟨B6 _,by omega,B6 _,trivial⟩,fun p=>by simp[BK]⟩
  .refine⟨trivial,fun p=>?_⟩
   grind
 |y::r,at_,lo,h0,⟨g1,g2,g3,g4⟩,h1,h2=>by
  have ih:=LJ r (at_:=y.2) I g4 (B6 _) I;have key:∀p,(decide (at_<=p)&&decide (p<y.1)||(LI y.2 r).any (BK p))=(decide (at_<=p)&&decide (p<10^6)&&!(y::r).any (BK p)):=fun p=>by
   rw[ih.2,Eu];cases hr:r.any (BK p)with
   |true=>
    have:=PU g4 hr
    grind
   |false=>
    grind [BK]
  unfold LI;split
  .rename_i h;refine⟨⟨B6 _,h,by omega,ih.1 |> fun c=>?_⟩,fun p=>?_⟩
   .dsimp only;cases e:LI y.2 r with
    |nil=>trivial
    |cons z s=>
     rw[e]at c;exact⟨by have:=c.1;omega,c.2⟩
   .rw[Eu,<-key];rfl
  grind [Ep.mono]
theorem Hm(s:AY):Ev (EJ s):=by
 grind [EJ,LJ,BV]
theorem FZ(s:AY)(p:Int):has (EJ s) p=(Uk p&&!has s p):=by
 rw[H3 (Hm s)];unfold EJ;rw[(LJ _ (B6 _) (BV s) I (B6 _)).2,KQ];rfl
theorem im(a b:AY)(p:Int):has (a++b) p=(has a p||has b p):=by
 grind [has]
theorem M7:∀(l:List AY) (p:Int),has l.flatten p=l.any fun s=>has s p
 | [],p=>by simp[has]
 |s::l,p=>by rw[BQ,im,M7 l p,Eu]
theorem VH(l:List AY)(p:Int):has (SU l) p=l.any fun s=>has s p:=by
 unfold SU;rw[Hp,M7]
theorem bG(l:List AY):Ev (SU l):=BV _
theorem aF(l:List AY):Ev (RZ l):=Hm _
theorem VG(l:List AY)(p:Int):has (RZ l) p=(Uk p&&l.all fun s=>has s p):=by
 grind [RZ,FZ,M7,List.any_map]
theorem fP(a b:AY):Ev (Rk a b):=BV _
theorem TN(a b:AY):Ev (QE a b):=Hm _
theorem nA(a b:AY)(p:Int):has (Rk a b) p=(has a p||has b p):=by
 grind [Rk,VH]
theorem Yf(a b:AY)(p:Int):has (QE a b) p=(has a p&&has b p):=by
 grind [QE,VG,RU,Uk]
theorem iA(s:AY):QE s s=canon s:=HR (TN _ _) (BV _) fun p=>by grind [Yf,Hp]
theorem Xq{s:AY}:canon s=[]↔∀p,has s p=false:=by
 constructor
 .intro h p;rw[<-Hp,h];simp[has]
 .intro h;exact HR (BV s) (b:=[]) trivial fun p=>by grind [Hp,has]
theorem Sm{s:AY}(hs:Ev s):s=[]↔∀p,has s p=false:=by
 rw[<-Xq,JF hs]
def qB(l:List AY)(p:Int):Nat:=l.countP fun s=>has s p
theorem U8:∀{l:AY} {lo:Int},Ep lo l->lo<=1000000->(l.length:Int)<=1000000-lo
 | [],lo,_,h=>by simp_all
 |y::r,lo,⟨g1,g2,g3,g4⟩,h=>by
  by_cases h3:y.2+1<=10^6
  .have:=U8 g4 h3
   grind
  .cases r with
   |nil=>grind
   |cons z s=>have:=g4.1;have:=g4.2.1;have:=g4.2.2.1;omega
theorem Io{l:AY}(h:Ev l):l.length<=10^6:=by have:=U8 h I;omega
structure Ver where
 (a b c:Int)
variable (v:Ver)
structure Rq where
 path:Ak1
 set:List (Int×Int)
variable {roots:List Rq}(q:Rq)
structure F where
 path:Ak1
 ver:Ver
 reqs:List Rq
 (arch ifc cert:Ak1)
 yanked:Bool
variable {x:List F}(r:F)
structure Sl where
 path:Ak1
 ver:Ver
variable {s:List Sl}{y:Sl}
structure V where
 path:Ak1
 absent:Bool
 set:List (Int×Int)
variable (l:List V)(u t:V)
structure Nf where
 kind:Int
 path:Ak1
 (place number left right:Int)
structure Sk where
 path:Ak1
 (place inf:Int)
structure An where
 found:Bool
 sel:List Sl
 infs:List Nf
 skips:List Sk
instance:DecidableEq Ver:=fun x y=>decidable_of_iff (x.a=y.a/\x.b=y.b/\x.c=y.c) ⟨fun⟨h1,h2,h3⟩=>by cases x<;>simp_all,fun h=>by simp_all⟩
instance:DecidableEq Sl:=fun x y=>decidable_of_iff (x.path=y.path/\x.ver=y.ver) ⟨fun⟨h1,h2⟩=>by cases x<;>simp_all,fun h=>by simp_all⟩
instance:DecidableEq V:=fun x y=>decidable_of_iff (x.path=y.path/\x.absent=y.absent/\x.set=y.set) ⟨fun⟨h1,h2,h3⟩=>by cases x<;>simp_all,fun h=>by simp_all⟩
theorem AcM{x y:V}(h1:x.path=y.path)(h2:x.absent=y.absent)(h3:x.set=y.set):x=y:=by cases x<;>simp_all
def okPart(n:Int):Prop:=0<=n/\n<=999
instance (n:Int):Decidable (okPart n):=by unfold okPart;infer_instance
def Cf:Bool:=decide (okPart v.a)&&decide (okPart v.b)&&decide (okPart v.c)
def place:Int:=1000*v.b+v.c
def plc:Int:=if Cf v then place v else 0
def Bw(s:List Sl)(p:Ak1):Option Sl:=s.find? fun x=>decide (x.path=p)
def Hs(s:List Sl):Bool:=
 match s.find? (fun x=>decide (x.path=t.path))with
 |none=>t.absent
 |some x=>Cf x.ver&&has t.set (place x.ver)
def Cb(s:List Sl)(p:Ak1):Bool:=s.any fun x=>decide (x.path=p)
def A3(s:List Sl):Bool:=l.all fun t=>Hs t s
def BW(s:List Sl):Bool:=A3 l s&&!l.any fun t=>!Cb s t.path
def fK(a:An):Bool:=decide (a.infs.length<=400)&&decide (a.sel.length<=16)&&decide (a.skips.length<=100)
def K7:Ak2->Ak2->Bool
 | [],[]=>false
 | [],_::_=>true
 |_::_,[]=>false
 |a::x,b::y=>decide (a<b)||(decide (a=b)&&K7 x y)
def E3(a b:Ak1):Bool:=K7 a.data.toList b.data.toList
theorem TP:∀x,K7 x x=false
 | []=>rfl
 |a::x=>by
  unfold K7;simp[TP x]
theorem V6:∀{x y z},K7 x y=true->K7 y z=true->K7 x z=true
 | [],[],_,h,_=>by omega
 | [],_::_,[],_,h=>by grind [K7]
 | [],_::_,_::_,_,_=>rfl
 |_::_,[],_,h,_=>by grind [K7]
 |_::_,_::_,[],_,h=>by grind [K7]
 |a::x,b::y,c::z,h1,h2=>by
  unfold K7 at *
  simp only[JW,Ao,AP]at *
  rcases h1 with h1 | ⟨rfl,h1⟩
  .grind
  .rcases h2 with h2 | ⟨rfl,h2⟩
   .simp_all
   .exact .inr ⟨rfl,V6 h1 h2⟩
theorem dQ:∀{x y},K7 x y=false->K7 y x=false->x=y
 | [],[],_,_=>rfl
 | [],_::_,h,_=>by grind [K7]
 |_::_,[],_,h=>by grind [K7]
 |a::x,b::y,h1,h2=>by
  unfold K7 at *
  simp only[Bool.or_eq_false_iff,Bool.and_eq_false_iff,decide_eq_false_iff_not]at *
  have e:a=b:=by
   grind
  subst e
  have:=dQ (x:=x) (y:=y) aa0 aa0
  simp_all
theorem Ail(h:a.data.toList=b.data.toList):a=b:=by
 cases a<;>simp_all
theorem CY(a:Ak1):E3 a a=false:=TP _
theorem D3{c:Ak1}(h:E3 a b=true)(k:E3 b c=true):E3 a c=true:=V6 h k
theorem Iz(h:E3 a b=false)(k:E3 b a=false):a=b:=Ail (dQ h k)
theorem ZN(h:E3 a b=true):a≠b:=fun e=>by grind [CY]
theorem mS(h:E3 a b=true):E3 b a=false:=by
 grind [D3,CY]
def MV:V:=⟨t.path,t.absent,canon t.set⟩
def GZ:V:=⟨u.path,u.absent&&t.absent,QE u.set t.set⟩
def Pj(t:V):List V->List V
 | []=>[MV t]
 |u::r=>if E3 u.path t.path then u::Pj t r else if u.path=t.path then GZ u t::r else MV t::u::r
def Fl:List V:=l.foldl (fun acc t=>Pj t acc) []
def I2:Bool:=!t.absent&&t.set.isEmpty
def G6:Bool:=t.absent&&decide (t.set=[(0,1000000)])
def CK:Option (List V):=if(Fl l).any I2 then none else some ((Fl l).filter fun t=>!G6 t)
def So:List V:=(CK l).getD []
def Do:V:=⟨q.path,true,EJ q.set⟩
def Ib:List V:=So [Do q]
def Dc(path:Ak1)(pl:Int)(q:Rq):List V:=So [⟨path,false,[(pl,pl+1)]⟩,Do q]
def FK(path:Ak1)(Ae2:AY):List V:=So [⟨path,false,EJ Ae2⟩]
def Di(p:Ak1):Option V:=l.find? fun t=>decide (t.path=p)
def FY(p:Ak1):List V:=l.filter fun t=>!decide (t.path=p)
def Dd(a b:V):V:=⟨a.path,a.absent||b.absent,Rk a.set b.set⟩
def Fo(p:Ak1):Option (V×List V):=match CK l with
 |none=>none
 |some c=>match Di c p with
  |none=>none
  |some t=>some (t,FY c p)
def Bc(a b:List V)(p:Ak1):List V×Int:=
 match Fo a p,Fo b p with
 |some (t,r),some (u,m)=>match CK (r++m++[Dd t u])with
  |some o=>(o,0)
  |none=>([],8)
 |_,_=>([],1)
def BI(lo:Option Ak1):List V->Prop
 | []=>True
 |t::r=>(∀p,lo=some p->E3 p t.path=true)/\Ev t.set/\BI (some t.path) r
theorem BI.weak:∀{l:List V},BI lo l->BI none l
 | [],_=>trivial
 |_::_,⟨_,h2,h3⟩=>⟨fun _ h=>(by cases h),h2,h3⟩
theorem BI.low{p:Ak1}:∀{l:List V},BI (some p) l->∀t∈l,E3 p t.path=true
 |t::r,⟨h1,h2,h3⟩,u,hu=>by
  rcases AJ.1 hu with rfl | hu
  .simp_all
  .exact D3 (h1 p rfl) (h3.low u hu)
theorem BI.canon{lo:Option Ak1}:∀{l:List V},BI lo l->∀t∈l,Ev t.set
 |t::r,⟨h1,h2,h3⟩,u,hu=>by
  rcases AJ.1 hu with rfl | hu
  .exact h2
  .exact h3.canon u hu
theorem BI.mono{p q:Ak1}:∀{l:List V},BI (some p) l->E3 q p=true->BI (some q) l
 | [],_,_=>trivial
 |t::r,⟨h1,h2,h3⟩,h=>⟨fun _ e=>by grind [D3],h2,h3⟩
theorem Nc:∀{l:List V} {lo:Option Ak1} (t:V),BI lo l->(∀p,lo=some p->E3 p t.path=true)->BI lo (Pj t l)
 | [],lo,t,_,h=>⟨h,BV _,trivial⟩
 |u::r,lo,t,⟨h1,h2,h3⟩,h=>by
  unfold Pj;split
  .rename_i CL;exact⟨h1,h2,Nc t h3 fun p e=>by simp_all⟩
  .rename_i CL;split
   .rename_i he;exact⟨h1,TN _ _,h3⟩
   .rename_i he;refine⟨h,BV _,fun p e=>?_,h2,h3⟩;cases e
    have:E3 u.path t.path=false:=aa0
    cases hb:E3 t.path u.path with
    |true=>exact hb
    |false=>grind [Iz]
theorem Qt:∀(l acc:List V),BI none acc->BI none (l.foldl (fun acc t=>Pj t acc) acc)
 | [],_,h=>h
 |t::l,acc,h=>Qt l _ (Nc t h fun _ e=>by cases e)
theorem Ed:BI none (Fl l):=Qt l [] trivial
theorem Es(r:List V)(p:Ak1):Di (t::r) p=if t.path=p then some t else Di r p:=by
 grind [Di]
theorem Kh{p q:Ak1}{l:List V}(h:BI (some p) l)(hq:E3 p q=false):Di l q=none:=by
 grind [Di,BI.low]
def Ul(o:Option V)(t:V):V:=match o with | none=>MV t | some u=>GZ u t
theorem Sw(o:Option V)(t:V)(h:∀u,o=some u->u.path=t.path):(Ul o t).path=t.path:=by
 cases o with
 |none=>rfl
 |some u=>exact h u rfl
theorem LO{l:List V}{p:Ak1}{u:V}(h:Di l p=some u):u.path=p:=by
 have:=Gk h;simp_all
theorem GI{l:List V}{p:Ak1}{u:V}(h:Di l p=some u):u∈l:=BX h
theorem Vu:∀{l:List V} {lo:Option Ak1} (t:V) (p:Ak1),BI lo l->Di (Pj t l) p=if t.path=p then some (Ul (Di l p) t)else Di l p
 | [],lo,t,p,_=>by
  grind [Pj,MV,Di,Ul]
 |u::r,lo,t,p,⟨h1,h2,h3⟩=>by
  unfold Pj;split
  .rename_i CL;rw[Es,Es,Vu t p h3]
   grind [ZN]
  grind [Es,GZ,Ul,MV,Kh]
def Kv(o:Option V)(t:V):Option V:=if t.path=p then some (Ul o t)else o
theorem TC(p:Ak1):∀(l acc:List V),BI none acc->Di (l.foldl (fun acc t=>Pj t acc) acc) p=l.foldl (Kv p) (Di acc p)
 | [],_,_=>rfl
 |t::l,acc,h=>by
  rw[Gl,TC p l _ (Nc t h fun _ e=>by cases e),Vu t p h];rfl
theorem Jl(p:Ak1):Di (Fl l) p=l.foldl (Kv p) none:=TC p l [] trivial
theorem NE:∀{a b:List V} {lo:Option Ak1},BI lo a->BI lo b->(∀p,Di a p=Di b p)->a=b
 | [],[],_,_,_,_=>rfl
 | [],z::s,_,_,_,h=>by have:=h z.path;rw[Es,AO rfl]at this;cases this
 |z::s,[],_,_,_,h=>by have:=h z.path;rw[Es,AO rfl]at this;cases this
 |y::r,z::s,lo,⟨f1,f2,f3⟩,⟨g1,g2,g3⟩,h=>by
  have e:y=z:=by
   have a1:=h y.path;have a2:=h z.path
   grind [Es,BI.low,GI,D3,CY]
  subst e
  congr 1
  refine NE f3 g3 fun p=>?_;have hp:=h p
  grind [Es,Kh,CY]
theorem BI.filter(q:V->Bool):∀{l:List V} {lo:Option Ak1},BI lo l->BI lo (l.filter q)
 | [],_,_=>trivial
 |t::r,lo,⟨h1,h2,h3⟩=>by
  have ih:=BI.filter q h3;rw[List.filter_cons];split
  .exact⟨h1,h2,ih⟩
  .cases lo<;>grind [BI.weak,BI.mono]
theorem Gy{l:List V}{t:V}(h:BI lo l):t∈l↔Di l t.path=some t:=by
 constructor
 .induction l generalizing lo with
  |nil=>simp_all
  |cons u r ih=>
   intro ht;rw[Es];rcases AJ.1 ht with rfl | ht
   .simp_all
   .have:=BI.low h.2.2 t ht
    rw[AB (ZN this)];exact ih h.2.2 ht
 .exact GI
def CP(o:Option Sl):Bool:=match o with | none=>t.absent | some x=>Cf x.ver&&has t.set (place x.ver)
theorem rG(s:List Sl):Hs t s=CP t (Bw s t.path):=by
 unfold Hs CP Bw;rfl
theorem Kg{p:Ak1}{x:Sl}(h:Bw s p=some x):x.path=p:=by
 have:=Gk h;simp_all
theorem Gx{p:Ak1}{x:Sl}(h:Bw s p=some x):x∈s:=BX h
theorem Kj{p:Ak1}:Cb s p=(Bw s p).isSome:=by
 grind [Cb,Bw]
theorem iu(o:Option Sl):CP (MV t) o=CP t o:=by
 unfold CP MV;grind [Hp]
theorem dx(o:Option Sl):CP (GZ u t) o=(CP u o&&CP t o):=by
 unfold CP GZ;cases o<;>grind [Yf]
theorem OD(o:Option Sl):CP (Dd u t) o=(CP u o||CP t o):=by
 unfold CP Dd;cases o<;>grind [nA]
def mI(o:Option Sl)(l:List V):Bool:=l.all fun t=>!decide (t.path=p)||CP t o
theorem Ki(p:Ak1)(o:Option Sl):∀(l:List V) (a:Option V),(∀u,a=some u->u.path=p) ->
  (l.foldl (Kv p) a=none↔a=none/\l.all (fun t=>!decide (t.path=p))=true)/\(∀u,l.foldl (Kv p) a=some u->u.path=p/\CP u o=((match a with | none=>true | some b=>CP b o)&&mI p o l))
 | [],a,ha=>by
  grind [mI]
 |t::l,a,ha=>by
  rw[Gl]
  by_cases e:t.path=p
  .have hs:Kv p a t=some (Ul a t):=by grind [Kv]
   rw[hs];have ih:=Ki p o l (some (Ul a t)) (fun u h=>by grind [Sw])
   grind [mI,Ul,iu,dx]
  .have hs:Kv p a t=a:=by grind [Kv]
   rw[hs];have ih:=Ki p o l a ha
   grind [mI]
theorem Bk{l:List V}:A3 l s=true↔∀t∈l,CP t (Bw s t.path)=true:=by
 grind [A3,rG]
theorem Ms(s:List Sl):A3 (Fl l) s=A3 l s:=by
 rw[DD,Bk,Bk];constructor
 .intro h t ht
  have:=Ki t.path (Bw s t.path) l none (fun _ e=>by cases e)
  rw[<-Jl]at this;cases e:Di (Fl l) t.path<;>grind [GI,mI]
 .intro h u hu;have e:=(Gy (Ed l)).1 hu
  have:=Ki u.path (Bw s u.path) l none (fun _ e=>by cases e)
  grind [Jl,mI]
theorem iJ{t:V}(h:I2 t=true)(o:Option Sl):CP t o=false:=by
 unfold I2 at h;simp only[Ao,Fp,GU]at h;unfold CP
 grind [has]
def F6(s:List Sl):Prop:=∀x∈s,Cf x.ver=true
theorem Hz{v:Ver}(h:Cf v=true):0<=v.a/\v.a<=999/\0<=v.b/\v.b<=999/\0<=v.c/\v.c<=999:=by
 unfold Cf at h;simp only[Ao]at h;obtain⟨⟨a,b⟩,c⟩:=h;obtain⟨a1,a2⟩:=B7 a;obtain⟨b1,b2⟩:=B7 b;obtain⟨c1,c2⟩:=B7 c<;>simp_all
theorem JQ{v:Ver}(h:Cf v=true):0<=place v/\place v<10^6:=by
 have:=Hz h;grind [place]
theorem Xn{t:V}(h:G6 t=true)(hs:F6 s):CP t (Bw s t.path)=true:=by
 unfold G6 at h;simp only[Ao,AP]at h;unfold CP;cases e:Bw s t.path with
 |none=>exact h.1
 |some x=>
  have:=hs x (Gx e)
  grind [JQ,has,BK]
theorem CR{l:List V}(hs:F6 s):A3 l s=(match CK l with | none=>false | some c=>A3 c s):=by
 unfold CK;split
 .rename_i h;split at h
  .rename_i hn;rw[<-Ms,Bg]
   grind [Bk,iJ]
  simp_all
 .rename_i c h;split at h
  .cases h
  .rename_i hn;cases h;rw[<-Ms,DD,Bk,Bk]
   grind [Xn]
theorem He(a b:List V)(s:List Sl):A3 (a++b) s=(A3 a s&&A3 b s):=by grind [A3]
theorem EI{l c:List V}(h:CK l=some c):BI none c:=by
 grind [CK,BI.filter,Ed]
theorem GE{l r:List V}{p:Ak1}{t:V}(hs:F6 s)(h:Fo l p=some (t,r)):A3 l s=(CP t (Bw s p)&&A3 r s)/\t.path=p:=by
 unfold Fo at h;cases hc:CK l with
 |none=>simp_all
 |some c=>
  rw[hc]at h;dsimp only at h;cases hf:Di c p with
  |none=>simp_all
  |some u=>
   rw[hf]at h;cases h;have hp:=LO hf;refine⟨?_,hp⟩;rw[CR hs,hc];dsimp only;rw[DD,Ao,Bk,Bk];constructor
   .intro h
    have:=h t (GI hf)
    rw[hp]at this;exact⟨this,fun v hv=>h v (C3.1 hv).1⟩
   .intro⟨h1,h2⟩ v hv
    by_cases e:v.path=p
    .have:=(Gy (EI hc)).1 hv
     simp_all
    .exact h2 v (C3.2 ⟨hv,by simp[e]⟩)
theorem WD{a b o:List V}{p:Ak1}(hs:F6 s)(h:Bc a b p=(o,0))(hv:A3 o s=true):A3 a s=true\/A3 b s=true:=by
 unfold Bc at h;cases h1:Fo a p with
 |none=>simp_all
 |some x=>
  cases h2:Fo b p with
  |none=>simp_all
  |some y=>
   obtain⟨t,r⟩:=x;obtain⟨u,m⟩:=y;rw[h1,h2]at h;dsimp only at h;cases hc:CK (r++m++[Dd t u])with
   |none=>simp_all
   |some c=>
    rw[hc]at h
    have:c=o:=aa0
    subst this;have e:=CR (l:=r++m++[Dd t u]) hs;rw[hc]at e;dsimp only at e;rw[hv,He,He]at e;simp only[Ao]at e;obtain⟨⟨e1,e2⟩,e3⟩:=e;obtain⟨va,pa⟩:=GE hs h1;obtain⟨Q,pb⟩:=GE hs h2;have e3:=Bk.1 e3 _ (AA.2 rfl)
    grind [Dd,OD]
theorem Sp{l:List V}(hs:F6 s)(Ec:So l≠[]):A3 (So l) s=A3 l s:=by
 grind [CR,So]
-- paths
def Ei:Bool:=decide (97<=c)&&decide (c<=122)
def MW:Bool:=decide (65<=c)&&decide (c<=90)
def Ch:Bool:=decide (48<=c)&&decide (c<=57)
def FD:Bool:=Ei c||MW c||Ch c||decide (c=95)
def iD:Ak2:=[32,97,110,100,32,97,110,121,32,97,115,32,98,111,111,108,32,100,101,112,114,101,99,97,116,101,100,32,101,108,115,101,32,101,120,112,111,114,116,32,102,97,108,115,101,32,102,110,32,102,111,108,100,32,102,114,111,109,32,105,102,32,105,109,112,111,114,116,32,105,110,32,105,110,116,32,108,101,110,103,116,104,32,108,101,116,32,108,105,115,116,32,109,97,116,99,104,32,109,111,100,117,108,101,32,110,111,110,101,32,110,111,116,32,111,114,32,116,101,120,116,32,116,104,101,110,32,116,114,117,101,32,116,121,112,101,32,117,115,101,32]
def QV:Ak2->Ak2->Bool
 | [],_=>true
 |_::_,[]=>false
 |a::x,b::y=>decide (a=b)&&QV x y
def vt(x:Ak2):Ak2->Bool
 | []=>QV x []
 |b::y=>QV x (b::y)||vt x y
def Xx(s:Ak2):Bool:=vt (32::(s++[32])) iD
def Gd(s:Ak2):Bool:=!s.isEmpty&&decide (s.length<=32)&&Ei (s.headD 0)&&s.all FD&&!Xx s
def Hy(s:Ak2):Bool:=Gd s&&s.all fun c=>Ei c||Ch c
def DF(s:Ak2):Int:=s.foldl (fun n c=>10*n+((c.toNat:Int)-48)) 0
def F9(s:Ak2):Option Int:=match s with
 |c::r=>if c=118 then(if r.isEmpty||decide (3<r.length)||(decide (1<r.length)&&decide (r.headD 0=48))||!r.all Ch then none else some (DF r))else none
 | []=>none
def Cy(c:UInt8):Ak2->List (Ak2)
 | []=>[[]]
 |b::r=>if b=c then []::Cy c r else match Cy c r with
  | []=>[[b]]
  |x::l=>(b::x)::l
def Sf(p:Ak2):Option Int:=match F9 ((Cy 47 p).getLastD [])with
 |none=>none
 |some n=>if 64<p.length||(Cy 47 p).length<2 then none else if(Cy 47 p).all Hy then some n else none
def AR:Option Int:=Sf p.data.toList
-- indexes
def GS(before:Option Ak1)(q:Rq):Int:=
 if(AR q.path).isNone then 4 else if q.set.isEmpty||!decide (q.set=canon q.set)||(match before with | some b=>!E3 b q.path | none=>false)then 1 else 0
def DL(before:Option Ak1):List Rq->Int
 | []=>0
 |q::r=>if GS before q=0 then DL (some q.path) r else GS before q
def Bb(l:List Rq):Int:=if 16<l.length then 7 else DL none l
def Dr(s:Ak1):Bool:=decide (s.size=0)||decide (s.size=32)
def Eb:Int:=match AR r.path with
 |none=>4
 |some m=>if !Cf r.ver||!decide (r.ver.a=m)then 2 else if Bb r.reqs≠0 then Bb r.reqs else if Dr r.arch&&Dr r.ifc&&Dr r.cert then 0 else 1
def HD(a b:Int):Int:=if a<b then -1 else if b<a then 1 else 0
def LG(a b:Ak1):Int:=if E3 a b then -1 else if E3 b a then 1 else 0
def Vd(a b:Ver):Int:=if HD a.a b.a≠0 then HD a.a b.a else if HD a.b b.b≠0 then HD a.b b.b else HD a.c b.c
def cw(a b:F):Int:=if LG a.path b.path≠0 then LG a.path b.path else Vd a.ver b.ver
def DJ:Sl:=⟨r.path,r.ver⟩
def Em(before:Option F):List F->Int
 | []=>0
 |r::l=>if Eb r≠0 then Eb r else match before with
  |none=>Em (some r) l
  |some b=>if DJ b=DJ r then 5 else if 0<cw b r then 1 else Em (some r) l
def AU(l:List F):Int:=if 256<l.length then 7 else Em none l
def BG(x:List F)(y:Sl):Option F:=if AU x≠0 then none else x.find? fun r=>decide (DJ r=y)
def L5(x:List F)(p:Ak1):List F:=if AU x≠0 then []else x.filter fun r=>decide (r.path=p)
def BA(x:List F)(p:Ak1):AY:=canon (((L5 x p).filter fun r=>!r.yanked).map fun r=>(plc r.ver,plc r.ver+1))
def K3(before:Option Ak1):List Sl->Bool
 | []=>true
 |y::r=>(match before with |some b=>E3 b y.path |none=>true)&&K3 (some y.path) r
def B5(s:List Sl):Bool:=K3 none s
-- solutions
def KC(x:List F):List Sl->Option (List F)
 | []=>some []
 |y::s=>match BG x y with
  |none=>none
  |some r=>match KC x s with
   |none=>none
   |some l=>some (r::l)
def Dn(l:List F)(q:Rq):Bool:=match l.find? (fun r=>decide (r.path=q.path))with
 |none=>true
 |some r=>!has q.set (plc r.ver)
def ES(l:List F)(p:Ak1):List Rq:=match l.find? (fun r=>decide (r.path=p))with
 |none=>[]
 |some r=>r.reqs
def Fi(l:List F):Nat->List Rq->List Ak1->List Ak1
 |0,_,d=>d
 |_+1,[],d=>d
 |n+1,q::t,d=>if d.any (fun p=>decide (p=q.path))then Fi l n t d else Fi l n (t++ES l q.path) (d++[q.path])
def Ho(l:List F)(roots:List Rq):Nat:=roots.length+(l.map fun r=>r.reqs.length).foldl (·+·) 0+1
def Hc(x:List F)(roots:List Rq)(s:List Sl):Int:=
 if AU x≠0 then 1 else if !B5 s then 1 else match KC x s with
  |none=>6
  |some l=>if l.any (fun r=>r.reqs.any (Dn l))then 17 else if roots.any (Dn l)then 17 else
   if(Fi l (Ho l roots) roots []).length<l.length then 8 else 0
-- derivations
def FC(x:List F)(p:Ak1)(pl:Int):Option F:=x.find? fun r=>decide (r.path=p)&&decide (plc r.ver=pl)
def mt:Ak1:=⟨#[]⟩
def E5(l:List α)(i:Int):Option α:=if i<0 then none else l[i.toNat]?
def ne0:Option (List V):=if l.isEmpty then none else some l
def Cc(x:List F)(roots:List Rq)(d:List (List V))(i:Nf):Option (List V):=
 if i.kind=0 then
  if i.path=mt/\i.place=0/\i.left=0/\i.right=0 then(E5 roots i.number).map Ib else none
 else if i.kind=1 then
  if i.left=0/\i.right=0 then match FC x i.path i.place with
   |none=>none
   |some r=>match E5 r.reqs i.number with
    |none=>none
    |some q=>ne0 (Dc i.path i.place q)
  else none
 else if i.kind=2 then
  if i.place=0/\i.number=0/\i.left=0/\i.right=0 then ne0 (FK i.path (BA x i.path))else none
 else if i.kind=3 then
  if i.place=0/\i.number=0 then match E5 d i.left,E5 d i.right with
   |some a,some b=>if(Bc a b i.path).2=0 then some (Bc a b i.path).1 else none
   |_,_=>none
  else none
 else none
def BJ(x:List F)(roots:List Rq):List Nf->List (List V)->Option (List (List V))
 | [],d=>some d
 |i::l,d=>match Cc x roots d i with
  |none=>none
  |some t=>BJ x roots l (d++[t])
def CT(x:List F)(roots:List Rq)(l:List Nf):List (List V)×Int:=
 if AU x≠0\/Bb roots≠0 then([],1)else if 65536<l.length then([],7)else match BJ x roots l []with
  |none=>([],18)
  |some d=>(d,0)
def G4(d:List (List V)):Bool:=match d.getLast? with | some []=>true | _=>false
-- decisions
def CD(before:List Sl):List Rq->Option Ak1->Option Ak1
 | [],acc=>acc
 |q::l,acc=>CD before l (if Cb before q.path then acc else match acc with
  |none=>some q.path
  |some p=>if E3 q.path p then some q.path else some p)
def Gz(needs:List Rq)(before:List Sl):Option Ak1:=CD before needs none
structure gg where
 before:List Sl
 needs:List Rq
 rel:F
def ED(x:List F)(s:List Sl):Nat->List Sl->List Rq->List gg×Bool
 |0,_,_=>([],true)
 |n+1,before,needs=>match Gz needs before with
  |none=>([],true)
  |some p=>match Bw s p with
   |none=>([],false)
   |some y=>match BG x y with
    |none=>([],false)
    |some r=>(⟨before,needs,r⟩::(ED x s n (before++[y]) (needs++r.reqs)).1,(ED x s n (before++[y]) (needs++r.reqs)).2)
def visits(x:List F)(roots:List Rq)(s:List Sl):List gg×Bool:=ED x s (s.length+1) [] roots
-- answers
def DZ(d:List (List V))(v:gg):List F->List Sk->List Sk×Bool
 | [],k=>(k,true)
 |o::x,k=>
  if !decide (o.path=v.rel.path)||o.yanked||!decide (plc o.ver<plc v.rel.ver)then DZ d v x k else
  if v.needs.any (fun q=>decide (q.path=v.rel.path)&&!has q.set (plc o.ver))then DZ d v x k else
  match k with
  | []=>([],false)
  |y::k'=>if !decide (y.path=v.rel.path)||!decide (y.place=plc o.ver)then([],false)else match E5 d y.inf with
   |none=>([],false)
   |some t=>if BW t (v.before++[DJ o])then DZ d v x k' else([],false)
def Db(x:List F)(d:List (List V))(a:Bool×List Sk)(v:gg):Bool×List Sk:=
 (a.1&&(DZ d v x a.2).2&&!v.rel.yanked,(DZ d v x a.2).1)
def HT(x:List F)(roots:List Rq)(a:An):Int:=
 if(CT x roots a.infs).2≠0 then(CT x roots a.infs).2 else
 if a.found=false then(if !a.sel.isEmpty||!a.skips.isEmpty||!G4 (CT x roots a.infs).1 then 18 else 0)else
 if Hc x roots a.sel≠0 then 18 else
 if(((visits x roots a.sel).1.foldl (Db x (CT x roots a.infs).1) (true,a.skips)).1&&((visits x roots a.sel).1.foldl (Db x (CT x roots a.infs).1) (true,a.skips)).2.isEmpty)then 0 else 18
-- the example
def bs(l:Ak2):Ak1:=⟨⟨l⟩⟩
-- the order of releases
theorem KR{a b:Int}(h:HD a b=0):a=b:=by
 grind [HD]
theorem ZT{a b:Int}(h:HD a b<0):a<b:=by
 grind [HD]
theorem X5(h:LG a b=0):a=b:=by
 grind [LG,Iz]
theorem v8(h:LG a b<0):E3 a b=true:=by
 grind [LG]
def zZ(a b:Ver):Prop:=a.a<b.a\/(a.a=b.a/\(a.b<b.b\/(a.b=b.b/\a.c<b.c)))
def od(a b:F):Prop:=E3 a.path b.path=true\/(a.path=b.path/\zZ a.ver b.ver)
theorem wd{a b:Ver}(h:Vd a b<0):zZ a b:=by
 unfold Vd at h;split at h
 .exact .inl (ZT h)
 .rename_i h1;have h1:=KR (BP.1 h1);split at h
  .exact .inr ⟨h1,.inl (ZT h)⟩
  .rename_i h2;exact .inr ⟨h1,.inr ⟨KR (BP.1 h2),ZT h⟩⟩
theorem m5{a b:Ver}(h:Vd a b=0):a=b:=by
 unfold Vd at h;split at h
 .omega
 .rename_i h1;have h1:=KR (BP.1 h1);split at h
  .omega
  .rename_i h2;have h2:=KR (BP.1 h2);have h3:=KR h;cases a<;>simp_all
theorem mZ{a b:F}(h:cw a b=0):DJ a=DJ b:=by
 grind [cw,X5,m5,DJ]
theorem wb{a b:F}(h:cw a b<0):od a b:=by
 unfold cw at h;split at h
 .exact .inl (v8 h)
 .rename_i h1;exact .inr ⟨X5 (BP.1 h1),wd h⟩
theorem og{a b c:Ver}(h:zZ a b)(k:zZ b c):zZ a c:=by grind [zZ]
theorem oe{a b c:F}(h:od a b)(k:od b c):od a c:=by
 rcases h with h | ⟨h1,h2⟩
 .rcases k with k | ⟨k1,k2⟩
  .exact .inl (D3 h k)
  .exact .inl (k1▸h)
 .rcases k with k | ⟨k1,k2⟩
  .exact .inl (h1▸k)
  .exact .inr ⟨h1.trans k1,og h2 k2⟩
theorem Po{a b:F}(h:od a b)(k:DJ a=DJ b):False:=by
 unfold DJ at k;simp only[Sl.mk.injEq]at k;rcases h with h | ⟨_,h⟩<;>grind [CY,zZ]
-- a valid index
structure J7(r:F):Prop where
 maj:AR r.path=some r.ver.a
 val:Cf r.ver=true
 reqs:Bb r.reqs=0
theorem gP{r:F}(h:Eb r=0):J7 r:=by
 grind [Eb,J7.mk]
theorem Qe:∀{l:List F} {b:Option F},Em b l=0->(∀r∈l,J7 r)/\(l.Pairwise od/\∀c,b=some c->∀r∈l,od c r)
 | [],b,_=>⟨fun _ h=>(by cases h),.nil,fun _ _ _ h=>(by cases h)⟩
 |r::l,b,h=>by
  unfold Em at h;split at h
  .omega
  .rename_i h1;have hr:=gP (BP.1 h1);have go:Em (some r) l=0->(∀c,b=some c->od c r)->(∀z∈r::l,J7 z)/\((r::l).Pairwise od/\∀c,b=some c->∀z∈r::l,od c z):=fun h hc=>by
    obtain⟨i1,i2,i3⟩:=Qe h<;>grind [oe,List.Pairwise.cons]
   grind [wb,mZ]
theorem BN{l:List F}(h:AU l=0):(∀r∈l,J7 r)/\l.Pairwise od:=by
 grind [AU,Qe]
theorem VW{l:List F}(h:l.Pairwise od){a b:F}(ha:a∈l)(hb:b∈l)(hk:DJ a=DJ b):a=b:=by
 induction h<;>grind [Po]
theorem bK{a b:Ver}(ha:Cf a=true)(hb:Cf b=true)(h1:a.a=b.a)(h2:place a=place b):a=b:=by
 have:=Hz ha
 have:=Hz hb
 unfold place at h2;have e1:a.b=b.b:=I
 have e2:a.c=b.c:=I
 cases a<;>simp_all
theorem J7.plc{r:F}(h:J7 r):plc r.ver=place r.ver:=by grind [plc,J7.val]
theorem lW{l:List F}(h:(∀r∈l,J7 r)/\l.Pairwise od){a b:F}(ha:a∈l)(hb:b∈l)(h1:a.path=b.path)(h2:place a.ver=place b.ver):a=b:=by
 grind [VW,DJ,bK,J7.maj,J7.val]
theorem E9{r:F}(h:BG x y=some r):AU x=0/\r∈x/\DJ r=y:=by
 grind [BG]
structure vd(x:List F)(roots:List Rq)(s:List Sl):Prop where
 ix:AU x=0
 inc:B5 s=true
 fnd:∀y∈s,∃r,BG x y=some r/\r.yanked=false
 root:∀q∈roots,∃y,Bw s q.path=some y/\has q.set (place y.ver)=true
 req:∀y∈s,∀r,BG x y=some r->∀q∈r.reqs,∃z,Bw s q.path=some z/\has q.set (place z.ver)=true
theorem JK:∀{s:List Sl} {b:Option Ak1},K3 b s=true->s.Pairwise (fun a b=>E3 a.path b.path=true)/\∀c,b=some c->∀y∈s,E3 c y.path=true
 | [],_,_=>⟨.nil,fun _ _ _ h=>by cases h⟩
 |y::r,b,h=>by
  unfold K3 at h;simp only[Ao]at h;obtain⟨h1,h2⟩:=h;obtain⟨i1,i2⟩:=JK h2<;>grind [D3,List.Pairwise.cons]
theorem Ox(h:s.Pairwise (fun a b=>E3 a.path b.path=true))(hy:y∈s):Bw s y.path=some y:=by
 induction h<;>grind [Bw,ZN]
theorem TB(h:B5 s=true)(hy:y∈s):Bw s y.path=some y:=Ox (JK h).1 hy
theorem vd.valid(h:vd x roots s):F6 s:=fun y hy=>by
 obtain⟨r,h1,_⟩:=h.fnd y hy;obtain⟨_,h2,h3⟩:=E9 h1
 have:=((BN h.ix).1 r h2).val
 rw[<-h3];exact this
theorem If{x:List F}:∀{s:List Sl} {l:List F},KC x s=some l->l.map DJ=s/\(∀r∈l,BG x (DJ r)=some r)/\∀y∈s,∃r∈l,BG x y=some r
 | [],l,h=>by cases h<;>simp_all
 |y::s,l,h=>by
  unfold KC at h;split at h
  .cases h
  .rename_i r hr;split at h
   .cases h
   .rename_i l' hl;cases h;obtain⟨i1,i2,i3⟩:=If hl;have hk:=(E9 hr).2.2;simp_all
theorem RP:∀(l:List F) (p:Ak1),(l.find? fun r=>decide (r.path=p)).map DJ=Bw (l.map DJ) p
 | [],_=>rfl
 |r::l,p=>by
  unfold Bw;rw[Fu,A7,Fu];show _=(match decide (r.path=p)with | true=>some (DJ r) | false=>_);cases h:decide (r.path=p)with
  |true=>rfl
  |false=>exact RP l p
theorem L3{l:List F}(hx:AU x=0)(hl:KC x s=some l){q:Rq}(h:Dn l q=false):∃y,Bw s q.path=some y/\has q.set (place y.ver)=true:=by
 obtain⟨h1,h2,h3⟩:=If hl;unfold Dn at h;have hk:=RP l q.path;split at h
 .cases h
 .rename_i r hr;rw[hr,h1]at hk;refine⟨DJ r,hk.symm,?_⟩;have hm:=(E9 (h2 r (BX hr))).2.1;show has q.set (place r.ver)=true;rw[<-((BN hx).1 r hm).plc];simp_all
structure MQ(x:List F)(roots:List Rq)(s:List Sl)(l:List F):Prop where
 ix:AU x=0
 inc:B5 s=true
 sel:KC x s=some l
 rl:∀r∈l,∀q∈r.reqs,Dn l q=false
 rt:∀q∈roots,Dn l q=false
 min:l.length<=(Fi l (Ho l roots) roots []).length
theorem jm(h:Hc x roots s=0):∃l,MQ x roots s l:=by
 unfold Hc at h;split at h
 .cases h
 .rename_i h1;split at h
  .cases h
  .rename_i h2;split at h
   .cases h
   .rename_i l hl;split at h
    .cases h
    .rename_i h3;split at h
     .cases h
     .rename_i h4;split at h
      .cases h
      .rename_i h5;refine⟨l,BP.1 h1,by simp_all,hl,fun r hr q hq=>?_,fun q hq=>?_,by omega⟩
       all_goals grind
theorem MQ.sol{l:List F}(h:MQ x roots s l)(hy:∀y∈s,∀r,BG x y=some r->r.yanked=false):vd x roots s:=by
 obtain⟨h1,h2,h3⟩:=If h.sel;refine⟨h.ix,h.inc,fun y hm=>?_,fun q hq=>L3 h.ix h.sel (h.rt q hq),fun y hm r hr q hq=>?_⟩
 .grind
 .obtain⟨r',h4,h5⟩:=h3 y hm;rw[hr]at h5;cases h5;exact L3 h.ix h.sel (h.rl r h4 q hq)
-- soundness
theorem TX{q:Rq}(h:∃y,Bw s q.path=some y/\has q.set (place y.ver)=true):CP (Do q) (Bw s q.path)=false:=by
 grind [CP,Do,FZ]
theorem s5{l:List V}(hs:F6 s)(hn:CK l≠none)(hv:A3 l s=false):A3 (So l) s=false:=by
 grind [CR,So]
theorem d9{l:List V}(hs:F6 s){o:List V}(h:ne0 (So l)=some o)(hv:A3 l s=false):A3 o s=false:=by
 grind [ne0,Sp]
theorem jh:CK [Do q]≠none:=by
 grind [CK,Fl,Pj,I2,MV,Do]
theorem Wg{l:List α}{i:Int}{a:α}(h:E5 l i=some a):a∈l:=by
 grind [E5]
theorem aD(hs:vd x roots s){d:List (List V)}(hd:∀t∈d,A3 t s=false){i:Nf}{o:List V}(h:Cc x roots d i=some o):A3 o s=false:=by
 have hv:=hs.valid;unfold Cc at h;split at h
 .split at h
  .rw[BH]at h;obtain⟨q,hq,rfl⟩:=h;refine s5 hv (jh q) ?_;rw[Bg];intro hw
   have:=Bk.1 hw _ (AA.2 rfl)
   rw[show(Do q).path=q.path from rfl,TX (hs.root q (Wg hq))]at this;simp_all
  simp_all
 .split at h
  .split at h
   .split at h
    .cases h
    .rename_i r hr;split at h
     .cases h
     .rename_i q hq;refine d9 hv h ?_;rw[Bg];intro hw;have h1:=Bk.1 hw _ (Ad ..);have h2:=Bk.1 hw (Do q) aa1;rw[show(Do q).path=q.path from rfl]at h2;dsimp only at h1;cases hf:Bw s i.path with
      |none=>grind [CP]
      |some y=>
       rw[hf]at h1;unfold CP at h1;simp only[Ao]at h1;have hp:place y.ver=i.place:=by
        grind [has,BK]
       have hy:=Gx hf;have hyp:=Kg hf;obtain⟨r',e1,e2⟩:=hs.fnd y hy;obtain⟨_,m1,k1⟩:=E9 e1;have rI:r∈x:=BX hr;have rJ:=Gk hr;simp only[Ao,AP]at rJ;have EZ:=BN hs.ix
       have:r'=r:=by
        refine lW EZ m1 rI ?_ ?_
        .rw[rJ.1,<-hyp,<-k1];rfl
        .rw[<-(EZ.1 r rI).plc,rJ.2,<-hp,<-k1];rfl
       subst this
       have:=hs.req y hy r' e1 q (Wg hq)
       grind [TX]
   simp_all
  .split at h
   .split at h
    .refine d9 hv h ?_;rw[Bg];intro hw;have h1:=Bk.1 hw _ (AA.2 rfl);dsimp only at h1;cases hf:Bw s i.path with
     |none=>grind [CP]
     |some y=>
      rw[hf]at h1;unfold CP at h1;simp only[Ao]at h1;have hy:=Gx hf;have hyp:=Kg hf;obtain⟨r,e1,e2⟩:=hs.fnd y hy;obtain⟨_,m1,k1⟩:=E9 e1;have EZ:=BN hs.ix;have h1:=h1.2;rw[FZ]at h1;have nE:=JQ (hv y hy)
      have:has (BA x i.path) (place y.ver)=true:=by
       unfold BA;rw[Hp];unfold has;simp only[nE,decide_true,Bool.true_and,Cs,Ap,C3];refine⟨(plc r.ver,plc r.ver+1),⟨r,⟨?_,by simp_all⟩,rfl⟩,?_⟩
       .unfold L5;simp only[hs.ix,ne_eq,not_true,if_false,C3,m1,true_and,AP];rw[<-hyp,<-k1];rfl
       .rw[(EZ.1 r m1).plc,<-k1];rw[D5];exact⟨B6 _,by show place r.ver<place r.ver+1;omega⟩
      simp_all
    simp_all
   .split at h
    .split at h
     .split at h
      .rename_i a b ha hb;split at h
       .rename_i h0;cases h;rw[Bg];intro hw;rcases WD hv (o:=(Bc a b i.path).1) (UV rfl h0) hw with hw | hw<;>grind [Wg]
       simp_all
      simp_all
     simp_all
    simp_all
theorem M0{x:List F}{roots:List Rq}{s:List Sl}(hs:vd x roots s):∀{l:List Nf} {d d' : List (List V)},(∀t∈d,A3 t s=false)->BJ x roots l d=some d'->∀t∈d',A3 t s=false
 | [],d,d',hd,h=>by cases h;exact hd
 |i::l,d,d',hd,h=>by
  unfold BJ at h;split at h
  .cases h
  .rename_i o ho;refine M0 hs (fun t ht=>?_) h
   grind [aD]
theorem De{α:Type}[DecidableEq α]:∀{l m:List α},l.Nodup->(∀x∈l,x∈m)->l.length<=m.length
 | [],_,_,_=>Ai _
 |a::l,m,hn,hs=>by
  rw[Gm]at hn;have ha:a∈m:=hs a (Ad ..)
  have:=De (l:=l) (m:=m.erase a) hn.2 fun x hx=>by
   grind
  grind
theorem eH[DecidableEq α]{l m:List α}(hn:l.Nodup)(hs:∀x∈l,x∈m)(hl:m.length<=l.length):∀x∈m,x∈l:=fun x hx=>by
 apply AH;intro Uw
 have:=De (m:=m.erase x) hn fun y hy=>(List.mem_erase_of_ne (a:=y) (b:=x) (fun e=>Uw aa0)).2 (hs y hy)
 grind
abbrev Xg(s:List Sl):Prop:=s.Pairwise (fun a b=>E3 a.path b.path=true)
theorem iz(h:Xg s):(s.map (·.path)).Nodup:=by
 grind [ZN]
-- the next path
theorem Kr(before:List Sl):∀{l:List Rq} {acc:Option Ak1},(∀p,acc=some p->Cb before p=false) ->
  (∀p,CD before l acc=some p->Cb before p=false/\(acc=some p\/∃q∈l,q.path=p))/\(CD before l acc=none->acc=none/\∀q∈l,Cb before q.path=true)
 | [],acc,ha=>⟨fun p h=>⟨ha p h,.inl h⟩,fun h=>⟨h,fun _ h=>(by cases h)⟩⟩
 |q::l,acc,ha=>by
  unfold CD
  have key:∀mG,(∀p,mG=some p->Cb before p=false)->(∀p,mG=some p->acc=some p\/q.path=p)->(mG=none->acc=none/\Cb before q.path=true) ->
    (∀p,CD before l mG=some p->Cb before p=false/\(acc=some p\/∃q'∈q::l,q'.path=p))/\(CD before l mG=none->acc=none/\∀q'∈q::l,Cb before q'.path=true):=by
   intro mG h1 h2 h3;obtain⟨i1,i2⟩:=Kr before (l:=l) h1<;>grind
  cases hb:Cb before q.path<;>grind
theorem Iu{needs:List Rq}{before:List Sl}{p:Ak1}(h:Gz needs before=some p):Cb before p=false/\∃q∈needs,q.path=p:=by
 obtain⟨h1,h2⟩:=(Kr before (l:=needs) (acc:=none) fun _ e=>by cases e).1 p h<;>simp_all
theorem Wc{needs:List Rq}{before:List Sl}(h:Gz needs before=none):∀q∈needs,Cb before q.path=true:=
 ((Kr before (l:=needs) (acc:=none) fun _ e=>by cases e).2 h).2
theorem LR{p:Ak1}:Cb s p=true↔∃y∈s,y.path=p:=by grind [Cb]
theorem EL{p:Ak1}:Cb s p=true↔p∈s.map (·.path):=by grind [LR]
abbrev Ng(v:gg):Sl:=DJ v.rel
structure zo(x:List F)(s:List Sl)(before:List Sl)(needs:List Rq)(vs:List gg):Prop where
 closed:∀q∈needs,Cb (before++vs.map Ng) q.path=true
 closedR:∀v∈vs,∀q∈v.rel.reqs,Cb (before++vs.map Ng) q.path=true
 mem:∀v∈vs,Ng v∈s/\BG x (Ng v)=some v.rel
 nodup:((before++vs.map Ng).map (·.path)).Nodup
theorem tY{x:List F}{s:List Sl}:∀{n:Nat} {before:List Sl} {needs:List Rq},(before.map (·.path)).Nodup->(∀y∈before,y∈s)->s.length+1<=n+before.length->(ED x s n before needs).2=true ->
  zo x s before needs (ED x s n before needs).1
 |0,before,needs,h1,h2,h3,_=>by
  exfalso
  have:=De (m:=s.map (·.path)) h1 fun p hp=>by
   grind
  grind
 |n+1,before,needs,h1,h2,h3,h4=>by
  unfold ED at h4⊢;cases hp:Gz needs before with
  |none=>grind [Wc,zo.mk]
  |some p=>
   rw[hp]at h4;dsimp only at h4⊢;cases hf:Bw s p with
   |none=>simp_all
   |some y=>
    rw[hf]at h4;dsimp only at h4⊢;cases hr:BG x y with
    |none=>simp_all
    |some r=>
     rw[hr]at h4;dsimp only at h4⊢;obtain⟨g1,g2⟩:=Iu hp;have hy:=Gx hf;have hyp:=Kg hf;have hk:DJ r=y:=(E9 hr).2.2;have ih:=tY (x:=x) (s:=s) (n:=n) (before:=before++[y]) (needs:=needs++r.reqs) (by
       grind [EL])
      (fun z hz=>by
       grind) aa2 h4
     have e:before++(⟨before,needs,r⟩::(ED x s n (before++[y]) (needs++r.reqs)).1).map Ng=before++[y]++(ED x s n (before++[y]) (needs++r.reqs)).1.map Ng:=by
      simp_all
     refine⟨fun q hq=>?_,fun v hv q hq=>?_,fun v hv=>?_,?_⟩
     all_goals grind [zo.closed,zo.closedR,zo.mem,zo.nodup]
theorem WX(h:(visits x roots s).2=true):zo x s [] roots (visits x roots s).1:=tY aa1 (fun _ h=>by cases h) aa1 h
theorem Qh{x:List F}{s:List Sl}(hs:∀y∈s,∃r,BG x y=some r)(hq:∀y∈s,∀r,BG x y=some r->∀q∈r.reqs,∃z,Bw s q.path=some z) :
  ∀{n:Nat} {before:List Sl} {needs:List Rq},(∀q∈needs,∃z,Bw s q.path=some z)->(ED x s n before needs).2=true
 |0,_,_,_=>rfl
 |n+1,before,needs,hn=>by
  unfold ED;cases hp:Gz needs before with
  |none=>rfl
  |some p=>
   dsimp only;obtain⟨_,q,q1,q2⟩:=Iu hp;obtain⟨z,hz⟩:=hn q q1;rw[q2]at hz;rw[hz];dsimp only;obtain⟨r,hr⟩:=hs z (Gx hz);rw[hr];dsimp only;refine Qh hs hq fun q ax=>?_
   grind [Gx]
-- what is needed
theorem Sj{l:List F}{C:List Ak1}(hC:∀r∈l,r.path∈C->∀q∈r.reqs,q.path∈C):∀{n:Nat} {t:List Rq} {d:List Ak1},(∀q∈t,q.path∈C)->(∀p∈d,p∈C)->∀p∈Fi l n t d,p∈C
 |0,_,_,_,hd=>by grind [Fi]
 |_+1,[],_,_,hd=>by grind [Fi]
 |n+1,q::t,d,ht,hd=>by
  unfold Fi;split
  .exact Sj hC (fun q hq=>ht q (Aj _ hq)) hd
  .refine Sj hC (fun q' hq=>?_) fun p hp=>?_
   all_goals grind [ES]
theorem Nm{l:List F}:∀{n:Nat} {t:List Rq} {d:List Ak1},d.Nodup->(Fi l n t d).Nodup
 |0,_,_,hd=>by grind [Fi]
 |_+1,[],_,hd=>by grind [Fi]
 |n+1,q::t,d,hd=>by
  unfold Fi;split
  .exact Nm hd
  .rename_i h;refine Nm ?_
   grind
theorem gT{l:List F}(h:MQ x roots s l){C:List Ak1}(hn:C.Nodup)(hr:∀q∈roots,q.path∈C)(hC:∀y∈s,∀r,BG x y=some r->y.path∈C->∀q∈r.reqs,q.path∈C)(hs:∀p∈C,p∈s.map (·.path)):(∀y∈s,y.path∈C)/\C.length=s.length:=by
 obtain⟨h1,h2,h3⟩:=If h.sel;have xi:=Sj (l:=l) (C:=C) (fun r hr hp q hq=>by
  have hk:DJ r∈s:=aa2
  grind [DJ]) (n:=Ho l roots) (t:=roots) (d:=[]) hr (fun _ h=>by cases h)
 have CN:=De (Nm (l:=l) (n:=Ho l roots) (t:=roots) GX) xi;have hl:l.length=s.length:=aa2
 have ApB:=h.min;have AjZ:=eH hn hs aa2;refine⟨fun y hy=>AjZ _ (Ap.2 ⟨y,hy,rfl⟩),?_⟩
 have:=De hn hs
 grind
theorem MQ.fnd{l:List F}(h:MQ x roots s l):∀y∈s,∃r,BG x y=some r:=fun y hy=>by
 obtain⟨r,_,h⟩:=(If h.sel).2.2 y hy<;>simp_all
theorem MQ.req{l:List F}(h:MQ x roots s l):∀y∈s,∀r,BG x y=some r->∀q∈r.reqs,∃z,Bw s q.path=some z/\has q.set (place z.ver)=true:=fun y hy r hr q hq=>by
 obtain⟨r',h4,h5⟩:=(If h.sel).2.2 y hy;rw[hr]at h5;cases h5;exact L3 h.ix h.sel (h.rl r h4 q hq)
theorem MQ.root{l:List F}(h:MQ x roots s l):∀q∈roots,∃z,Bw s q.path=some z/\has q.set (place z.ver)=true:=fun q hq=>L3 h.ix h.sel (h.rt q hq)
theorem MQ.visits{x:List F}{roots:List Rq}{s:List Sl}{l:List F}(h:MQ x roots s l):(visits x roots s).2=true:=
 Qh h.fnd (fun y hy r hr q hq=>let ⟨z,hz,_⟩:=h.req y hy r hr q hq;⟨z,hz⟩) fun q hq=>let ⟨z,hz,_⟩:=h.root q hq;⟨z,hz⟩
theorem MQ.all{l:List F}(h:MQ x roots s l):(∀y∈s,∃v∈(Go.Eng.visits x roots s).1,Ng v=y)/\(Go.Eng.visits x roots s).1.length=s.length:=by
 have hr:=WX h.visits;have hu:∀{y:Sl},y∈s->Bw s y.path=some y:=TB h.inc;have key:∀y∈s,y.path∈((Go.Eng.visits x roots s).1.map Ng).map (·.path)->∃v∈(Go.Eng.visits x roots s).1,Ng v=y:=fun y hy hp=>by
  obtain⟨z,hz,e⟩:=Ap.1 hp;obtain⟨v,hv,rfl⟩:=Ap.1 hz;refine⟨v,hv,?_⟩;have h1:=hu (hr.mem v hv).1;simp_all
 have:=gT h (C:=((Go.Eng.visits x roots s).1.map Ng).map (·.path)) (by simpa using hr.nodup) (fun q hq=>by have:=hr.closed q hq;grind [EL]) (fun y hy r hrl hp q hq=>by
  obtain⟨v,hv,e⟩:=key y hy hp;have h1:=(hr.mem v hv).2;rw[e,hrl]at h1;cases h1
  have:=hr.closedR v hv q hq;grind [EL]) (fun p hp=>by
  obtain⟨z,hz,rfl⟩:=Ap.1 hp;obtain⟨v,hv,rfl⟩:=Ap.1 hz;exact Ap.2 ⟨_,(hr.mem v hv).1,rfl⟩)
 grind
-- skips
theorem ZZ{t:List V}{b:List Sl}(hs:B5 s=true)(hb:∀y∈b,y∈s)(h:BW t b=true):A3 t s=true:=by
 unfold BW at h;simp only[Ao,Fp,Td]at h;obtain⟨h1,h2⟩:=h;rw[Bk]at h1⊢;intro u hu
 have:=h2 u hu
 simp only[Tc]at this;rw[Kj]at this;cases hf:Bw b u.path<;>grind [Bw,TB]
end Go.Eng
