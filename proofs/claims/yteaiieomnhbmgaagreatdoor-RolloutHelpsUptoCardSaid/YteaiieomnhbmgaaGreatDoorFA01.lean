/- Lemmas 1. -/
import Derived.Test.YteaiieomnhbmgaaGreatDoorFA00
namespace Go.Eng
variable {a b:ByteArray}{lo:Option ByteArray}{α:Type}(c:UInt8)(p:ByteArray)
def B4(p:Int)(s:Int×Int):Bool:=decide (s.1<=p)&&decide (p<s.2)
def has(s:List (Int×Int))(p:Int):Bool:=decide (0<=p)&&decide (p<1000000)&&s.any (B4 p)
abbrev Bz:=List (Int×Int)
def Fe(lo:Int):Bz->Prop
 | []=>True
 |y::r=>lo<=y.1/\y.1<y.2/\y.2<=1000000/\Fe (y.2+1) r
abbrev E5(l:Bz):Prop:=Fe 0 l
def Yz(x:Int×Int):Bz->Bz
 | []=>[x]
 |y::r=>if x.2<y.1 then x::y::r else if y.2<x.1 then y::Yz x r else Yz (min x.1 y.1,max x.2 y.2) r
def Ju(x:Int×Int):Int×Int:=(max x.1 0,min x.2 1000000)
def canon:Bz->Bz
 | []=>[]
 |x::r=>if(Ju x).1<(Ju x).2 then Yz (Ju x) (canon r)else canon r
def Mp(at_:Int):Bz->Bz
 | []=>if at_<1000000 then [(at_,1000000)]else []
 |y::r=>if at_<y.1 then(at_,y.1)::Mp y.2 r else Mp y.2 r
def EX(s:Bz):Bz:=Mp 0 (canon s)
def Sp(l:List Bz):Bz:=canon l.flatten
def RO(l:List Bz):Bz:=EX (l.map EX).flatten
def Rj(a b:Bz):Bz:=Sp [a,b]
def QG(a b:Bz):Bz:=RO [a,b]
theorem Fe.mono{lo IJ:Int}:∀{l:Bz},Fe lo l->IJ<=lo->Fe IJ l
 | [],_,_=>trivial
 |_::_,⟨h1,h2,h3,h4⟩,h=>⟨Int.le_trans h h1,h2,h3,h4⟩
theorem Fe.low{lo:Int}:∀{l:Bz},Fe lo l->∀y∈l,lo<=y.1/\y.1<y.2/\y.2<=1000000
 |y::r,⟨h1,h2,h3,h4⟩,z,hz=>by
  rcases Ay.1 hz with rfl|hz
  .exact⟨h1,h2,h3⟩
  .have:=h4.low z hz
   exact⟨by omega,this.2.1,this.2.2⟩
theorem D6{p:Int}{s:Int×Int}:B4 p s=true↔s.1<=p/\p<s.2:=by simp[B4]
theorem NT{lo:Int}{l:Bz}(h:Fe lo l){p:Int}(hp:l.any (B4 p)=true):lo<=p:=by
 obtain⟨y,hy,h2⟩:=Ba.1 hp
 have:=h.low y hy
 have:=D6.1 h2
 omega
theorem lI{lo:Int}{l:Bz}(h:Fe lo l){p:Int}(hp:l.any (B4 p)=true):p<1000000:=by
 obtain⟨y,hy,h2⟩:=Ba.1 hp
 have:=h.low y hy
 have:=D6.1 h2
 omega
theorem OU:∀(l:Bz) {lo:Int} {x:Int×Int},Fe lo l->lo<=x.1->x.1<x.2->x.2<=1000000->Fe lo (Yz x l)
 | [],lo,x,_,h1,h2,h3=>⟨h1,h2,h3,trivial⟩
 |y::r,lo,x,⟨g1,g2,g3,g4⟩,h1,h2,h3=>by
  unfold Yz;split
  .exact⟨h1,h2,h3,by omega,g2,g3,g4⟩
  .split
   .exact⟨g1,g2,g3,OU r g4 ch h2 h3⟩
   .refine OU r (g4.mono ch) ?_ ?_ ?_<;>dsimp only<;>omega
theorem PP:∀(l:Bz) {lo:Int} {x:Int×Int} (p:Int),Fe lo l->x.1<x.2->(Yz x l).any (B4 p)=(B4 p x||l.any (B4 p))
 | [],lo,x,p,_,_=>by simp[Yz]
 |y::r,lo,x,p,⟨g1,g2,g3,g4⟩,h2=>by
  unfold Yz;split
  .simp
  .split
   .rw[BM,PP r p g4 h2,BM,<-Bool.or_assoc,<-Bool.or_assoc,Bool.or_comm (B4 p y)]
   .rw[PP r p g4 (by dsimp only;omega),BM,<-Bool.or_assoc]
    congr 1
    simp only[B4];rw[Ca];simp only[Af,CQ,AA];omega
theorem CE:∀s:Bz,E5 (canon s)
 | []=>trivial
 |x::r=>by
  unfold canon;split
  .rename_i h;refine OU _ (CE r) ?_ h ?_<;>simp only[Ju]<;>omega
  .exact CE r
theorem LQ:∀(s:Bz) (p:Int),(canon s).any (B4 p)=has s p
 | [],p=>by simp[has,canon]
 |x::r,p=>by
  have ih:=LQ r p;unfold canon;have hx:B4 p (Ju x)=(decide (0<=p)&&decide (p<1000000)&&B4 p x):=by
   simp only[B4,Ju];rw[Ca];simp only[Af,AA,Int.max_le,Int.lt_min];omega
  split
  .rename_i h;rw[PP _ p (CE r) h,ih,hx];simp only[has,BM];cases decide (0<=p)<;>cases decide (p<1000000)<;>simp
  .rename_i h;rw[ih];simp only[has,BM]
   have:B4 p (Ju x)=false:=by
    rw[AM];intro h3
    have:=D6.1 h3
    omega
   rw[this]at hx;cases h1:decide (0<=p)<;>cases h2:decide (p<1000000)<;>simp_all
theorem IG{l:Bz}(h:E5 l)(p:Int):has l p=l.any (B4 p):=by
 unfold has;cases e:l.any (B4 p)with
 |false=>simp
 |true=>have h1:0<=p:=NT h e;have h2:=lI h e;simp[h1,h2]
theorem If(s:Bz)(p:Int):has (canon s) p=has s p:=by
 rw[IG (CE s),LQ]
theorem Ot:∀{a b:Bz} {lo:Int},Fe lo a->Fe lo b->(∀p,a.any (B4 p)=b.any (B4 p))->a=b
 | [],[],_,_,_,_=>rfl
 | [],z::s,_,_,⟨g1,g2,g3,g4⟩,h=>by
  have:=h z.1
  rw[BM,D6.2 ⟨Bs _,g2⟩]at this;simp at this
 |y::r,[],_,⟨g1,g2,g3,g4⟩,_,h=>by
  have:=h y.1
  rw[BM,D6.2 ⟨Bs _,g2⟩]at this;simp at this
 |y::r,z::s,lo,⟨f1,f2,f3,f4⟩,⟨g1,g2,g3,g4⟩,h=>by
  have below:∀{x:Int×Int} {t:Bz} {p:Int},Fe (x.2+1) t->(x::t).any (B4 p)=true->p<=x.2->x.1<=p/\p<x.2:=fun {x t p} ht hp Is=>by
   rw[BM,CQ]at hp;rcases hp with hp|hp
   .exact D6.1 hp
   .have:=NT ht hp;omega
  have low:∀{x:Int×Int} {t:Bz} {p:Int},x.1<x.2->Fe (x.2+1) t->(x::t).any (B4 p)=true->x.1<=p:=fun {x t p} hx ht hp=>by
   rw[BM,CQ]at hp;rcases hp with hp|hp
   .exact(D6.1 hp).1
   .have:=NT ht hp;omega
  have cov:∀{x:Int×Int} {t:Bz} {p:Int},x.1<=p->p<x.2->(x::t).any (B4 p)=true:=fun {x t p} h1 h2=>by
   rw[BM,D6.2 ⟨h1,h2⟩,Bool.true_or]
  have e1:y.1=z.1:=by
   have a1:=low f2 f4 ((h z.1).trans (cov (Bs _) g2));have a2:=low g2 g4 ((h y.1).symm.trans (cov (Bs _) f2));omega
  have e2:y.2=z.2:=by
   rcases Int.lt_trichotomy y.2 z.2 with hl|he|hl
   .have:=below f4 ((h y.2).trans (cov ch hl)) (Bs _);omega
   .exact he
   .have:=below g4 ((h z.2).symm.trans (cov ch hl)) (Bs _);omega
  have e:y=z:=Prod.ext e1 e2;subst e
  congr 1
  refine Ot f4 g4 fun p=>?_;have hp:=h p;simp only[BM]at hp;cases hs:B4 p y with
  |false=>rw[hs,Na,Na]at hp;exact hp
  |true=>
   have:=D6.1 hs
   have n:∀{t:Bz},Fe (y.2+1) t->t.any (B4 p)=false:=fun {t} ht=>by
    rw[AM];intro hx;have:=NT ht hx;omega
   rw[n f4,n g4]
theorem IB{a b:Bz}(ha:E5 a)(hb:E5 b)(h:∀p,has a p=has b p):a=b:=
 Ot ha hb fun p=>by rw[<-IG ha,<-IG hb,h]
theorem UB{a s:Bz}(ha:E5 a)(h:∀p,has a p=has s p):a=canon s:=
 IB ha (CE s) fun p=>by rw[h,If]
theorem Ku{a:Bz}(ha:E5 a):canon a=a:=(UB ha fun _=>rfl).symm
theorem Ny{s:Bz}{p:Int}(h:has s p=true):0<=p/\p<1000000:=by
 unfold has at h;simp only[Af,AA]at h;exact h.1
def M7(p:Int):Bool:=decide (0<=p)&&decide (p<1000000)
theorem Mq:∀(l:Bz) {at_ lo:Int},0<=at_->Fe lo l->lo<=at_+1->at_<=lo->Fe at_ (Mp at_ l)/\∀p,(Mp at_ l).any (B4 p)=(decide (at_<=p)&&decide (p<1000000)&&!l.any (B4 p))
 | [],at_,lo,h0,_,h1,h2=>by
  unfold Mp;split
  .exact⟨⟨Bs _,by dsimp only;omega,Bs _,trivial⟩,fun p=>by simp[B4]⟩
  .refine⟨trivial,fun p=>?_⟩
   have:(decide (at_<=p)&&decide (p<1000000))=false:=by
    rw[AM];simp only[XX,Af,AA];omega
   simp[this]
 |y::r,at_,lo,h0,⟨g1,g2,g3,g4⟩,h1,h2=>by
  have ih:=Mq r (at_:=y.2) ch g4 (Bs _) ch;have key:∀p,(decide (at_<=p)&&decide (p<y.1)||(Mp y.2 r).any (B4 p))=(decide (at_<=p)&&decide (p<1000000)&&!(y::r).any (B4 p)):=fun p=>by
   rw[ih.2,BM];cases hr:r.any (B4 p)with
   |true=>
    have:=NT g4 hr
    have a:decide (p<y.1)=false:=Ae ch;simp[a]
   |false=>
    rw[Ca];simp only[B4,Af,CQ,AA,CK,E3,MO,HI,Bool.not_false,and_true];omega
  unfold Mp;split
  .rename_i h;refine⟨⟨Bs _,h,by dsimp only;omega,ih.1 |> fun c=>?_⟩,fun p=>?_⟩
   .dsimp only;cases e:Mp y.2 r with
    |nil=>trivial
    |cons z s=>
     rw[e]at c;exact⟨by have:=c.1;omega,c.2⟩
   .rw[BM,<-key];rfl
  .rename_i h;refine⟨ih.1.mono ch,fun p=>?_⟩;rw[<-key]
   have:(decide (at_<=p)&&decide (p<y.1))=false:=by
    rw[AM];simp only[XX,Af,AA];omega
   rw[this,Na]
theorem Ia(s:Bz):E5 (EX s):=by
 unfold EX;exact(Mq _ (Bs _) (CE s) ch (Bs _)).1
theorem F8(s:Bz)(p:Int):has (EX s) p=(M7 p&&!has s p):=by
 rw[IG (Ia s)];unfold EX;rw[(Mq _ (Bs _) (CE s) ch (Bs _)).2,LQ];rfl
theorem dX(a b:Bz)(p:Int):has (a++b) p=(has a p||has b p):=by
 simp only[has,FW];cases decide (0<=p)<;>cases decide (p<1000000)<;>simp
theorem Nx:∀(l:List Bz) (p:Int),has l.flatten p=l.any fun s=>has s p
 | [],p=>by simp[has]
 |s::l,p=>by rw[BE,dX,Nx l p,BM]
theorem U5(l:List Bz)(p:Int):has (Sp l) p=l.any fun s=>has s p:=by
 unfold Sp;rw[If,Nx]
theorem ZJ(l:List Bz):E5 (Sp l):=CE _
theorem Zl(l:List Bz):E5 (RO l):=Ia _
theorem U4(l:List Bz)(p:Int):has (RO l) p=(M7 p&&l.all fun s=>has s p):=by
 unfold RO;rw[F8,Nx,List.any_map];cases h:M7 p with
 |false=>rfl
 |true=>
  rw[E4,E4,List.not_any_eq_all_not]
  congr 1
  funext s
  simp[F8,h]
theorem cP(a b:Bz):E5 (Rj a b):=CE _
theorem SX(a b:Bz):E5 (QG a b):=Ia _
theorem jC(a b:Bz)(p:Int):has (Rj a b) p=(has a p||has b p):=by
 unfold Rj;rw[U5];simp
theorem XJ(a b:Bz)(p:Int):has (QG a b) p=(has a p&&has b p):=by
 unfold QG;rw[U4];simp only[List.all_cons,List.all_nil,Bool.and_true];cases h:has a p with
 |false=>simp
 |true=>have:=Ny h;simp[M7,this]
theorem eu(s:Bz):QG s s=canon s:=IB (SX _ _) (CE _) fun p=>by rw[XJ,If,Bool.and_self]
theorem WG{s:Bz}:canon s=[]↔∀p,has s p=false:=by
 constructor
 .intro h p;rw[<-If,h];simp[has]
 .intro h;exact IB (CE s) (b:=[]) trivial fun p=>by rw[If,h p];simp[has]
theorem RS{s:Bz}(hs:E5 s):s=[]↔∀p,has s p=false:=by
 rw[<-WG,Ku hs]
def lk(l:List Bz)(p:Int):Nat:=l.countP fun s=>has s p
theorem UA:∀{l:Bz} {lo:Int},Fe lo l->lo<=1000000->(l.length:Int)<=1000000-lo
 | [],lo,_,h=>by simp;omega
 |y::r,lo,⟨g1,g2,g3,g4⟩,h=>by
  by_cases h3:y.2+1<=1000000
  .have:=UA g4 h3
   simp only[Al];omega
  .cases r with
   |nil=>simp;omega
   |cons z s=>have:=g4.1;have:=g4.2.1;have:=g4.2.2.1;omega
theorem I4{l:Bz}(h:E5 l):l.length<=1000000:=by have:=UA h ch;omega
structure Ver where
 (a b c:Int)
variable (v:Ver)
structure Rq where
 path:ByteArray
 set:List (Int×Int)
variable {roots:List Rq}(q:Rq)
structure Rl where
 path:ByteArray
 ver:Ver
 reqs:List Rq
 (arch ifc cert:ByteArray)
 yanked:Bool
variable (x:List Rl)(r:Rl)
structure Sl where
 path:ByteArray
 ver:Ver
variable {s:List Sl}{y:Sl}
structure Tm where
 path:ByteArray
 absent:Bool
 set:List (Int×Int)
variable {d:List (List Tm)}(l:List Tm)(u t:Tm)
structure Nf where
 kind:Int
 path:ByteArray
 (place number left right:Int)
variable {i:Nf}
structure Sk where
 path:ByteArray
 (place inf:Int)
structure An where
 found:Bool
 sel:List Sl
 infs:List Nf
 skips:List Sk
instance:DecidableEq Ver:=fun x y=>decidable_of_iff (x.a=y.a/\x.b=y.b/\x.c=y.c) ⟨fun⟨h1,h2,h3⟩=>by cases x;cases y;simp_all,fun h=>by subst h;exact⟨rfl,rfl,rfl⟩⟩
instance:DecidableEq Sl:=fun x y=>decidable_of_iff (x.path=y.path/\x.ver=y.ver) ⟨fun⟨h1,h2⟩=>by cases x;cases y;simp_all,fun h=>by subst h;exact⟨rfl,rfl⟩⟩
theorem wC{x y:Tm}(h1:x.path=y.path)(h2:x.absent=y.absent)(h3:x.set=y.set):x=y:=by cases x;cases y;simp_all
def okPart(n:Int):Prop:=0<=n/\n<=999
instance (n:Int):Decidable (okPart n):=by unfold okPart;infer_instance
def Ci:Bool:=decide (okPart v.a)&&decide (okPart v.b)&&decide (okPart v.c)
def place:Int:=1000*v.b+v.c
def plc:Int:=if Ci v then place v else 0
def B5(s:List Sl)(p:ByteArray):Option Sl:=s.find? fun x=>decide (x.path=p)
def Ho(s:List Sl):Bool:=
 match s.find? (fun x=>decide (x.path=t.path))with
 |none=>t.absent
 |some x=>Ci x.ver&&has t.set (place x.ver)
def Db(s:List Sl)(p:ByteArray):Bool:=s.any fun x=>decide (x.path=p)
def Bm(s:List Sl):Bool:=l.all fun t=>Ho t s
def Dh(s:List Sl):Bool:=Bm l s&&!l.any fun t=>!Db s t.path
def Ja:List UInt8->List UInt8->Bool
 | [],[]=>false
 | [],_::_=>true
 |_::_,[]=>false
 |a::x,b::y=>decide (a<b)||(decide (a=b)&&Ja x y)
def Ed(a b:ByteArray):Bool:=Ja a.data.toList b.data.toList
theorem S0:∀x,Ja x x=false
 | []=>rfl
 |a::x=>by
  unfold Ja;simp[S0 x]
theorem Pn:∀{x y z},Ja x y=true->Ja y z=true->Ja x z=true
 | [],[],_,h,_=>by simp[Ja]at h
 | [],_::_,[],_,h=>by simp[Ja]at h
 | [],_::_,_::_,_,_=>rfl
 |_::_,[],_,h,_=>by simp[Ja]at h
 |_::_,_::_,[],_,h=>by simp[Ja]at h
 |a::x,b::y,c::z,h1,h2=>by
  unfold Ja at *
  simp only[CQ,Af,AA]at *
  rcases h1 with h1|⟨rfl,h1⟩
  .rcases h2 with h2|⟨rfl,h2⟩
   .exact .inl (UInt8.lt_trans h1 h2)
   .exact .inl h1
  .rcases h2 with h2|⟨rfl,h2⟩
   .exact .inl h2
   .exact .inr ⟨rfl,Pn h1 h2⟩
theorem Vq:∀{x y},Ja x y=false->Ja y x=false->x=y
 | [],[],_,_=>rfl
 | [],_::_,h,_=>by simp[Ja]at h
 |_::_,[],_,h=>by simp[Ja]at h
 |a::x,b::y,h1,h2=>by
  unfold Ja at *
  simp only[Bool.or_eq_false_iff,MO,HI]at *
  have e:a=b:=by
   have l1:=UInt8.not_lt.1 h1.1;have l2:=UInt8.not_lt.1 h2.1;exact UInt8.le_antisymm l2 l1
  subst e
  have:=Vq (x:=x) (y:=y) (by simpa using h1.2) (by simpa using h2.2)
  rw[this]
theorem AbW(h:a.data.toList=b.data.toList):a=b:=by
 cases a;cases b;simp only[ByteArray.mk.injEq];exact JG.1 h
theorem Dm(a:ByteArray):Ed a a=false:=S0 _
theorem D8{c:ByteArray}(h:Ed a b=true)(k:Ed b c=true):Ed a c=true:=Pn h k
theorem HQ(h:Ed a b=false)(k:Ed b a=false):a=b:=AbW (Vq h k)
theorem I3(h:Ed a b=true):a≠b:=fun e=>by subst e;rw[Dm]at h;cases h
theorem NV(h:Ed a b=true):Ed b a=false:=by
 rw[AM];intro k;have:=D8 h k;rw[Dm]at this;cases this
def MS:Tm:=⟨t.path,t.absent,canon t.set⟩
def HF:Tm:=⟨u.path,u.absent&&t.absent,QG u.set t.set⟩
def Pk(t:Tm):List Tm->List Tm
 | []=>[MS t]
 |u::r=>if Ed u.path t.path then u::Pk t r else if u.path=t.path then HF u t::r else MS t::u::r
def Ft:List Tm:=l.foldl (fun acc t=>Pk t acc) []
def Jd:Bool:=!t.absent&&t.set.isEmpty
def Hd:Bool:=t.absent&&decide (t.set=[(0,1000000)])
def Dg:Option (List Tm):=if(Ft l).any Jd then none else some ((Ft l).filter fun t=>!Hd t)
def RV:List Tm:=(Dg l).getD []
def D1:Tm:=⟨q.path,true,EX q.set⟩
def KN:List Tm:=RV [D1 q]
def EH(path:ByteArray)(pl:Int)(q:Rq):List Tm:=RV [⟨path,false,[(pl,pl+1)]⟩,D1 q]
def IP(path:ByteArray)(x5:Bz):List Tm:=RV [⟨path,false,EX x5⟩]
def DH(p:ByteArray):Option Tm:=l.find? fun t=>decide (t.path=p)
def Gg(p:ByteArray):List Tm:=l.filter fun t=>!decide (t.path=p)
def DD(a b:Tm):Tm:=⟨a.path,a.absent||b.absent,Rj a.set b.set⟩
def FN(p:ByteArray):Option (Tm×List Tm):=match Dg l with
 |none=>none
 |some c=>match DH c p with
  |none=>none
  |some t=>some (t,Gg c p)
def B2(a b:List Tm)(p:ByteArray):List Tm×Int:=
 match FN a p,FN b p with
 |some (t,r),some (u,m)=>match Dg (r++m++[DD t u])with
  |some o=>(o,0)
  |none=>([],8)
 |_,_=>([],1)
def Cv(lo:Option ByteArray):List Tm->Prop
 | []=>True
 |t::r=>(∀p,lo=some p->Ed p t.path=true)/\E5 t.set/\Cv (some t.path) r
theorem Cv.weak:∀{l:List Tm},Cv lo l->Cv none l
 | [],_=>trivial
 |_::_,⟨_,h2,h3⟩=>⟨fun _ h=>(by cases h),h2,h3⟩
theorem Cv.low{p:ByteArray}:∀{l:List Tm},Cv (some p) l->∀t∈l,Ed p t.path=true
 |t::r,⟨h1,h2,h3⟩,u,hu=>by
  rcases Ay.1 hu with rfl|hu
  .exact h1 p rfl
  .exact D8 (h1 p rfl) (h3.low u hu)
theorem Cv.canon{lo:Option ByteArray}:∀{l:List Tm},Cv lo l->∀t∈l,E5 t.set
 |t::r,⟨h1,h2,h3⟩,u,hu=>by
  rcases Ay.1 hu with rfl|hu
  .exact h2
  .exact h3.canon u hu
theorem Cv.mono{p q:ByteArray}:∀{l:List Tm},Cv (some p) l->Ed q p=true->Cv (some q) l
 | [],_,_=>trivial
 |t::r,⟨h1,h2,h3⟩,h=>⟨fun _ e=>by cases e;exact D8 h (h1 p rfl),h2,h3⟩
theorem NA:∀{l:List Tm} {lo:Option ByteArray} (t:Tm),Cv lo l->(∀p,lo=some p->Ed p t.path=true)->Cv lo (Pk t l)
 | [],lo,t,_,h=>⟨h,CE _,trivial⟩
 |u::r,lo,t,⟨h1,h2,h3⟩,h=>by
  unfold Pk;split
  .rename_i DF;exact⟨h1,h2,NA t h3 fun p e=>by cases e;exact DF⟩
  .rename_i DF;split
   .rename_i he;exact⟨h1,SX _ _,h3⟩
   .rename_i he;refine⟨h,CE _,fun p e=>?_,h2,h3⟩;cases e
    have:Ed u.path t.path=false:=by simpa using DF
    cases hb:Ed t.path u.path with
    |true=>exact hb
    |false=>exact absurd (HQ this hb) he
theorem Qu:∀(l acc:List Tm),Cv none acc->Cv none (l.foldl (fun acc t=>Pk t acc) acc)
 | [],_,h=>h
 |t::l,acc,h=>Qu l _ (NA t h fun _ e=>by cases e)
theorem EM:Cv none (Ft l):=Qu l [] trivial
theorem De(r:List Tm)(p:ByteArray):DH (t::r) p=if t.path=p then some t else DH r p:=by
 unfold DH;rw[Fj];by_cases h:t.path=p<;>simp[h]
theorem IC{p q:ByteArray}{l:List Tm}(h:Cv (some p) l)(hq:Ed p q=false):DH l q=none:=by
 unfold DH;rw[DI];intro t ht
 have:=h.low t ht
 simp only[AA];intro e;subst e;rw[hq]at this;cases this
def Pt(o:Option Tm)(t:Tm):Tm:=match o with|none=>MS t|some u=>HF u t
theorem RZ(o:Option Tm)(t:Tm)(h:∀u,o=some u->u.path=t.path):(Pt o t).path=t.path:=by
 cases o with
 |none=>rfl
 |some u=>exact h u rfl
theorem HZ{l:List Tm}{p:ByteArray}{u:Tm}(h:DH l p=some u):u.path=p:=by
 have:=Dy h;simpa using this
theorem FD{l:List Tm}{p:ByteArray}{u:Tm}(h:DH l p=some u):u∈l:=BI h
theorem UT:∀{l:List Tm} {lo:Option ByteArray} (t:Tm) (p:ByteArray),Cv lo l->DH (Pk t l) p=if t.path=p then some (Pt (DH l p) t)else DH l p
 | [],lo,t,p,_=>by
  unfold Pk;rw[De];show(if t.path=p then some (MS t)else none)=_
  by_cases h:t.path=p<;>simp[h,DH,Pt]
 |u::r,lo,t,p,⟨h1,h2,h3⟩=>by
  unfold Pk;split
  .rename_i DF;rw[De,De,UT t p h3]
   by_cases hu:u.path=p
   .have:¬t.path=p:=fun e=>I3 DF (hu.trans e.symm)
    simp[hu,this]
   .simp[hu]
  .rename_i DF;split
   .rename_i he;rw[De,De];show(if u.path=p then some (HF u t)else _)=_
    by_cases hu:u.path=p
    .simp[hu,he▸hu,Pt]
    .have:¬t.path=p:=fun e=>hu (he.trans e)
     simp[hu,this]
   .rename_i he;rw[De];show(if t.path=p then some (MS t)else _)=_
    by_cases ht:t.path=p
    .have hn:DH (u::r) p=none:=by
      rw[De];have hu:¬u.path=p:=fun e=>he (e.trans ht.symm);simp only[hu,Gz];exact IC h3 (by subst ht;simpa using DF)
     simp[ht,hn,Pt]
    .simp[ht]
def Lo(o:Option Tm)(t:Tm):Option Tm:=if t.path=p then some (Pt o t)else o
theorem SK(p:ByteArray):∀(l acc:List Tm),Cv none acc->DH (l.foldl (fun acc t=>Pk t acc) acc) p=l.foldl (Lo p) (DH acc p)
 | [],_,_=>rfl
 |t::l,acc,h=>by
  rw[Fk,SK p l _ (NA t h fun _ e=>by cases e),UT t p h];rfl
theorem Kc(p:ByteArray):DH (Ft l) p=l.foldl (Lo p) none:=SK p l [] trivial
theorem NP:∀{a b:List Tm} {lo:Option ByteArray},Cv lo a->Cv lo b->(∀p,DH a p=DH b p)->a=b
 | [],[],_,_,_,_=>rfl
 | [],z::s,_,_,_,h=>by have:=h z.path;rw[De,Ap rfl]at this;cases this
 |z::s,[],_,_,_,h=>by have:=h z.path;rw[De,Ap rfl]at this;cases this
 |y::r,z::s,lo,⟨f1,f2,f3⟩,⟨g1,g2,g3⟩,h=>by
  have e:y=z:=by
   have a1:=h y.path;have a2:=h z.path;rw[De,Ap rfl,De]at a1;rw[De,De z,Ap rfl]at a2
   by_cases e:z.path=y.path
   .rw[Ap e]at a1;exact Cj a1
   .rw[Aj e]at a1;rw[Aj (fun c=>e c.symm)]at a2;have b1:=Cv.low g3 y (FD a1.symm);have b2:=Cv.low f3 z (FD a2)
    have:=D8 b1 b2
    rw[Dm]at this;cases this
  subst e
  congr 1
  refine NP f3 g3 fun p=>?_;have hp:=h p;rw[De,De]at hp
  by_cases e:y.path=p
  .subst e;rw[IC f3 (Dm _),IC g3 (Dm _)]
  .simpa[e]using hp
theorem Cv.filter(q:Tm->Bool):∀{l:List Tm} {lo:Option ByteArray},Cv lo l->Cv lo (l.filter q)
 | [],_,_=>trivial
 |t::r,lo,⟨h1,h2,h3⟩=>by
  have ih:=Cv.filter q h3;rw[Dx];split
  .exact⟨h1,h2,ih⟩
  .cases lo with
   |none=>exact ih.weak
   |some p=>exact ih.mono (h1 p rfl)
theorem F6{l:List Tm}{t:Tm}(h:Cv lo l):t∈l↔DH l t.path=some t:=by
 constructor
 .induction l generalizing lo with
  |nil=>intro h;cases h
  |cons u r ih=>
   intro ht;rw[De];rcases Ay.1 ht with rfl|ht
   .rw[Ap rfl]
   .have:=Cv.low h.2.2 t ht
    rw[Aj (I3 this)];exact ih h.2.2 ht
 .exact FD
def DG(o:Option Sl):Bool:=match o with|none=>t.absent|some x=>Ci x.ver&&has t.set (place x.ver)
theorem nf(s:List Sl):Ho t s=DG t (B5 s t.path):=by
 unfold Ho DG B5;rfl
theorem Ns{p:ByteArray}{x:Sl}(h:B5 s p=some x):x.path=p:=by
 have:=Dy h;simpa using this
theorem Ky{p:ByteArray}{x:Sl}(h:B5 s p=some x):x∈s:=BI h
theorem Lc{p:ByteArray}:Db s p=(B5 s p).isSome:=by
 unfold Db B5;rw[Ca,List.find?_isSome,Ba]
theorem d6(o:Option Sl):DG (MS t) o=DG t o:=by
 unfold DG MS;cases o<;>simp[If]
theorem bx(o:Option Sl):DG (HF u t) o=(DG u o&&DG t o):=by
 unfold DG HF;cases o with
 |none=>rfl
 |some x=>simp only[XJ];cases Ci x.ver<;>simp
theorem OE(o:Option Sl):DG (DD u t) o=(DG u o||DG t o):=by
 unfold DG DD;cases o with
 |none=>rfl
 |some x=>simp only[jC];cases Ci x.ver<;>simp
def WA(o:Option Sl)(l:List Tm):Bool:=l.all fun t=>!decide (t.path=p)||DG t o
theorem Lb(p:ByteArray)(o:Option Sl):∀(l:List Tm) (a:Option Tm),(∀u,a=some u->u.path=p) ->
  (l.foldl (Lo p) a=none↔a=none/\l.all (fun t=>!decide (t.path=p))=true)/\(∀u,l.foldl (Lo p) a=some u->u.path=p/\DG u o=((match a with|none=>true|some b=>DG b o)&&WA p o l))
 | [],a,ha=>by
  refine⟨by simp,fun u h=>?_⟩;have h:a=some u:=h;subst h;exact⟨ha u rfl,by simp[WA]⟩
 |t::l,a,ha=>by
  rw[Fk]
  by_cases e:t.path=p
  .have hs:Lo p a t=some (Pt a t):=by unfold Lo;rw[Ap e]
   rw[hs];have ih:=Lb p o l (some (Pt a t)) (fun u h=>by cases h;rw[RZ a t fun u h=>(ha u h).trans e.symm];exact e);refine⟨⟨fun h=>?_,fun h=>?_⟩,fun u h=>?_⟩
   .have:=ih.1.1 h;cases this.1
   .simp[e]at h
   .obtain⟨h1,h2⟩:=ih.2 u h;refine⟨h1,?_⟩;rw[h2]
    have:WA p o (t::l)=(DG t o&&WA p o l):=by simp[WA,e]
    rw[this];cases a with
    |none=>simp[Pt,d6]
    |some b=>simp[Pt,bx,Bool.and_assoc]
  .have hs:Lo p a t=a:=by unfold Lo;rw[Aj e]
   rw[hs];have ih:=Lb p o l a ha
   have:WA p o (t::l)=WA p o l:=by simp[WA,e]
   rw[this];refine⟨?_,ih.2⟩;rw[ih.1];simp[e]
theorem BP{l:List Tm}:Bm l s=true↔∀t∈l,DG t (B5 s t.path)=true:=by
 unfold Bm;rw[A1];simp only[nf]
theorem M2(s:List Sl):Bm (Ft l) s=Bm l s:=by
 rw[Ca,BP,BP];constructor
 .intro h t ht
  have:=Lb t.path (B5 s t.path) l none (fun _ e=>by cases e)
  rw[<-Kc]at this;cases e:DH (Ft l) t.path with
  |none=>
   have:=(this.1.1 e).2
   rw[A1]at this
   have:=this t ht
   simp at this
  |some u=>
   obtain⟨h1,h2⟩:=this.2 u e;have hu:=h u (FD e);rw[h1,h2]at hu;simp only[E4,WA,A1]at hu
   have:=hu t ht
   simpa using this
 .intro h u hu;have e:=(F6 (EM l)).1 hu
  have:=Lb u.path (B5 s u.path) l none (fun _ e=>by cases e)
  rw[<-Kc]at this;obtain⟨h1,h2⟩:=this.2 u e;rw[h2];simp only[E4,WA,A1];intro t ht
  by_cases e:t.path=u.path
  .have:=h t ht;rw[e]at this;simp[this]
  .simp[e]
theorem eP{t:Tm}(h:Jd t=true)(o:Option Sl):DG t o=false:=by
 unfold Jd at h;simp only[Af,CK,HD]at h;unfold DG;cases o with
 |none=>exact h.1
 |some x=>dsimp only;rw[h.2];simp[has]
def GH(s:List Sl):Prop:=∀x∈s,Ci x.ver=true
theorem Im{v:Ver}(h:Ci v=true):0<=v.a/\v.a<=999/\0<=v.b/\v.b<=999/\0<=v.c/\v.c<=999:=by
 unfold Ci at h;simp only[Af]at h;obtain⟨⟨a,b⟩,c⟩:=h;obtain⟨a1,a2⟩:=AP a;obtain⟨b1,b2⟩:=AP b;obtain⟨c1,c2⟩:=AP c;exact⟨a1,a2,b1,b2,c1,c2⟩
theorem KL{v:Ver}(h:Ci v=true):0<=place v/\place v<1000000:=by
 have:=Im h;unfold place;omega
theorem WB{t:Tm}(h:Hd t=true)(hs:GH s):DG t (B5 s t.path)=true:=by
 unfold Hd at h;simp only[Af,AA]at h;unfold DG;cases e:B5 s t.path with
 |none=>exact h.1
 |some x=>
  have:=hs x (Ky e)
  have hp:=KL this;dsimp only;rw[this,h.2];simp[has,B4,hp]
theorem Dv{l:List Tm}(hs:GH s):Bm l s=(match Dg l with|none=>false|some c=>Bm c s):=by
 unfold Dg;split
 .rename_i h;split at h
  .rename_i hn;rw[<-M2,AM];intro hv;rw[BP]at hv;obtain⟨t,ht,hn⟩:=Ba.1 hn
   have:=hv t ht
   rw[eP hn]at this;cases this
  .cases h
 .rename_i c h;split at h
  .cases h
  .rename_i hn;cases h;rw[<-M2,Ca,BP,BP];constructor
   .intro h t ht;exact h t (Br.1 ht).1
   .intro h t ht;cases ha:Hd t with
    |true=>exact WB ha hs
    |false=>exact h t (Br.2 ⟨ht,by simp[ha]⟩)
theorem HX(a b:List Tm)(s:List Sl):Bm (a++b) s=(Bm a s&&Bm b s):=by unfold Bm;rw[List.all_append]
theorem Fm{l c:List Tm}(h:Dg l=some c):Cv none c:=by
 unfold Dg at h;split at h
 .cases h
 .cases h;exact Cv.filter _ (EM l)
theorem Gf{l r:List Tm}{p:ByteArray}{t:Tm}(hs:GH s)(h:FN l p=some (t,r)):Bm l s=(DG t (B5 s p)&&Bm r s)/\t.path=p:=by
 unfold FN at h;cases hc:Dg l with
 |none=>rw[hc]at h;cases h
 |some c=>
  rw[hc]at h;dsimp only at h;cases hf:DH c p with
  |none=>rw[hf]at h;cases h
  |some u=>
   rw[hf]at h;cases h;have hp:=HZ hf;refine⟨?_,hp⟩;rw[Dv hs,hc];dsimp only;rw[Ca,Af,BP,BP];constructor
   .intro h
    have:=h t (FD hf)
    rw[hp]at this;exact⟨this,fun v hv=>h v (Br.1 hv).1⟩
   .intro⟨h1,h2⟩ v hv
    by_cases e:v.path=p
    .have:=(F6 (Fm hc)).1 hv
     rw[e,hf]at this;cases this;rw[e];exact h1
    .exact h2 v (Br.2 ⟨hv,by simp[e]⟩)
theorem VR{a b o:List Tm}{p:ByteArray}(hs:GH s)(h:B2 a b p=(o,0))(hv:Bm o s=true):Bm a s=true\/Bm b s=true:=by
 unfold B2 at h;cases h1:FN a p with
 |none=>rw[h1]at h;simp at h
 |some x=>
  cases h2:FN b p with
  |none=>rw[h1,h2]at h;simp at h
  |some y=>
   obtain⟨t,r⟩:=x;obtain⟨u,m⟩:=y;rw[h1,h2]at h;dsimp only at h;cases hc:Dg (r++m++[DD t u])with
   |none=>rw[hc]at h;simp at h
   |some c=>
    rw[hc]at h
    have:c=o:=by simpa using h
    subst this;have e:=Dv (l:=r++m++[DD t u]) hs;rw[hc]at e;dsimp only at e;rw[hv,HX,HX]at e;simp only[Af]at e;obtain⟨⟨e1,e2⟩,e3⟩:=e;obtain⟨va,pa⟩:=Gf hs h1;obtain⟨vb,pb⟩:=Gf hs h2;have e3:=BP.1 e3 _ (Ar.2 rfl)
    have:(DD t u).path=p:=pa
    rw[this,OE,CQ]at e3;rcases e3 with e3|e3
    .exact .inl (by rw[va,e3,e1];rfl)
    .exact .inr (by rw[vb,e3,e2];rfl)
theorem RW{l:List Tm}(hs:GH s)(DJ:RV l≠[]):Bm (RV l) s=Bm l s:=by
 have:=Dv (l:=l) hs
 unfold RV at *
 cases h:Dg l with
 |none=>rw[h]at DJ;exact absurd rfl DJ
 |some c=>rw[h]at this;exact this.symm
-- paths
def H4:Bool:=decide (97<=c)&&decide (c<=122)
def YM:Bool:=decide (65<=c)&&decide (c<=90)
def Fs:Bool:=decide (48<=c)&&decide (c<=57)
def NR:Bool:=H4 c||YM c||Fs c||decide (c=95)
def nI:List UInt8:=[32,97,110,100,32,97,110,121,32,97,115,32,98,111,111,108,32,100,101,112,114,101,99,97,116,101,100,32,101,108,115,101,32,101,120,112,111,114,116,32,102,97,108,115,101,32,102,110,32,102,111,108,100,32,102,114,111,109,32,105,102,32,105,109,112,111,114,116,32,105,110,32,105,110,116,32,108,101,110,103,116,104,32,108,101,116,32,108,105,115,116,32,109,97,116,99,104,32,109,111,100,117,108,101,32,110,111,110,101,32,110,111,116,32,111,114,32,116,101,120,116,32,116,104,101,110,32,116,114,117,101,32,116,121,112,101,32,117,115,101,32]
def kF:List UInt8->List UInt8->Bool
 | [],_=>true
 |_::_,[]=>false
 |a::x,b::y=>decide (a=b)&&kF x y
def inL(x:List UInt8):List UInt8->Bool
 | []=>kF x []
 |b::y=>kF x (b::y)||inL x y
def eD(s:List UInt8):Bool:=inL (32::(s++[32])) nI
def Ji(s:List UInt8):Bool:=!s.isEmpty&&decide (s.length<=32)&&H4 (s.headD 0)&&s.all NR&&!eD s
def OP(s:List UInt8):Bool:=Ji s&&s.all fun c=>H4 c||Fs c
def Hh(s:List UInt8):Int:=s.foldl (fun n c=>10*n+((c.toNat:Int)-48)) 0
def M9(s:List UInt8):Option Int:=match s with
 |c::r=>if c=118 then(if r.isEmpty||decide (3<r.length)||(decide (1<r.length)&&decide (r.headD 0=48))||!r.all Fs then none else some (Hh r))else none
 | []=>none
def FM(c:UInt8):List UInt8->List (List UInt8)
 | []=>[[]]
 |b::r=>if b=c then []::FM c r else match FM c r with
  | []=>[[b]]
  |x::l=>(b::x)::l
def eI(p:List UInt8):Option Int:=match M9 ((FM 47 p).getLastD [])with
 |none=>none
 |some n=>if 64<p.length||(FM 47 p).length<2 then none else if(FM 47 p).all OP then some n else none
def CD:Option Int:=eI p.data.toList
-- indexes
def Jg(before:Option ByteArray)(q:Rq):Int:=
 if(CD q.path).isNone then 4 else if q.set.isEmpty||!decide (q.set=canon q.set)||(match before with|some b=>!Ed b q.path|none=>false)then 1 else 0
def Gt(before:Option ByteArray):List Rq->Int
 | []=>0
 |q::r=>if Jg before q=0 then Gt (some q.path) r else Jg before q
def BH(l:List Rq):Int:=if 16<l.length then 7 else Gt none l
def E9(s:ByteArray):Bool:=decide (s.size=0)||decide (s.size=32)
def Dq:Int:=match CD r.path with
 |none=>4
 |some m=>if !Ci r.ver||!decide (r.ver.a=m)then 2 else if BH r.reqs≠0 then BH r.reqs else if E9 r.arch&&E9 r.ifc&&E9 r.cert then 0 else 1
def He(a b:Int):Int:=if a<b then -1 else if b<a then 1 else 0
def Lr(a b:ByteArray):Int:=if Ed a b then -1 else if Ed b a then 1 else 0
def Qb(a b:Ver):Int:=if He a.a b.a≠0 then He a.a b.a else if He a.b b.b≠0 then He a.b b.b else He a.c b.c
def CY(a b:Rl):Int:=if Lr a.path b.path≠0 then Lr a.path b.path else Qb a.ver b.ver
def Fa:Sl:=⟨r.path,r.ver⟩
def Dp(before:Option Rl):List Rl->Int
 | []=>0
 |r::l=>if Dq r≠0 then Dq r else match before with
  |none=>Dp (some r) l
  |some b=>if Fa b=Fa r then 5 else if 0<CY b r then 1 else Dp (some r) l
def A0(l:List Rl):Int:=if 256<l.length then 7 else Dp none l
def CV(y:Sl):Option Rl:=if A0 x≠0 then none else x.find? fun r=>decide (Fa r=y)
def Ly(p:ByteArray):List Rl:=if A0 x≠0 then []else x.filter fun r=>decide (r.path=p)
def Co(p:ByteArray):Bz:=canon (((Ly x p).filter fun r=>!r.yanked).map fun r=>(plc r.ver,plc r.ver+1))
def Ve(before:Option ByteArray):List Sl->Bool
 | []=>true
 |y::r=>(match before with |some b=>Ed b y.path |none=>true)&&Ve (some y.path) r
def E1(s:List Sl):Bool:=Ve none s
-- solutions
-- derivations
def QY(p:ByteArray)(pl:Int):Option Rl:=x.find? fun r=>decide (r.path=p)&&decide (plc r.ver=pl)
def mt:ByteArray:=⟨#[]⟩
def KJ(l:List α)(i:Int):Option α:=if i<0 then none else l[i.toNat]?
def jX:Option (List Tm):=if l.isEmpty then none else some l
def Ei(roots:List Rq)(d:List (List Tm))(i:Nf):Option (List Tm):=
 if i.kind=0 then
  if i.path=mt/\i.place=0/\i.left=0/\i.right=0 then(KJ roots i.number).map KN else none
 else if i.kind=1 then
  if i.left=0/\i.right=0 then match QY x i.path i.place with
   |none=>none
   |some r=>match KJ r.reqs i.number with
    |none=>none
    |some q=>jX (EH i.path i.place q)
  else none
 else if i.kind=2 then
  if i.place=0/\i.number=0/\i.left=0/\i.right=0 then jX (IP i.path (Co x i.path))else none
 else if i.kind=3 then
  if i.place=0/\i.number=0 then match KJ d i.left,KJ d i.right with
   |some a,some b=>if(B2 a b i.path).2=0 then some (B2 a b i.path).1 else none
   |_,_=>none
  else none
 else none
def DA(x:List Rl)(roots:List Rq):List Nf->List (List Tm)->Option (List (List Tm))
 | [],d=>some d
 |i::l,d=>match Ei x roots d i with
  |none=>none
  |some t=>DA x roots l (d++[t])
-- decisions
def DS(before:List Sl):List Rq->Option ByteArray->Option ByteArray
 | [],acc=>acc
 |q::l,acc=>DS before l (if Db before q.path then acc else match acc with
  |none=>some q.path
  |some p=>if Ed q.path p then some q.path else some p)
def L0(needs:List Rq)(before:List Sl):Option ByteArray:=DS before needs none
structure Vis where
 before:List Sl
 needs:List Rq
 rel:Rl
-- answers
-- the example
-- the order of releases
theorem LR{a b:Int}(h:He a b=0):a=b:=by
 unfold He at h;split at h
 .cases h
 .split at h
  .cases h
  .omega
theorem YQ{a b:Int}(h:He a b<0):a<b:=by
 unfold He at h;split at h
 .assumption
 .split at h<;>omega
theorem Xy(h:Lr a b=0):a=b:=by
 unfold Lr at h;cases h1:Ed a b with
 |true=>rw[h1]at h;simp at h
 |false=>
  cases h2:Ed b a with
  |true=>rw[h1,h2]at h;simp at h
  |false=>exact HQ h1 h2
theorem qH(h:Lr a b<0):Ed a b=true:=by
 unfold Lr at h;cases h1:Ed a b with
 |true=>rfl
 |false=>rw[h1]at h;cases h2:Ed b a<;>rw[h2]at h<;>simp at h
def nM(a b:Ver):Prop:=a.a<b.a\/(a.a=b.a/\(a.b<b.b\/(a.b=b.b/\a.c<b.c)))
def Zn(a b:Rl):Prop:=Ed a.path b.path=true\/(a.path=b.path/\nM a.ver b.ver)
theorem ge{a b:Ver}(h:Qb a b<0):nM a b:=by
 unfold Qb at h;split at h
 .exact .inl (YQ h)
 .rename_i h1;have h1:=LR (BT.1 h1);split at h
  .exact .inr ⟨h1,.inl (YQ h)⟩
  .rename_i h2;exact .inr ⟨h1,.inr ⟨LR (BT.1 h2),YQ h⟩⟩
theorem jj{a b:Ver}(h:Qb a b=0):a=b:=by
 unfold Qb at h;split at h
 .rename_i h1;exact absurd h h1
 .rename_i h1;have h1:=LR (BT.1 h1);split at h
  .rename_i h2;exact absurd h h2
  .rename_i h2;have h2:=LR (BT.1 h2);have h3:=LR h;cases a;cases b;simp_all
theorem ji{a b:Rl}(h:CY a b=0):Fa a=Fa b:=by
 unfold CY at h;split at h
 .rename_i h1;exact absurd h h1
 .rename_i h1;have h1:=Xy (BT.1 h1);have h2:=jj h;unfold Fa;rw[h1,h2]
theorem qI{a b:Rl}(h:CY a b<0):Zn a b:=by
 unfold CY at h;split at h
 .exact .inl (qH h)
 .rename_i h1;exact .inr ⟨Xy (BT.1 h1),ge h⟩
theorem jV{a b c:Ver}(h:nM a b)(k:nM b c):nM a c:=by unfold nM at *;omega
theorem N6{a b c:Rl}(h:Zn a b)(k:Zn b c):Zn a c:=by
 rcases h with h|⟨h1,h2⟩
 .rcases k with k|⟨k1,k2⟩
  .exact .inl (D8 h k)
  .exact .inl (k1▸h)
 .rcases k with k|⟨k1,k2⟩
  .exact .inl (h1▸k)
  .exact .inr ⟨h1.trans k1,jV h2 k2⟩
theorem G2{a b:Rl}(h:Zn a b)(k:Fa a=Fa b):False:=by
 unfold Fa at k;simp only[Sl.mk.injEq]at k;rcases h with h|⟨_,h⟩
 .rw[k.1,Dm]at h;cases h
 .rw[k.2]at h;unfold nM at h;omega
-- a valid index
structure Uh(r:Rl):Prop where
 maj:CD r.path=some r.ver.a
 val:Ci r.ver=true
 reqs:BH r.reqs=0
theorem UC{r:Rl}(h:Dq r=0):Uh r:=by
 unfold Dq at h;split at h
 .cases h
 .rename_i m hm;split at h
  .cases h
  .rename_i h1;split at h
   .rename_i h2;exact absurd h h2
   .rename_i h2;simp only[CQ,CK,HI,not_or,BT]at h1;refine⟨by rw[hm,h1.2],by simpa using h1.1,BT.1 h2⟩
theorem Mm:∀{l:List Rl} {b:Option Rl},Dp b l=0->(∀r∈l,Uh r)/\(l.Pairwise Zn/\∀c,b=some c->∀r∈l,Zn c r)
 | [],b,_=>⟨fun _ h=>(by cases h),.nil,fun _ _ _ h=>(by cases h)⟩
 |r::l,b,h=>by
  unfold Dp at h;split at h
  .rename_i h1;exact absurd h h1
  .rename_i h1;have hr:=UC (BT.1 h1);have go:Dp (some r) l=0->(∀c,b=some c->Zn c r)->(∀z∈r::l,Uh z)/\((r::l).Pairwise Zn/\∀c,b=some c->∀z∈r::l,Zn c z):=fun h hc=>by
    obtain⟨i1,i2,i3⟩:=Mm h;refine⟨fun z hz=>?_,.cons (i3 r rfl) i2,fun c e z hz=>?_⟩
    .rcases Ay.1 hz with rfl|hz
     .exact hr
     .exact i1 z hz
    .rcases Ay.1 hz with rfl|hz
     .exact hc c e
     .exact N6 (hc c e) (i3 r rfl z hz)
   cases b with
   |none=>exact go h fun _ e=>by cases e
   |some b=>
    dsimp only at h;split at h
    .cases h
    .rename_i hk;split at h
     .cases h
     .rename_i hc;refine go h fun c e=>?_;cases e;refine qI ?_
      have:CY b r≠0:=fun e=>hk (ji e)
      omega
theorem CF{l:List Rl}(h:A0 l=0):(∀r∈l,Uh r)/\l.Pairwise Zn:=by
 unfold A0 at h;split at h
 .cases h
 .exact⟨(Mm h).1,(Mm h).2.1⟩
theorem Vl{l:List Rl}(h:l.Pairwise Zn){a b:Rl}(ha:a∈l)(hb:b∈l)(hk:Fa a=Fa b):a=b:=by
 induction h with
 |nil=>cases ha
 |cons h1 h2 ih=>
  rcases Ay.1 ha with e1|ha
  .rcases Ay.1 hb with e2|hb
   .exact e1.trans e2.symm
   .exact(G2 (e1▸h1 b hb) hk).elim
  .rcases Ay.1 hb with e2|hb
   .exact(G2 (e2▸h1 a ha) hk.symm).elim
   .exact ih ha hb
theorem ZM{a b:Ver}(ha:Ci a=true)(hb:Ci b=true)(h1:a.a=b.a)(h2:place a=place b):a=b:=by
 have:=Im ha
 have:=Im hb
 unfold place at h2;have e1:a.b=b.b:=by omega
 have e2:a.c=b.c:=by omega
 cases a;cases b;simp_all
theorem Uh.plc{r:Rl}(h:Uh r):plc r.ver=place r.ver:=by unfold Go.Eng.plc;rw[h.val];rfl
theorem ZF{l:List Rl}(h:(∀r∈l,Uh r)/\l.Pairwise Zn){a b:Rl}(ha:a∈l)(hb:b∈l)(h1:a.path=b.path)(h2:place a.ver=place b.ver):a=b:=by
 refine Vl h.2 ha hb ?_
 have:=h.1 a ha
 have:=h.1 b hb
 have e:a.ver.a=b.ver.a:=by
  have e1:=(h.1 a ha).maj;rw[h1,(h.1 b hb).maj]at e1;exact(Cj e1).symm
 unfold Fa;rw[h1,ZM (h.1 a ha).val (h.1 b hb).val e h2]
theorem Ki{x:List Rl}{r:Rl}(h:CV x y=some r):A0 x=0/\r∈x/\Fa r=y:=by
 unfold CV at h;split at h
 .cases h
 .rename_i h1;refine⟨BT.1 h1,BI h,?_⟩
  have:=Dy h;simpa using this
structure ub(x:List Rl)(roots:List Rq)(s:List Sl):Prop where
 ix:A0 x=0
 inc:E1 s=true
 fnd:∀y∈s,∃r,CV x y=some r/\r.yanked=false
 root:∀q∈roots,∃y,B5 s q.path=some y/\has q.set (place y.ver)=true
 req:∀y∈s,∀r,CV x y=some r->∀q∈r.reqs,∃z,B5 s q.path=some z/\has q.set (place z.ver)=true
theorem Pj:∀{s:List Sl} {b:Option ByteArray},Ve b s=true->s.Pairwise (fun a b=>Ed a.path b.path=true)/\∀c,b=some c->∀y∈s,Ed c y.path=true
 | [],_,_=>⟨.nil,fun _ _ _ h=>by cases h⟩
 |y::r,b,h=>by
  unfold Ve at h;simp only[Af]at h;obtain⟨h1,h2⟩:=h;obtain⟨i1,i2⟩:=Pj h2;refine⟨.cons (i2 _ rfl) i1,fun c e z hz=>?_⟩;subst e;rcases Ay.1 hz with rfl|hz
  .exact h1
  .exact D8 h1 (i2 _ rfl z hz)
theorem Oz(h:s.Pairwise (fun a b=>Ed a.path b.path=true))(hy:y∈s):B5 s y.path=some y:=by
 induction h with
 |nil=>cases hy
 |cons h1 h2 ih=>
  rename_i a l;unfold B5;rw[Fj];rcases Ay.1 hy with rfl|hy
  .simp
  .have:=I3 (h1 y hy)
   simp only[this,decide_false];exact ih hy
theorem aV(h:E1 s=true)(hy:y∈s):B5 s y.path=some y:=Oz (Pj h).1 hy
theorem ub.valid{x:List Rl}(h:ub x roots s):GH s:=fun y hy=>by
 obtain⟨r,h1,_⟩:=h.fnd y hy;obtain⟨_,h2,h3⟩:=Ki h1
 have:=((CF h.ix).1 r h2).val
 rw[<-h3];exact this
-- soundness
theorem Th{q:Rq}(h:∃y,B5 s q.path=some y/\has q.set (place y.ver)=true):DG (D1 q) (B5 s q.path)=false:=by
 obtain⟨y,h1,h2⟩:=h;rw[h1];unfold DG D1;dsimp only;rw[F8,h2];simp
theorem ot{l:List Tm}(hs:GH s)(hn:Dg l≠none)(hv:Bm l s=false):Bm (RV l) s=false:=by
 have:=Dv (l:=l) hs
 unfold RV;cases h:Dg l with
 |none=>exact absurd h hn
 |some c=>rw[h,hv]at this;exact this.symm
theorem bV{l:List Tm}(hs:GH s){o:List Tm}(h:jX (RV l)=some o)(hv:Bm l s=false):Bm o s=false:=by
 unfold jX at h;split at h
 .cases h
 .rename_i DJ;cases h;rw[RW hs (by intro e;rw[e]at DJ;exact DJ rfl)];exact hv
theorem fu:Dg [D1 q]≠none:=by
 unfold Dg Ft;simp only[List.foldl,Pk]
 have:Jd (MS (D1 q))=false:=by simp[Jd,MS,D1]
 simp[this]
theorem QR{l:List α}{i:Int}{a:α}(h:KJ l i=some a):a∈l:=by
 unfold KJ at h;split at h
 .cases h
 .exact Az h
theorem Zj{x:List Rl}(hs:ub x roots s)(hd:∀t∈d,Bm t s=false){o:List Tm}(h:Ei x roots d i=some o):Bm o s=false:=by
 have hv:=hs.valid;unfold Ei at h;split at h
 .split at h
  .rw[AX]at h;obtain⟨q,hq,rfl⟩:=h;refine ot hv (fu q) ?_;rw[AM];intro hw
   have:=BP.1 hw _ (Ar.2 rfl)
   rw[show(D1 q).path=q.path from rfl,Th (hs.root q (QR hq))]at this;cases this
  .cases h
 .split at h
  .split at h
   .split at h
    .cases h
    .rename_i r hr;split at h
     .cases h
     .rename_i q hq;refine bV hv h ?_;rw[AM];intro hw;have h1:=BP.1 hw _ (Ab ..);have h2:=BP.1 hw (D1 q) B0;rw[show(D1 q).path=q.path from rfl]at h2;dsimp only at h1;cases hf:B5 s i.path with
      |none=>rw[hf]at h1;simp[DG]at h1
      |some y=>
       rw[hf]at h1;unfold DG at h1;simp only[Af]at h1;have hp:place y.ver=i.place:=by
        have:=h1.2
        simp only[has,BM,Iq,E3,Af,B4,AA]at this;omega
       have hy:=Ky hf;have hyp:=Ns hf;obtain⟨r',e1,e2⟩:=hs.fnd y hy;obtain⟨_,m1,k1⟩:=Ki e1;have nk:r∈x:=BI hr;have xJ:=Dy hr;simp only[Af,AA]at xJ;have G1:=CF hs.ix
       have:r'=r:=by
        refine ZF G1 m1 nk ?_ ?_
        .rw[xJ.1,<-hyp,<-k1];rfl
        .rw[<-(G1.1 r nk).plc,xJ.2,<-hp,<-k1];rfl
       subst this
       have:=hs.req y hy r' e1 q (QR hq)
       rw[Th this]at h2;cases h2
   .cases h
  .split at h
   .split at h
    .refine bV hv h ?_;rw[AM];intro hw;have h1:=BP.1 hw _ (Ar.2 rfl);dsimp only at h1;cases hf:B5 s i.path with
     |none=>rw[hf]at h1;simp[DG]at h1
     |some y=>
      rw[hf]at h1;unfold DG at h1;simp only[Af]at h1;have hy:=Ky hf;have hyp:=Ns hf;obtain⟨r,e1,e2⟩:=hs.fnd y hy;obtain⟨_,m1,k1⟩:=Ki e1;have G1:=CF hs.ix;have h1:=h1.2;rw[F8]at h1;have lr:=KL (hv y hy)
      have:has (Co x i.path) (place y.ver)=true:=by
       unfold Co;rw[If];unfold has;simp only[lr,decide_true,E4,Ba,Ai,Br];refine⟨(plc r.ver,plc r.ver+1),⟨r,⟨?_,by simp[e2]⟩,rfl⟩,?_⟩
       .unfold Ly;simp only[hs.ix,XX,not_true,Gz,Br,m1,true_and,AA];rw[<-hyp,<-k1];rfl
       .rw[(G1.1 r m1).plc,<-k1];rw[D6];exact⟨Bs _,by show place r.ver<place r.ver+1;omega⟩
      rw[this]at h1;simp at h1
    .cases h
   .split at h
    .split at h
     .split at h
      .rename_i a b ha hb;split at h
       .rename_i h0;cases h;rw[AM];intro hw;rcases VR hv (o:=(B2 a b i.path).1) (Prod.ext rfl h0) hw with hw|hw
        .rw[hd a (QR ha)]at hw;cases hw
        .rw[hd b (QR hb)]at hw;cases hw
       .cases h
      .cases h
     .cases h
    .cases h
theorem Kw{x:List Rl}{roots:List Rq}{s:List Sl}(hs:ub x roots s):∀{l:List Nf} {d d' : List (List Tm)},(∀t∈d,Bm t s=false)->DA x roots l d=some d'->∀t∈d',Bm t s=false
 | [],d,d',hd,h=>by cases h;exact hd
 |i::l,d,d',hd,h=>by
  unfold DA at h;split at h
  .cases h
  .rename_i o ho;refine Kw hs (fun t ht=>?_) h;rcases AN.1 ht with ht|ht
   .exact hd t ht
   .rw[Ar.1 ht];exact Zj hs hd ho
theorem Jl{α:Type}[DecidableEq α]:∀{l m:List α},l.Nodup->(∀x∈l,x∈m)->l.length<=m.length
 | [],_,_,_=>AB _
 |a::l,m,hn,hs=>by
  rw[Dk]at hn;have ha:a∈m:=hs a (Ab ..)
  have:=Jl (l:=l) (m:=m.erase a) hn.2 fun x hx=>by
   have:x≠a:=fun e=>hn.1 (e▸hx)
   exact(List.mem_erase_of_ne this).2 (hs x (Ah _ hx))
  rw[List.length_erase_of_mem ha]at this
  have:=List.length_pos_of_mem ha
  simp only[Al];omega
abbrev Yu(s:List Sl):Prop:=s.Pairwise (fun a b=>Ed a.path b.path=true)
-- the next path
theorem Lj(before:List Sl):∀{l:List Rq} {acc:Option ByteArray},(∀p,acc=some p->Db before p=false) ->
  (∀p,DS before l acc=some p->Db before p=false/\(acc=some p\/∃q∈l,q.path=p))/\(DS before l acc=none->acc=none/\∀q∈l,Db before q.path=true)
 | [],acc,ha=>⟨fun p h=>⟨ha p h,.inl h⟩,fun h=>⟨h,fun _ h=>(by cases h)⟩⟩
 |q::l,acc,ha=>by
  unfold DS
  have key:∀iP,(∀p,iP=some p->Db before p=false)->(∀p,iP=some p->acc=some p\/q.path=p)->(iP=none->acc=none/\Db before q.path=true) ->
    (∀p,DS before l iP=some p->Db before p=false/\(acc=some p\/∃q'∈q::l,q'.path=p))/\(DS before l iP=none->acc=none/\∀q'∈q::l,Db before q'.path=true):=by
   intro iP h1 h2 h3;obtain⟨i1,i2⟩:=Lj before (l:=l) h1;refine⟨fun p h=>?_,fun h=>?_⟩
   .obtain⟨j1,j2⟩:=i1 p h;refine⟨j1,?_⟩;rcases j2 with j2|⟨q',j3,j4⟩
    .rcases h2 p j2 with h2|h2
     .exact .inl h2
     .exact .inr ⟨q,Ab ..,h2⟩
    .exact .inr ⟨q',Ah _ j3,j4⟩
   .obtain⟨j1,j2⟩:=i2 h;obtain⟨k1,k2⟩:=h3 j1;refine⟨k1,fun q' hq=>?_⟩;rcases Ay.1 hq with rfl|hq
    .exact k2
    .exact j2 q' hq
  cases hb:Db before q.path with
  |true=>simp only[SV];exact key acc ha (fun p h=>.inl h) fun h=>⟨h,hb⟩
  |false=>
   simp only[Dr,Gz];cases acc with
   |none=>exact key _ (fun p h=>by cases h;exact hb) (fun p h=>by cases h;exact .inr rfl) fun h=>by cases h
   |some p0=>
    dsimp only;split
    .exact key _ (fun p h=>by cases h;exact hb) (fun p h=>by cases h;exact .inr rfl) fun h=>by cases h
    .exact key _ (fun p h=>by cases h;exact ha _ rfl) (fun p h=>by cases h;exact .inl rfl) fun h=>by cases h
theorem VA{needs:List Rq}{before:List Sl}{p:ByteArray}(h:L0 needs before=some p):Db before p=false/\∃q∈needs,q.path=p:=by
 obtain⟨h1,h2⟩:=(Lj before (l:=needs) (acc:=none) fun _ e=>by cases e).1 p h;rcases h2 with h2|h2
 .cases h2
 .exact⟨h1,h2⟩
theorem eQ{needs:List Rq}{before:List Sl}(h:L0 needs before=none):∀q∈needs,Db before q.path=true:=
 ((Lj before (l:=needs) (acc:=none) fun _ e=>by cases e).2 h).2
theorem U3(a b:List Sl)(p:ByteArray):Db (a++b) p=(Db a p||Db b p):=by unfold Db;rw[FW]
theorem Mw{p:ByteArray}:Db s p=true↔∃y∈s,y.path=p:=by unfold Db;simp
theorem Ie{p:ByteArray}:Db s p=true↔p∈s.map (·.path):=by rw[Mw,Ai]
-- what is needed
-- skips
theorem YV{t:List Tm}{b:List Sl}(hs:E1 s=true)(hb:∀y∈b,y∈s)(h:Dh t b=true):Bm t s=true:=by
 unfold Dh at h;simp only[Af,CK,FP]at h;obtain⟨h1,h2⟩:=h;rw[BP]at h1⊢;intro u hu
 have:=h2 u hu
 simp only[Bool.not_eq_false]at this;rw[Lc]at this;cases hf:B5 b u.path with
 |none=>rw[hf]at this;cases this
 |some y=>
  have h3:=h1 u hu;rw[hf]at h3
  have:=aV hs (hb y (Ky hf))
  rw[Ns hf]at this;rw[this];exact h3
-- right answers
-- the first decision that differs
-- prefixes
theorem J9{x:List Rl}{roots:List Rq}:∀{l:List Nf} {d d' : List (List Tm)},DA x roots l d=some d'->d'.length=d.length+l.length
 | [],d,d',h=>by cases h;rfl
 |i::l,d,d',h=>by
  unfold DA at h;split at h
  .cases h
  .have:=J9 h
   simp only[Ac,Al,Au]at this⊢;omega
theorem HT{x:List Rl}{roots:List Rq}:∀(l m:List Nf) (d:List (List Tm)),DA x roots (l++m) d=match DA x roots l d with|none=>none|some d'=>DA x roots m d'
 | [],_,_=>rfl
 |i::l,m,d=>by
  show(match Ei x roots d i with|none=>none|some t=>DA x roots (l++m) (d++[t]))=(match(match Ei x roots d i with|none=>none|some t=>DA x roots l (d++[t]))with|none=>none|some d'=>DA x roots m d');cases Ei x roots d i with
  |none=>rfl
  |some t=>exact HT l m _
theorem MU{x:List Rl}{roots:List Rq}:∀{l:List Nf} {d d' : List (List Tm)},DA x roots l d=some d'->d <+: d'
 | [],d,d',h=>by cases h;exact List.prefix_refl _
 |i::l,d,d',h=>by
  unfold DA at h;split at h
  .cases h
  .exact(PL _ _).trans (MU h)
theorem Ov{x:List Rl}{l:List Nf}(h:DA x roots l []=some d)(k:Nat):DA x roots (l.take k) []=some (d.take k):=by
 rw[<-GD k l,HT]at h;cases e:DA x roots (l.take k) []with
 |none=>rw[e]at h;cases h
 |some f=>
  rw[e]at h;dsimp only at h;have h1:=J9 e;have h2:=J9 h;have h3:=MU h
  congr 1
  simp only[Au,Ax,Di]at h1 h2;obtain⟨z,rfl⟩:=h3
  by_cases hk:k<=l.length
  .rw[H7 ch,Av ch]
  .rw[Ac]at h2
   have:z=[]:=AQ ch
   subst this;rw[BQ,Av ch]
def Mg:Prop:=Dg l=some l
theorem kG{l:List Tm}:∀(l2:List Tm),Cv none (l2++l)->l.foldl (fun acc t=>Pk t acc) l2=l2++l:=by
 induction l with
 |nil=>intro l2 _;simp
 |cons t r ih=>
  intro l2 h;have hi:Pk t l2=l2++[t]:=by
   have:∀(m:List Tm) (lo:Option ByteArray),Cv lo (m++t::r)->Pk t m=m++[t]:=by
    intro m
    induction m with
    |nil=>
     intro lo hm;have hc:E5 t.set:=hm.2.1;unfold Pk;rw[show MS t=t from wC rfl rfl (Ku hc)];rfl
    |cons u m ihm=>
     intro lo hm;have hm:Cv lo (u::(m++t::r)):=hm;have DF:=Cv.low hm.2.2 t B0;unfold Pk;rw[Ap DF,ihm _ hm.2.2];rfl
   exact this l2 none h
  rw[Fk,hi]
  have:=ih (l2++[t]) (by rw[BD];exact h)
  rw[this,BD];rfl
theorem RR{l:List Tm}(h:Cv none l):Ft l=l:=by
 have:=kG (l:=l) [] h
 simpa[Ft]using this
theorem SH{l c:List Tm}(h:Dg l=some c):Mg c:=by
 have hs:=Fm h;unfold Mg;unfold Dg at h⊢;rw[RR hs];split at h
 .cases h
 .rename_i hn;cases h;rw[Aj]
  .congr 1
   rw[List.filter_filter];simp
  .rw[T9,FP]at hn⊢;intro t ht;exact hn t (Br.1 ht).1
theorem Qw:Mg []:=rfl
theorem NI:Mg (RV l):=by
 unfold RV;cases h:Dg l with
 |none=>exact Qw
 |some c=>exact SH h
theorem OO(a b:List Tm)(p:ByteArray):Mg (B2 a b p).1:=by
 unfold B2;split
 .split
  .rename_i h;exact SH h
  .exact Qw
 .exact Qw
theorem bU{l o:List Tm}(h:jX l=some o):o=l:=by unfold jX at h;split at h<;>cases h;rfl
theorem bB{x:List Rl}{o:List Tm}(h:Ei x roots d i=some o):Mg o:=by
 unfold Ei at h;split at h
 .split at h
  .rw[AX]at h;obtain⟨q,_,rfl⟩:=h;exact NI _
  .cases h
 .split at h
  .split at h
   .split at h
    .cases h
    .split at h
     .cases h
     .rw[bU h];exact NI _
   .cases h
  .split at h
   .split at h
    .rw[bU h];exact NI _
    .cases h
   .split at h
    .split at h
     .split at h
      .split at h
       .cases h;exact OO _ _ _
       .cases h
      .cases h
     .cases h
    .cases h
theorem Ou{x:List Rl}{roots:List Rq}:∀{l:List Nf} {d d' : List (List Tm)},(∀t∈d,Mg t)->DA x roots l d=some d'->∀t∈d',Mg t
 | [],d,d',hd,h=>by cases h;exact hd
 |i::l,d,d',hd,h=>by
  unfold DA at h;split at h
  .cases h
  .rename_i o ho;refine Ou (fun t ht=>?_) h;rcases AN.1 ht with ht|ht
   .exact hd t ht
   .rw[Ar.1 ht];exact bB ho
-- tampering
end Go.Eng
