/- Lemmas 1. -/
import Derived.Test.YteaiieomnhbmgaaGreatDoorAA00
namespace Go.Eng
variable {a b:ByteArray}{lo:Option ByteArray}{α:Type}(c:UInt8)(p:ByteArray)
def BY(p:Int)(s:Int×Int):Bool:=decide (s.1<=p)&&decide (p<s.2)
def has(s:List (Int×Int))(p:Int):Bool:=decide (0<=p)&&decide (p<1000000)&&s.any (BY p)
abbrev By:=List (Int×Int)
def Fj(lo:Int):By->Prop
 | []=>True
 |y::r=>lo<=y.1/\y.1<y.2/\y.2<=1000000/\Fj (y.2+1) r
abbrev Fc(l:By):Prop:=Fj 0 l
def Yp(x:Int×Int):By->By
 | []=>[x]
 |y::r=>if x.2<y.1 then x::y::r else if y.2<x.1 then y::Yp x r else Yp (min x.1 y.1,max x.2 y.2) r
def Jh(x:Int×Int):Int×Int:=(max x.1 0,min x.2 1000000)
def canon:By->By
 | []=>[]
 |x::r=>if(Jh x).1<(Jh x).2 then Yp (Jh x) (canon r)else canon r
def Mg(at_:Int):By->By
 | []=>if at_<1000000 then [(at_,1000000)]else []
 |y::r=>if at_<y.1 then(at_,y.1)::Mg y.2 r else Mg y.2 r
def E6(s:By):By:=Mg 0 (canon s)
def Si(l:List By):By:=canon l.flatten
def RH(l:List By):By:=E6 (l.map E6).flatten
def Rd(a b:By):By:=Si [a,b]
def Qx(a b:By):By:=RH [a,b]
theorem Fj.mono{lo Iz : Int}:∀{l:By},Fj lo l->Iz<=lo->Fj Iz l
 | [],_,_=>trivial
 |_::_,⟨h1,h2,h3,h4⟩,h=>⟨Int.le_trans h h1,h2,h3,h4⟩
theorem Fj.low{lo:Int}:∀{l:By},Fj lo l->∀y∈l,lo<=y.1/\y.1<y.2/\y.2<=1000000
 |y::r,⟨h1,h2,h3,h4⟩,z,hz=>by
  rcases AA.1 hz with rfl | hz
  .exact⟨h1,h2,h3⟩
  .have:=h4.low z hz
   exact⟨by omega,this.2.1,this.2.2⟩
theorem Eb{p:Int}{s:Int×Int}:BY p s=true↔s.1<=p/\p<s.2:=by simp[BY]
theorem NJ{lo:Int}{l:By}(h:Fj lo l){p:Int}(hp:l.any (BY p)=true):lo<=p:=by
 obtain⟨y,hy,h2⟩:=Be.1 hp
 have:=h.low y hy
 have:=Eb.1 h2
 omega
theorem ld{lo:Int}{l:By}(h:Fj lo l){p:Int}(hp:l.any (BY p)=true):p<1000000:=by
 obtain⟨y,hy,h2⟩:=Be.1 hp
 have:=h.low y hy
 have:=Eb.1 h2
 omega
theorem OP:∀(l:By) {lo:Int} {x:Int×Int},Fj lo l->lo<=x.1->x.1<x.2->x.2<=1000000->Fj lo (Yp x l)
 | [],lo,x,_,h1,h2,h3=>⟨h1,h2,h3,trivial⟩
 |y::r,lo,x,⟨g1,g2,g3,g4⟩,h1,h2,h3=>by
  unfold Yp;split
  .exact⟨h1,h2,h3,by omega,g2,g3,g4⟩
  .split
   .exact⟨g1,g2,g3,OP r g4 ch h2 h3⟩
   .refine OP r (g4.mono ch) ?_ ?_ ?_<;>dsimp only<;>omega
theorem PH:∀(l:By) {lo:Int} {x:Int×Int} (p:Int),Fj lo l->x.1<x.2->(Yp x l).any (BY p)=(BY p x||l.any (BY p))
 | [],lo,x,p,_,_=>by simp[Yp]
 |y::r,lo,x,p,⟨g1,g2,g3,g4⟩,h2=>by
  unfold Yp;split
  .simp
  .split
   .rw[Cj,PH r p g4 h2,Cj,<-Bool.or_assoc,<-Bool.or_assoc,Bool.or_comm (BY p y)]
   .rw[PH r p g4 (by dsimp only;omega),Cj,<-Bool.or_assoc]
    congr 1
    simp only[BY];rw[B3];simp only[Af,CN,AC];omega
theorem Cz:∀s:By,Fc (canon s)
 | []=>trivial
 |x::r=>by
  unfold canon;split
  .rename_i h;refine OP _ (Cz r) ?_ h ?_<;>simp only[Jh]<;>omega
  .exact Cz r
theorem LF:∀(s:By) (p:Int),(canon s).any (BY p)=has s p
 | [],p=>by simp[has,canon]
 |x::r,p=>by
  have ih:=LF r p;unfold canon;have hx:BY p (Jh x)=(decide (0<=p)&&decide (p<1000000)&&BY p x):=by
   simp only[BY,Jh];rw[B3];simp only[Af,AC,Int.max_le,Int.lt_min];omega
  split
  .rename_i h;rw[PH _ p (Cz r) h,ih,hx];simp only[has,Cj];cases decide (0<=p)<;>cases decide (p<1000000)<;>simp
  .rename_i h;rw[ih];simp only[has,Cj]
   have:BY p (Jh x)=false:=by
    rw[AM];intro h3
    have:=Eb.1 h3
    omega
   rw[this]at hx;cases h1:decide (0<=p)<;>cases h2:decide (p<1000000)<;>simp_all
theorem Ix{l:By}(h:Fc l)(p:Int):has l p=l.any (BY p):=by
 unfold has;cases e:l.any (BY p)with
 |false=>simp
 |true=>have h1:0<=p:=NJ h e;have h2:=ld h e;simp[h1,h2]
theorem H9(s:By)(p:Int):has (canon s) p=has s p:=by
 rw[Ix (Cz s),LF]
theorem Ol:∀{a b:By} {lo:Int},Fj lo a->Fj lo b->(∀p,a.any (BY p)=b.any (BY p))->a=b
 | [],[],_,_,_,_=>rfl
 | [],z::s,_,_,⟨g1,g2,g3,g4⟩,h=>by
  have:=h z.1
  rw[Cj,Eb.2 ⟨Bu _,g2⟩]at this;simp at this
 |y::r,[],_,⟨g1,g2,g3,g4⟩,_,h=>by
  have:=h y.1
  rw[Cj,Eb.2 ⟨Bu _,g2⟩]at this;simp at this
 |y::r,z::s,lo,⟨f1,f2,f3,f4⟩,⟨g1,g2,g3,g4⟩,h=>by
  have below:∀{x:Int×Int} {t:By} {p:Int},Fj (x.2+1) t->(x::t).any (BY p)=true->p<=x.2->x.1<=p/\p<x.2:=fun {x t p} ht hp Ij=>by
   rw[Cj,CN]at hp;rcases hp with hp | hp
   .exact Eb.1 hp
   .have:=NJ ht hp;omega
  have low:∀{x:Int×Int} {t:By} {p:Int},x.1<x.2->Fj (x.2+1) t->(x::t).any (BY p)=true->x.1<=p:=fun {x t p} hx ht hp=>by
   rw[Cj,CN]at hp;rcases hp with hp | hp
   .exact(Eb.1 hp).1
   .have:=NJ ht hp;omega
  have cov:∀{x:Int×Int} {t:By} {p:Int},x.1<=p->p<x.2->(x::t).any (BY p)=true:=fun {x t p} h1 h2=>by
   rw[Cj,Eb.2 ⟨h1,h2⟩,Bool.true_or]
  have e1:y.1=z.1:=by
   have a1:=low f2 f4 ((h z.1).trans (cov (Bu _) g2));have a2:=low g2 g4 ((h y.1).symm.trans (cov (Bu _) f2));omega
  have e2:y.2=z.2:=by
   rcases Int.lt_trichotomy y.2 z.2 with hl | he | hl
   .have:=below f4 ((h y.2).trans (cov ch hl)) (Bu _);omega
   .exact he
   .have:=below g4 ((h z.2).symm.trans (cov ch hl)) (Bu _);omega
  have e:y=z:=Prod.ext e1 e2;subst e
  congr 1
  refine Ol f4 g4 fun p=>?_;have hp:=h p;simp only[Cj]at hp;cases hs:BY p y with
  |false=>rw[hs,MX,MX]at hp;exact hp
  |true=>
   have:=Eb.1 hs
   have n:∀{t:By},Fj (y.2+1) t->t.any (BY p)=false:=fun {t} ht=>by
    rw[AM];intro hx;have:=NJ ht hx;omega
   rw[n f4,n g4]
theorem Is{a b:By}(ha:Fc a)(hb:Fc b)(h:∀p,has a p=has b p):a=b:=
 Ol ha hb fun p=>by rw[<-Ix ha,<-Ix hb,h]
theorem Uv{a s:By}(ha:Fc a)(h:∀p,has a p=has s p):a=canon s:=
 Is ha (Cz s) fun p=>by rw[h,H9]
theorem Kf{a:By}(ha:Fc a):canon a=a:=(Uv ha fun _=>rfl).symm
theorem Nk{s:By}{p:Int}(h:has s p=true):0<=p/\p<1000000:=by
 unfold has at h;simp only[Af,AC]at h;exact h.1
def MT(p:Int):Bool:=decide (0<=p)&&decide (p<1000000)
theorem Mh:∀(l:By) {at_ lo:Int},0<=at_->Fj lo l->lo<=at_+1->at_<=lo->Fj at_ (Mg at_ l)/\∀p,(Mg at_ l).any (BY p)=(decide (at_<=p)&&decide (p<1000000)&&!l.any (BY p))
 | [],at_,lo,h0,_,h1,h2=>by
  unfold Mg;split
  .exact⟨⟨Bu _,by dsimp only;omega,Bu _,trivial⟩,fun p=>by simp[BY]⟩
  .refine⟨trivial,fun p=>?_⟩
   have:(decide (at_<=p)&&decide (p<1000000))=false:=by
    rw[AM];simp only[XM,Af,AC];omega
   simp[this]
 |y::r,at_,lo,h0,⟨g1,g2,g3,g4⟩,h1,h2=>by
  have ih:=Mh r (at_:=y.2) ch g4 (Bu _) ch;have key:∀p,(decide (at_<=p)&&decide (p<y.1)||(Mg y.2 r).any (BY p))=(decide (at_<=p)&&decide (p<1000000)&&!(y::r).any (BY p)):=fun p=>by
   rw[ih.2,Cj];cases hr:r.any (BY p)with
   |true=>
    have:=NJ g4 hr
    have a:decide (p<y.1)=false:=AD ch;simp[a]
   |false=>
    rw[B3];simp only[BY,Af,CN,AC,CH,Bool.or_false,MB,HE,Bool.not_false,and_true];omega
  unfold Mg;split
  .rename_i h;refine⟨⟨Bu _,h,by dsimp only;omega,ih.1 |> fun c=>?_⟩,fun p=>?_⟩
   .dsimp only;cases e:Mg y.2 r with
    |nil=>trivial
    |cons z s=>
     rw[e]at c;exact⟨by have:=c.1;omega,c.2⟩
   .rw[Cj,<-key];rfl
  .rename_i h;refine⟨ih.1.mono ch,fun p=>?_⟩;rw[<-key]
   have:(decide (at_<=p)&&decide (p<y.1))=false:=by
    rw[AM];simp only[XM,Af,AC];omega
   rw[this,MX]
theorem H6(s:By):Fc (E6 s):=by
 unfold E6;exact(Mh _ (Bu _) (Cz s) ch (Bu _)).1
theorem Ga(s:By)(p:Int):has (E6 s) p=(MT p&&!has s p):=by
 rw[Ix (H6 s)];unfold E6;rw[(Mh _ (Bu _) (Cz s) ch (Bu _)).2,LF];rfl
theorem dz(a b:By)(p:Int):has (a++b) p=(has a p||has b p):=by
 simp only[has,Io];cases decide (0<=p)<;>cases decide (p<1000000)<;>simp
theorem Nj:∀(l:List By) (p:Int),has l.flatten p=l.any fun s=>has s p
 | [],p=>by simp[has]
 |s::l,p=>by rw[BD,dz,Nj l p,Cj]
theorem UX(l:List By)(p:Int):has (Si l) p=l.any fun s=>has s p:=by
 unfold Si;rw[H9,Nj]
theorem Zt(l:List By):Fc (Si l):=Cz _
theorem Y6(l:List By):Fc (RH l):=H6 _
theorem UW(l:List By)(p:Int):has (RH l) p=(MT p&&l.all fun s=>has s p):=by
 unfold RH;rw[Ga,Nj,List.any_map];cases h:MT p with
 |false=>rfl
 |true=>
  rw[Fb,Fb,List.not_any_eq_all_not]
  congr 1
  funext s
  simp[Ga,h]
theorem cd(a b:By):Fc (Rd a b):=Cz _
theorem SU(a b:By):Fc (Qx a b):=H6 _
theorem iX(a b:By)(p:Int):has (Rd a b) p=(has a p||has b p):=by
 unfold Rd;rw[UX];simp
theorem Xz(a b:By)(p:Int):has (Qx a b) p=(has a p&&has b p):=by
 unfold Qx;rw[UW];simp only[List.all_cons,List.all_nil,Bool.and_true];cases h:has a p with
 |false=>simp
 |true=>have:=Nk h;simp[MT,this]
theorem dK(s:By):Qx s s=canon s:=Is (SU _ _) (Cz _) fun p=>by rw[Xz,H9,Bool.and_self]
theorem Wx{s:By}:canon s=[]↔∀p,has s p=false:=by
 constructor
 .intro h p;rw[<-H9,h];simp[has]
 .intro h;exact Is (Cz s) (b:=[]) trivial fun p=>by rw[H9,h p];simp[has]
theorem RN{s:By}(hs:Fc s):s=[]↔∀p,has s p=false:=by
 rw[<-Wx,Kf hs]
def kG(l:List By)(p:Int):Nat:=l.countP fun s=>has s p
theorem Uu:∀{l:By} {lo:Int},Fj lo l->lo<=1000000->(l.length:Int)<=1000000-lo
 | [],lo,_,h=>by simp;omega
 |y::r,lo,⟨g1,g2,g3,g4⟩,h=>by
  by_cases h3:y.2+1<=1000000
  .have:=Uu g4 h3
   simp only[Ag];omega
  .cases r with
   |nil=>simp;omega
   |cons z s=>have:=g4.1;have:=g4.2.1;have:=g4.2.2.1;omega
theorem IV{l:By}(h:Fc l):l.length<=1000000:=by have:=Uu h ch;omega
structure Ver where
 (a b c:Int)
variable (v:Ver)
structure Rq where
 path:ByteArray
 set:List (Int×Int)
variable {roots:List Rq}(q:Rq)
structure Rl where
 path:ByteArray
 ver:Ver
 reqs:List Rq
 (arch ifc cert:ByteArray)
 yanked:Bool
variable (x:List Rl)(r:Rl)
structure Sl where
 path:ByteArray
 ver:Ver
variable {s:List Sl}{y:Sl}
structure Tm where
 path:ByteArray
 absent:Bool
 set:List (Int×Int)
variable {d:List (List Tm)}(l:List Tm)(u t:Tm)
structure Nf where
 kind:Int
 path:ByteArray
 (place number left right:Int)
variable {i:Nf}
structure Sk where
 path:ByteArray
 (place inf:Int)
structure An where
 found:Bool
 sel:List Sl
 infs:List Nf
 skips:List Sk
instance:DecidableEq Ver:=fun x y=>decidable_of_iff (x.a=y.a/\x.b=y.b/\x.c=y.c) ⟨fun⟨h1,h2,h3⟩=>by cases x;cases y;simp_all,fun h=>by subst h;exact⟨rfl,rfl,rfl⟩⟩
instance:DecidableEq Sl:=fun x y=>decidable_of_iff (x.path=y.path/\x.ver=y.ver) ⟨fun⟨h1,h2⟩=>by cases x;cases y;simp_all,fun h=>by subst h;exact⟨rfl,rfl⟩⟩
theorem vO{x y:Tm}(h1:x.path=y.path)(h2:x.absent=y.absent)(h3:x.set=y.set):x=y:=by cases x;cases y;simp_all
def okPart(n:Int):Prop:=0<=n/\n<=999
instance (n:Int):Decidable (okPart n):=by unfold okPart;infer_instance
def Cw:Bool:=decide (okPart v.a)&&decide (okPart v.b)&&decide (okPart v.c)
def place:Int:=1000*v.b+v.c
def plc:Int:=if Cw v then place v else 0
def B1(s:List Sl)(p:ByteArray):Option Sl:=s.find? fun x=>decide (x.path=p)
def Hm(s:List Sl):Bool:=
 match s.find? (fun x=>decide (x.path=t.path))with
 |none=>t.absent
 |some x=>Cw x.ver&&has t.set (place x.ver)
def Db(s:List Sl)(p:ByteArray):Bool:=s.any fun x=>decide (x.path=p)
def Bo(s:List Sl):Bool:=l.all fun t=>Hm t s
def Di(s:List Sl):Bool:=Bo l s&&!l.any fun t=>!Db s t.path
def IY:List UInt8->List UInt8->Bool
 | [],[]=>false
 | [],_::_=>true
 |_::_,[]=>false
 |a::x,b::y=>decide (a<b)||(decide (a=b)&&IY x y)
def Ek(a b:ByteArray):Bool:=IY a.data.toList b.data.toList
theorem SX:∀x,IY x x=false
 | []=>rfl
 |a::x=>by
  unfold IY;simp[SX x]
theorem Pf:∀{x y z},IY x y=true->IY y z=true->IY x z=true
 | [],[],_,h,_=>by simp[IY]at h
 | [],_::_,[],_,h=>by simp[IY]at h
 | [],_::_,_::_,_,_=>rfl
 |_::_,[],_,h,_=>by simp[IY]at h
 |_::_,_::_,[],_,h=>by simp[IY]at h
 |a::x,b::y,c::z,h1,h2=>by
  unfold IY at *
  simp only[CN,Af,AC]at *
  rcases h1 with h1 | ⟨rfl,h1⟩
  .rcases h2 with h2 | ⟨rfl,h2⟩
   .exact .inl (UInt8.lt_trans h1 h2)
   .exact .inl h1
  .rcases h2 with h2 | ⟨rfl,h2⟩
   .exact .inl h2
   .exact .inr ⟨rfl,Pf h1 h2⟩
theorem Vk:∀{x y},IY x y=false->IY y x=false->x=y
 | [],[],_,_=>rfl
 | [],_::_,h,_=>by simp[IY]at h
 |_::_,[],_,h=>by simp[IY]at h
 |a::x,b::y,h1,h2=>by
  unfold IY at *
  simp only[Bool.or_eq_false_iff,MB,HE]at *
  have e:a=b:=by
   have l1:=UInt8.not_lt.1 h1.1;have l2:=UInt8.not_lt.1 h2.1;exact UInt8.le_antisymm l2 l1
  subst e
  have:=Vk (x:=x) (y:=y) (by simpa using h1.2) (by simpa using h2.2)
  rw[this]
theorem Abn(h:a.data.toList=b.data.toList):a=b:=by
 cases a;cases b;simp only[ByteArray.mk.injEq];exact Jv.1 h
theorem Dn(a:ByteArray):Ek a a=false:=SX _
theorem Ed{c:ByteArray}(h:Ek a b=true)(k:Ek b c=true):Ek a c=true:=Pf h k
theorem Ir(h:Ek a b=false)(k:Ek b a=false):a=b:=Abn (Vk h k)
theorem IU(h:Ek a b=true):a≠b:=fun e=>by subst e;rw[Dn]at h;cases h
theorem NL(h:Ek a b=true):Ek b a=false:=by
 rw[AM];intro k;have:=Ed h k;rw[Dn]at this;cases this
def MG:Tm:=⟨t.path,t.absent,canon t.set⟩
def HB:Tm:=⟨u.path,u.absent&&t.absent,Qx u.set t.set⟩
def Pc(t:Tm):List Tm->List Tm
 | []=>[MG t]
 |u::r=>if Ek u.path t.path then u::Pc t r else if u.path=t.path then HB u t::r else MG t::u::r
def Fy:List Tm:=l.foldl (fun acc t=>Pc t acc) []
def I1:Bool:=!t.absent&&t.set.isEmpty
def Hd:Bool:=t.absent&&decide (t.set=[(0,1000000)])
def Dh:Option (List Tm):=if(Fy l).any I1 then none else some ((Fy l).filter fun t=>!Hd t)
def RQ:List Tm:=(Dh l).getD []
def D5:Tm:=⟨q.path,true,E6 q.set⟩
def Kw:List Tm:=RQ [D5 q]
def EL(path:ByteArray)(pl:Int)(q:Rq):List Tm:=RQ [⟨path,false,[(pl,pl+1)]⟩,D5 q]
def IR(path:ByteArray)(xm:By):List Tm:=RQ [⟨path,false,E6 xm⟩]
def DG(p:ByteArray):Option Tm:=l.find? fun t=>decide (t.path=p)
def Gg(p:ByteArray):List Tm:=l.filter fun t=>!decide (t.path=p)
def DD(a b:Tm):Tm:=⟨a.path,a.absent||b.absent,Rd a.set b.set⟩
def FS(p:ByteArray):Option (Tm×List Tm):=match Dh l with
 |none=>none
 |some c=>match DG c p with
  |none=>none
  |some t=>some (t,Gg c p)
def BZ(a b:List Tm)(p:ByteArray):List Tm×Int:=
 match FS a p,FS b p with
 |some (t,r),some (u,m)=>match Dh (r++m++[DD t u])with
  |some o=>(o,0)
  |none=>([],8)
 |_,_=>([],1)
def Cs(lo:Option ByteArray):List Tm->Prop
 | []=>True
 |t::r=>(∀p,lo=some p->Ek p t.path=true)/\Fc t.set/\Cs (some t.path) r
theorem Cs.weak:∀{l:List Tm},Cs lo l->Cs none l
 | [],_=>trivial
 |_::_,⟨_,h2,h3⟩=>⟨fun _ h=>(by cases h),h2,h3⟩
theorem Cs.low{p:ByteArray}:∀{l:List Tm},Cs (some p) l->∀t∈l,Ek p t.path=true
 |t::r,⟨h1,h2,h3⟩,u,hu=>by
  rcases AA.1 hu with rfl | hu
  .exact h1 p rfl
  .exact Ed (h1 p rfl) (h3.low u hu)
theorem Cs.canon{lo:Option ByteArray}:∀{l:List Tm},Cs lo l->∀t∈l,Fc t.set
 |t::r,⟨h1,h2,h3⟩,u,hu=>by
  rcases AA.1 hu with rfl | hu
  .exact h2
  .exact h3.canon u hu
theorem Cs.mono{p q:ByteArray}:∀{l:List Tm},Cs (some p) l->Ek q p=true->Cs (some q) l
 | [],_,_=>trivial
 |t::r,⟨h1,h2,h3⟩,h=>⟨fun _ e=>by cases e;exact Ed h (h1 p rfl),h2,h3⟩
theorem Nm:∀{l:List Tm} {lo:Option ByteArray} (t:Tm),Cs lo l->(∀p,lo=some p->Ek p t.path=true)->Cs lo (Pc t l)
 | [],lo,t,_,h=>⟨h,Cz _,trivial⟩
 |u::r,lo,t,⟨h1,h2,h3⟩,h=>by
  unfold Pc;split
  .rename_i Du;exact⟨h1,h2,Nm t h3 fun p e=>by cases e;exact Du⟩
  .rename_i Du;split
   .rename_i he;exact⟨h1,SU _ _,h3⟩
   .rename_i he;refine⟨h,Cz _,fun p e=>?_,h2,h3⟩;cases e
    have:Ek u.path t.path=false:=by simpa using Du
    cases hb:Ek t.path u.path with
    |true=>exact hb
    |false=>exact absurd (Ir this hb) he
theorem Qm:∀(l acc:List Tm),Cs none acc->Cs none (l.foldl (fun acc t=>Pc t acc) acc)
 | [],_,h=>h
 |t::l,acc,h=>Qm l _ (Nm t h fun _ e=>by cases e)
theorem EQ:Cs none (Fy l):=Qm l [] trivial
theorem Dg(r:List Tm)(p:ByteArray):DG (t::r) p=if t.path=p then some t else DG r p:=by
 unfold DG;rw[Fp];by_cases h:t.path=p<;>simp[h]
theorem It{p q:ByteArray}{l:List Tm}(h:Cs (some p) l)(hq:Ek p q=false):DG l q=none:=by
 unfold DG;rw[DZ];intro t ht
 have:=h.low t ht
 simp only[AC];intro e;subst e;rw[hq]at this;cases this
def Pl(o:Option Tm)(t:Tm):Tm:=match o with | none=>MG t | some u=>HB u t
theorem RU(o:Option Tm)(t:Tm)(h:∀u,o=some u->u.path=t.path):(Pl o t).path=t.path:=by
 cases o with
 |none=>rfl
 |some u=>exact h u rfl
theorem HR{l:List Tm}{p:ByteArray}{u:Tm}(h:DG l p=some u):u.path=p:=by
 have:=DT h;simpa using this
theorem FH{l:List Tm}{p:ByteArray}{u:Tm}(h:DG l p=some u):u∈l:=BG h
theorem UM:∀{l:List Tm} {lo:Option ByteArray} (t:Tm) (p:ByteArray),Cs lo l->DG (Pc t l) p=if t.path=p then some (Pl (DG l p) t)else DG l p
 | [],lo,t,p,_=>by
  unfold Pc;rw[Dg];show(if t.path=p then some (MG t)else none)=_
  by_cases h:t.path=p<;>simp[h,DG,Pl]
 |u::r,lo,t,p,⟨h1,h2,h3⟩=>by
  unfold Pc;split
  .rename_i Du;rw[Dg,Dg,UM t p h3]
   by_cases hu:u.path=p
   .have:¬t.path=p:=fun e=>IU Du (hu.trans e.symm)
    simp[hu,this]
   .simp[hu]
  .rename_i Du;split
   .rename_i he;rw[Dg,Dg];show(if u.path=p then some (HB u t)else _)=_
    by_cases hu:u.path=p
    .simp[hu,he▸hu,Pl]
    .have:¬t.path=p:=fun e=>hu (he.trans e)
     simp[hu,this]
   .rename_i he;rw[Dg];show(if t.path=p then some (MG t)else _)=_
    by_cases ht:t.path=p
    .have hn:DG (u::r) p=none:=by
      rw[Dg];have hu:¬u.path=p:=fun e=>he (e.trans ht.symm);simp only[hu,GB];exact It h3 (by subst ht;simpa using Du)
     simp[ht,hn,Pl]
    .simp[ht]
def K8(o:Option Tm)(t:Tm):Option Tm:=if t.path=p then some (Pl o t)else o
theorem SF(p:ByteArray):∀(l acc:List Tm),Cs none acc->DG (l.foldl (fun acc t=>Pc t acc) acc) p=l.foldl (K8 p) (DG acc p)
 | [],_,_=>rfl
 |t::l,acc,h=>by
  rw[Fq,SF p l _ (Nm t h fun _ e=>by cases e),UM t p h];rfl
theorem JV(p:ByteArray):DG (Fy l) p=l.foldl (K8 p) none:=SF p l [] trivial
theorem ND:∀{a b:List Tm} {lo:Option ByteArray},Cs lo a->Cs lo b->(∀p,DG a p=DG b p)->a=b
 | [],[],_,_,_,_=>rfl
 | [],z::s,_,_,_,h=>by have:=h z.path;rw[Dg,Al rfl]at this;cases this
 |z::s,[],_,_,_,h=>by have:=h z.path;rw[Dg,Al rfl]at this;cases this
 |y::r,z::s,lo,⟨f1,f2,f3⟩,⟨g1,g2,g3⟩,h=>by
  have e:y=z:=by
   have a1:=h y.path;have a2:=h z.path;rw[Dg,Al rfl,Dg]at a1;rw[Dg,Dg z,Al rfl]at a2
   by_cases e:z.path=y.path
   .rw[Al e]at a1;exact CO a1
   .rw[Aj e]at a1;rw[Aj (fun c=>e c.symm)]at a2;have b1:=Cs.low g3 y (FH a1.symm);have b2:=Cs.low f3 z (FH a2)
    have:=Ed b1 b2
    rw[Dn]at this;cases this
  subst e
  congr 1
  refine ND f3 g3 fun p=>?_;have hp:=h p;rw[Dg,Dg]at hp
  by_cases e:y.path=p
  .subst e;rw[It f3 (Dn _),It g3 (Dn _)]
  .simpa[e]using hp
theorem Cs.filter(q:Tm->Bool):∀{l:List Tm} {lo:Option ByteArray},Cs lo l->Cs lo (l.filter q)
 | [],_,_=>trivial
 |t::r,lo,⟨h1,h2,h3⟩=>by
  have ih:=Cs.filter q h3;rw[Ep];split
  .exact⟨h1,h2,ih⟩
  .cases lo with
   |none=>exact ih.weak
   |some p=>exact ih.mono (h1 p rfl)
theorem F8{l:List Tm}{t:Tm}(h:Cs lo l):t∈l↔DG l t.path=some t:=by
 constructor
 .induction l generalizing lo with
  |nil=>intro h;cases h
  |cons u r ih=>
   intro ht;rw[Dg];rcases AA.1 ht with rfl | ht
   .rw[Al rfl]
   .have:=Cs.low h.2.2 t ht
    rw[Aj (IU this)];exact ih h.2.2 ht
 .exact FH
def DE(o:Option Sl):Bool:=match o with | none=>t.absent | some x=>Cw x.ver&&has t.set (place x.ver)
theorem mH(s:List Sl):Hm t s=DE t (B1 s t.path):=by
 unfold Hm DE B1;rfl
theorem Nb{p:ByteArray}{x:Sl}(h:B1 s p=some x):x.path=p:=by
 have:=DT h;simpa using this
theorem Kh{p:ByteArray}{x:Sl}(h:B1 s p=some x):x∈s:=BG h
theorem KW{p:ByteArray}:Db s p=(B1 s p).isSome:=by
 unfold Db B1;rw[B3,List.find?_isSome,Be]
theorem dF(o:Option Sl):DE (MG t) o=DE t o:=by
 unfold DE MG;cases o<;>simp[H9]
theorem aW(o:Option Sl):DE (HB u t) o=(DE u o&&DE t o):=by
 unfold DE HB;cases o with
 |none=>rfl
 |some x=>simp only[Xz];cases Cw x.ver<;>simp
theorem Ox(o:Option Sl):DE (DD u t) o=(DE u o||DE t o):=by
 unfold DE DD;cases o with
 |none=>rfl
 |some x=>simp only[iX];cases Cw x.ver<;>simp
def Wr(o:Option Sl)(l:List Tm):Bool:=l.all fun t=>!decide (t.path=p)||DE t o
theorem KU(p:ByteArray)(o:Option Sl):∀(l:List Tm) (a:Option Tm),(∀u,a=some u->u.path=p) ->
  (l.foldl (K8 p) a=none↔a=none/\l.all (fun t=>!decide (t.path=p))=true)/\(∀u,l.foldl (K8 p) a=some u->u.path=p/\DE u o=((match a with | none=>true | some b=>DE b o)&&Wr p o l))
 | [],a,ha=>by
  refine⟨by simp,fun u h=>?_⟩;have h:a=some u:=h;subst h;exact⟨ha u rfl,by simp[Wr]⟩
 |t::l,a,ha=>by
  rw[Fq]
  by_cases e:t.path=p
  .have hs:K8 p a t=some (Pl a t):=by unfold K8;rw[Al e]
   rw[hs];have ih:=KU p o l (some (Pl a t)) (fun u h=>by cases h;rw[RU a t fun u h=>(ha u h).trans e.symm];exact e);refine⟨⟨fun h=>?_,fun h=>?_⟩,fun u h=>?_⟩
   .have:=ih.1.1 h;cases this.1
   .simp[e]at h
   .obtain⟨h1,h2⟩:=ih.2 u h;refine⟨h1,?_⟩;rw[h2]
    have:Wr p o (t::l)=(DE t o&&Wr p o l):=by simp[Wr,e]
    rw[this];cases a with
    |none=>simp[Pl,dF]
    |some b=>simp[Pl,aW,Bool.and_assoc]
  .have hs:K8 p a t=a:=by unfold K8;rw[Aj e]
   rw[hs];have ih:=KU p o l a ha
   have:Wr p o (t::l)=Wr p o l:=by simp[Wr,e]
   rw[this];refine⟨?_,ih.2⟩;rw[ih.1];simp[e]
theorem BO{l:List Tm}:Bo l s=true↔∀t∈l,DE t (B1 s t.path)=true:=by
 unfold Bo;rw[Bd];simp only[mH]
theorem MP(s:List Sl):Bo (Fy l) s=Bo l s:=by
 rw[B3,BO,BO];constructor
 .intro h t ht
  have:=KU t.path (B1 s t.path) l none (fun _ e=>by cases e)
  rw[<-JV]at this;cases e:DG (Fy l) t.path with
  |none=>
   have:=(this.1.1 e).2
   rw[Bd]at this
   have:=this t ht
   simp at this
  |some u=>
   obtain⟨h1,h2⟩:=this.2 u e;have hu:=h u (FH e);rw[h1,h2]at hu;simp only[Fb,Wr,Bd]at hu
   have:=hu t ht
   simpa using this
 .intro h u hu;have e:=(F8 (EQ l)).1 hu
  have:=KU u.path (B1 s u.path) l none (fun _ e=>by cases e)
  rw[<-JV]at this;obtain⟨h1,h2⟩:=this.2 u e;rw[h2];simp only[Fb,Wr,Bd];intro t ht
  by_cases e:t.path=u.path
  .have:=h t ht;rw[e]at this;simp[this]
  .simp[e]
theorem dT{t:Tm}(h:I1 t=true)(o:Option Sl):DE t o=false:=by
 unfold I1 at h;simp only[Af,CH,Hz]at h;unfold DE;cases o with
 |none=>exact h.1
 |some x=>dsimp only;rw[h.2];simp[has]
def GK(s:List Sl):Prop:=∀x∈s,Cw x.ver=true
theorem Jt{v:Ver}(h:Cw v=true):0<=v.a/\v.a<=999/\0<=v.b/\v.b<=999/\0<=v.c/\v.c<=999:=by
 unfold Cw at h;simp only[Af]at h;obtain⟨⟨a,b⟩,c⟩:=h;obtain⟨a1,a2⟩:=AU a;obtain⟨b1,b2⟩:=AU b;obtain⟨c1,c2⟩:=AU c;exact⟨a1,a2,b1,b2,c1,c2⟩
theorem Ku{v:Ver}(h:Cw v=true):0<=place v/\place v<1000000:=by
 have:=Jt h;unfold place;omega
theorem Ws{t:Tm}(h:Hd t=true)(hs:GK s):DE t (B1 s t.path)=true:=by
 unfold Hd at h;simp only[Af,AC]at h;unfold DE;cases e:B1 s t.path with
 |none=>exact h.1
 |some x=>
  have:=hs x (Kh e)
  have hp:=Ku this;dsimp only;rw[this,h.2];simp[has,BY,hp]
theorem Ds{l:List Tm}(hs:GK s):Bo l s=(match Dh l with | none=>false | some c=>Bo c s):=by
 unfold Dh;split
 .rename_i h;split at h
  .rename_i hn;rw[<-MP,AM];intro hv;rw[BO]at hv;obtain⟨t,ht,hn⟩:=Be.1 hn
   have:=hv t ht
   rw[dT hn]at this;cases this
  .cases h
 .rename_i c h;split at h
  .cases h
  .rename_i hn;cases h;rw[<-MP,B3,BO,BO];constructor
   .intro h t ht;exact h t (Bz.1 ht).1
   .intro h t ht;cases ha:Hd t with
    |true=>exact Ws ha hs
    |false=>exact h t (Bz.2 ⟨ht,by simp[ha]⟩)
theorem HP(a b:List Tm)(s:List Sl):Bo (a++b) s=(Bo a s&&Bo b s):=by unfold Bo;rw[List.all_append]
theorem Fr{l c:List Tm}(h:Dh l=some c):Cs none c:=by
 unfold Dh at h;split at h
 .cases h
 .cases h;exact Cs.filter _ (EQ l)
theorem Gf{l r:List Tm}{p:ByteArray}{t:Tm}(hs:GK s)(h:FS l p=some (t,r)):Bo l s=(DE t (B1 s p)&&Bo r s)/\t.path=p:=by
 unfold FS at h;cases hc:Dh l with
 |none=>rw[hc]at h;cases h
 |some c=>
  rw[hc]at h;dsimp only at h;cases hf:DG c p with
  |none=>rw[hf]at h;cases h
  |some u=>
   rw[hf]at h;cases h;have hp:=HR hf;refine⟨?_,hp⟩;rw[Ds hs,hc];dsimp only;rw[B3,Af,BO,BO];constructor
   .intro h
    have:=h t (FH hf)
    rw[hp]at this;exact⟨this,fun v hv=>h v (Bz.1 hv).1⟩
   .intro⟨h1,h2⟩ v hv
    by_cases e:v.path=p
    .have:=(F8 (Fr hc)).1 hv
     rw[e,hf]at this;cases this;rw[e];exact h1
    .exact h2 v (Bz.2 ⟨hv,by simp[e]⟩)
theorem VO{a b o:List Tm}{p:ByteArray}(hs:GK s)(h:BZ a b p=(o,0))(hv:Bo o s=true):Bo a s=true\/Bo b s=true:=by
 unfold BZ at h;cases h1:FS a p with
 |none=>rw[h1]at h;simp at h
 |some x=>
  cases h2:FS b p with
  |none=>rw[h1,h2]at h;simp at h
  |some y=>
   obtain⟨t,r⟩:=x;obtain⟨u,m⟩:=y;rw[h1,h2]at h;dsimp only at h;cases hc:Dh (r++m++[DD t u])with
   |none=>rw[hc]at h;simp at h
   |some c=>
    rw[hc]at h
    have:c=o:=by simpa using h
    subst this;have e:=Ds (l:=r++m++[DD t u]) hs;rw[hc]at e;dsimp only at e;rw[hv,HP,HP]at e;simp only[Af]at e;obtain⟨⟨e1,e2⟩,e3⟩:=e;obtain⟨va,pa⟩:=Gf hs h1;obtain⟨vb,pb⟩:=Gf hs h2;have e3:=BO.1 e3 _ (Ar.2 rfl)
    have:(DD t u).path=p:=pa
    rw[this,Ox,CN]at e3;rcases e3 with e3 | e3
    .exact .inl (by rw[va,e3,e1];rfl)
    .exact .inr (by rw[vb,e3,e2];rfl)
theorem RR{l:List Tm}(hs:GK s)(DH:RQ l≠[]):Bo (RQ l) s=Bo l s:=by
 have:=Ds (l:=l) hs
 unfold RQ at *
 cases h:Dh l with
 |none=>rw[h]at DH;exact absurd rfl DH
 |some c=>rw[h]at this;exact this.symm
-- paths
def HY:Bool:=decide (97<=c)&&decide (c<=122)
def YC:Bool:=decide (65<=c)&&decide (c<=90)
def Fx:Bool:=decide (48<=c)&&decide (c<=57)
def NH:Bool:=HY c||YC c||Fx c||decide (c=95)
def m6:List UInt8:=[32,97,110,100,32,97,110,121,32,97,115,32,98,111,111,108,32,100,101,112,114,101,99,97,116,101,100,32,101,108,115,101,32,101,120,112,111,114,116,32,102,97,108,115,101,32,102,110,32,102,111,108,100,32,102,114,111,109,32,105,102,32,105,109,112,111,114,116,32,105,110,32,105,110,116,32,108,101,110,103,116,104,32,108,101,116,32,108,105,115,116,32,109,97,116,99,104,32,109,111,100,117,108,101,32,110,111,110,101,32,110,111,116,32,111,114,32,116,101,120,116,32,116,104,101,110,32,116,114,117,101,32,116,121,112,101,32,117,115,101,32]
def j7:List UInt8->List UInt8->Bool
 | [],_=>true
 |_::_,[]=>false
 |a::x,b::y=>decide (a=b)&&j7 x y
def inL(x:List UInt8):List UInt8->Bool
 | []=>j7 x []
 |b::y=>j7 x (b::y)||inL x y
def dM(s:List UInt8):Bool:=inL (32::(s++[32])) m6
def I7(s:List UInt8):Bool:=!s.isEmpty&&decide (s.length<=32)&&HY (s.headD 0)&&s.all NH&&!dM s
def OH(s:List UInt8):Bool:=I7 s&&s.all fun c=>HY c||Fx c
def Hh(s:List UInt8):Int:=s.foldl (fun n c=>10*n+((c.toNat:Int)-48)) 0
def MW(s:List UInt8):Option Int:=match s with
 |c::r=>if c=118 then(if r.isEmpty||decide (3<r.length)||(decide (1<r.length)&&decide (r.headD 0=48))||!r.all Fx then none else some (Hh r))else none
 | []=>none
def FR(c:UInt8):List UInt8->List (List UInt8)
 | []=>[[]]
 |b::r=>if b=c then []::FR c r else match FR c r with
  | []=>[[b]]
  |x::l=>(b::x)::l
def dQ(p:List UInt8):Option Int:=match MW ((FR 47 p).getLastD [])with
 |none=>none
 |some n=>if 64<p.length||(FR 47 p).length<2 then none else if(FR 47 p).all OH then some n else none
def CE:Option Int:=dQ p.data.toList
-- indexes
def I5(before:Option ByteArray)(q:Rq):Int:=
 if(CE q.path).isNone then 4 else if q.set.isEmpty||!decide (q.set=canon q.set)||(match before with | some b=>!Ek b q.path | none=>false)then 1 else 0
def Gs(before:Option ByteArray):List Rq->Int
 | []=>0
 |q::r=>if I5 before q=0 then Gs (some q.path) r else I5 before q
def BN(l:List Rq):Int:=if 16<l.length then 7 else Gs none l
def Fw(s:ByteArray):Bool:=decide (s.size=0)||decide (s.size=32)
def D3:Int:=match CE r.path with
 |none=>4
 |some m=>if !Cw r.ver||!decide (r.ver.a=m)then 2 else if BN r.reqs≠0 then BN r.reqs else if Fw r.arch&&Fw r.ifc&&Fw r.cert then 0 else 1
def He(a b:Int):Int:=if a<b then -1 else if b<a then 1 else 0
def Ld(a b:ByteArray):Int:=if Ek a b then -1 else if Ek b a then 1 else 0
def PU(a b:Ver):Int:=if He a.a b.a≠0 then He a.a b.a else if He a.b b.b≠0 then He a.b b.b else He a.c b.c
def DC(a b:Rl):Int:=if Ld a.path b.path≠0 then Ld a.path b.path else PU a.ver b.ver
def Gu:Sl:=⟨r.path,r.ver⟩
def DW(before:Option Rl):List Rl->Int
 | []=>0
 |r::l=>if D3 r≠0 then D3 r else match before with
  |none=>DW (some r) l
  |some b=>if Gu b=Gu r then 5 else if 0<DC b r then 1 else DW (some r) l
def A5(l:List Rl):Int:=if 256<l.length then 7 else DW none l
def Dj(y:Sl):Option Rl:=if A5 x≠0 then none else x.find? fun r=>decide (Gu r=y)
def Ll(p:ByteArray):List Rl:=if A5 x≠0 then []else x.filter fun r=>decide (r.path=p)
def Cn(p:ByteArray):By:=canon (((Ll x p).filter fun r=>!r.yanked).map fun r=>(plc r.ver,plc r.ver+1))
def U8(before:Option ByteArray):List Sl->Bool
 | []=>true
 |y::r=>(match before with |some b=>Ek b y.path |none=>true)&&U8 (some y.path) r
def E9(s:List Sl):Bool:=U8 none s
-- solutions
-- derivations
def QR(p:ByteArray)(pl:Int):Option Rl:=x.find? fun r=>decide (r.path=p)&&decide (plc r.ver=pl)
def mt:ByteArray:=⟨#[]⟩
def Ks(l:List α)(i:Int):Option α:=if i<0 then none else l[i.toNat]?
def jv:Option (List Tm):=if l.isEmpty then none else some l
def En(roots:List Rq)(d:List (List Tm))(i:Nf):Option (List Tm):=
 if i.kind=0 then
  if i.path=mt/\i.place=0/\i.left=0/\i.right=0 then(Ks roots i.number).map Kw else none
 else if i.kind=1 then
  if i.left=0/\i.right=0 then match QR x i.path i.place with
   |none=>none
   |some r=>match Ks r.reqs i.number with
    |none=>none
    |some q=>jv (EL i.path i.place q)
  else none
 else if i.kind=2 then
  if i.place=0/\i.number=0/\i.left=0/\i.right=0 then jv (IR i.path (Cn x i.path))else none
 else if i.kind=3 then
  if i.place=0/\i.number=0 then match Ks d i.left,Ks d i.right with
   |some a,some b=>if(BZ a b i.path).2=0 then some (BZ a b i.path).1 else none
   |_,_=>none
  else none
 else none
def Dy(x:List Rl)(roots:List Rq):List Nf->List (List Tm)->Option (List (List Tm))
 | [],d=>some d
 |i::l,d=>match En x roots d i with
  |none=>none
  |some t=>Dy x roots l (d++[t])
-- decisions
def DS(before:List Sl):List Rq->Option ByteArray->Option ByteArray
 | [],acc=>acc
 |q::l,acc=>DS before l (if Db before q.path then acc else match acc with
  |none=>some q.path
  |some p=>if Ek q.path p then some q.path else some p)
def LQ(needs:List Rq)(before:List Sl):Option ByteArray:=DS before needs none
structure Vis where
 before:List Sl
 needs:List Rq
 rel:Rl
-- answers
-- the example
-- the order of releases
theorem LG{a b:Int}(h:He a b=0):a=b:=by
 unfold He at h;split at h
 .cases h
 .split at h
  .cases h
  .omega
theorem YG{a b:Int}(h:He a b<0):a<b:=by
 unfold He at h;split at h
 .assumption
 .split at h<;>omega
theorem Xp(h:Ld a b=0):a=b:=by
 unfold Ld at h;cases h1:Ek a b with
 |true=>rw[h1]at h;simp at h
 |false=>
  cases h2:Ek b a with
  |true=>rw[h1,h2]at h;simp at h
  |false=>exact Ir h1 h2
theorem qg(h:Ld a b<0):Ek a b=true:=by
 unfold Ld at h;cases h1:Ek a b with
 |true=>rfl
 |false=>rw[h1]at h;cases h2:Ek b a<;>rw[h2]at h<;>simp at h
def qR(a b:Ver):Prop:=a.a<b.a\/(a.a=b.a/\(a.b<b.b\/(a.b=b.b/\a.c<b.c)))
def cu(a b:Rl):Prop:=Ek a.path b.path=true\/(a.path=b.path/\qR a.ver b.ver)
theorem fu{a b:Ver}(h:PU a b<0):qR a b:=by
 unfold PU at h;split at h
 .exact .inl (YG h)
 .rename_i h1;have h1:=LG (B6.1 h1);split at h
  .exact .inr ⟨h1,.inl (YG h)⟩
  .rename_i h2;exact .inr ⟨h1,.inr ⟨LG (B6.1 h2),YG h⟩⟩
theorem iG{a b:Ver}(h:PU a b=0):a=b:=by
 unfold PU at h;split at h
 .rename_i h1;exact absurd h h1
 .rename_i h1;have h1:=LG (B6.1 h1);split at h
  .rename_i h2;exact absurd h h2
  .rename_i h2;have h2:=LG (B6.1 h2);have h3:=LG h;cases a;cases b;simp_all
theorem iE{a b:Rl}(h:DC a b=0):Gu a=Gu b:=by
 unfold DC at h;split at h
 .rename_i h1;exact absurd h h1
 .rename_i h1;have h1:=Xp (B6.1 h1);have h2:=iG h;unfold Gu;rw[h1,h2]
theorem qh{a b:Rl}(h:DC a b<0):cu a b:=by
 unfold DC at h;split at h
 .exact .inl (qg h)
 .rename_i h1;exact .inr ⟨Xp (B6.1 h1),fu h⟩
theorem jt{a b c:Ver}(h:qR a b)(k:qR b c):qR a c:=by unfold qR at *;omega
theorem XJ{a b c:Rl}(h:cu a b)(k:cu b c):cu a c:=by
 rcases h with h | ⟨h1,h2⟩
 .rcases k with k | ⟨k1,k2⟩
  .exact .inl (Ed h k)
  .exact .inl (k1▸h)
 .rcases k with k | ⟨k1,k2⟩
  .exact .inl (h1▸k)
  .exact .inr ⟨h1.trans k1,jt h2 k2⟩
theorem HU{a b:Rl}(h:cu a b)(k:Gu a=Gu b):False:=by
 unfold Gu at k;simp only[Sl.mk.injEq]at k;rcases h with h | ⟨_,h⟩
 .rw[k.1,Dn]at h;cases h
 .rw[k.2]at h;unfold qR at h;omega
-- a valid index
structure Ub(r:Rl):Prop where
 maj:CE r.path=some r.ver.a
 val:Cw r.ver=true
 reqs:BN r.reqs=0
theorem cV{r:Rl}(h:D3 r=0):Ub r:=by
 unfold D3 at h;split at h
 .cases h
 .rename_i m hm;split at h
  .cases h
  .rename_i h1;split at h
   .rename_i h2;exact absurd h h2
   .rename_i h2;simp only[CN,CH,HE,not_or,B6]at h1;refine⟨by rw[hm,h1.2],by simpa using h1.1,B6.1 h2⟩
theorem Mc:∀{l:List Rl} {b:Option Rl},DW b l=0->(∀r∈l,Ub r)/\(l.Pairwise cu/\∀c,b=some c->∀r∈l,cu c r)
 | [],b,_=>⟨fun _ h=>(by cases h),.nil,fun _ _ _ h=>(by cases h)⟩
 |r::l,b,h=>by
  unfold DW at h;split at h
  .rename_i h1;exact absurd h h1
  .rename_i h1;have hr:=cV (B6.1 h1);have go:DW (some r) l=0->(∀c,b=some c->cu c r)->(∀z∈r::l,Ub z)/\((r::l).Pairwise cu/\∀c,b=some c->∀z∈r::l,cu c z):=fun h hc=>by
    obtain⟨i1,i2,i3⟩:=Mc h;refine⟨fun z hz=>?_,.cons (i3 r rfl) i2,fun c e z hz=>?_⟩
    .rcases AA.1 hz with rfl | hz
     .exact hr
     .exact i1 z hz
    .rcases AA.1 hz with rfl | hz
     .exact hc c e
     .exact XJ (hc c e) (i3 r rfl z hz)
   cases b with
   |none=>exact go h fun _ e=>by cases e
   |some b=>
    dsimp only at h;split at h
    .cases h
    .rename_i hk;split at h
     .cases h
     .rename_i hc;refine go h fun c e=>?_;cases e;refine qh ?_
      have:DC b r≠0:=fun e=>hk (iE e)
      omega
theorem CA{l:List Rl}(h:A5 l=0):(∀r∈l,Ub r)/\l.Pairwise cu:=by
 unfold A5 at h;split at h
 .cases h
 .exact⟨(Mc h).1,(Mc h).2.1⟩
theorem Vg{l:List Rl}(h:l.Pairwise cu){a b:Rl}(ha:a∈l)(hb:b∈l)(hk:Gu a=Gu b):a=b:=by
 induction h with
 |nil=>cases ha
 |cons h1 h2 ih=>
  rcases AA.1 ha with e1 | ha
  .rcases AA.1 hb with e2 | hb
   .exact e1.trans e2.symm
   .exact(HU (e1▸h1 b hb) hk).elim
  .rcases AA.1 hb with e2 | hb
   .exact(HU (e2▸h1 a ha) hk.symm).elim
   .exact ih ha hb
theorem Zw{a b:Ver}(ha:Cw a=true)(hb:Cw b=true)(h1:a.a=b.a)(h2:place a=place b):a=b:=by
 have:=Jt ha
 have:=Jt hb
 unfold place at h2;have e1:a.b=b.b:=by omega
 have e2:a.c=b.c:=by omega
 cases a;cases b;simp_all
theorem Ub.plc{r:Rl}(h:Ub r):plc r.ver=place r.ver:=by unfold Go.Eng.plc;rw[h.val];rfl
theorem Zn{l:List Rl}(h:(∀r∈l,Ub r)/\l.Pairwise cu){a b:Rl}(ha:a∈l)(hb:b∈l)(h1:a.path=b.path)(h2:place a.ver=place b.ver):a=b:=by
 refine Vg h.2 ha hb ?_
 have:=h.1 a ha
 have:=h.1 b hb
 have e:a.ver.a=b.ver.a:=by
  have e1:=(h.1 a ha).maj;rw[h1,(h.1 b hb).maj]at e1;exact(CO e1).symm
 unfold Gu;rw[h1,Zw (h.1 a ha).val (h.1 b hb).val e h2]
theorem J5{x:List Rl}{r:Rl}(h:Dj x y=some r):A5 x=0/\r∈x/\Gu r=y:=by
 unfold Dj at h;split at h
 .cases h
 .rename_i h1;refine⟨B6.1 h1,BG h,?_⟩
  have:=DT h;simpa using this
structure wH(x:List Rl)(roots:List Rq)(s:List Sl):Prop where
 ix:A5 x=0
 inc:E9 s=true
 fnd:∀y∈s,∃r,Dj x y=some r/\r.yanked=false
 root:∀q∈roots,∃y,B1 s q.path=some y/\has q.set (place y.ver)=true
 req:∀y∈s,∀r,Dj x y=some r->∀q∈r.reqs,∃z,B1 s q.path=some z/\has q.set (place z.ver)=true
theorem Pb:∀{s:List Sl} {b:Option ByteArray},U8 b s=true->s.Pairwise (fun a b=>Ek a.path b.path=true)/\∀c,b=some c->∀y∈s,Ek c y.path=true
 | [],_,_=>⟨.nil,fun _ _ _ h=>by cases h⟩
 |y::r,b,h=>by
  unfold U8 at h;simp only[Af]at h;obtain⟨h1,h2⟩:=h;obtain⟨i1,i2⟩:=Pb h2;refine⟨.cons (i2 _ rfl) i1,fun c e z hz=>?_⟩;subst e;rcases AA.1 hz with rfl | hz
  .exact h1
  .exact Ed h1 (i2 _ rfl z hz)
theorem Ou(h:s.Pairwise (fun a b=>Ek a.path b.path=true))(hy:y∈s):B1 s y.path=some y:=by
 induction h with
 |nil=>cases hy
 |cons h1 h2 ih=>
  rename_i a l;unfold B1;rw[Fp];rcases AA.1 hy with rfl | hy
  .simp
  .have:=IU (h1 y hy)
   simp only[this,decide_false];exact ih hy
theorem aE(h:E9 s=true)(hy:y∈s):B1 s y.path=some y:=Ou (Pb h).1 hy
theorem wH.valid{x:List Rl}(h:wH x roots s):GK s:=fun y hy=>by
 obtain⟨r,h1,_⟩:=h.fnd y hy;obtain⟨_,h2,h3⟩:=J5 h1
 have:=((CA h.ix).1 r h2).val
 rw[<-h3];exact this
-- soundness
theorem Te{q:Rq}(h:∃y,B1 s q.path=some y/\has q.set (place y.ver)=true):DE (D5 q) (B1 s q.path)=false:=by
 obtain⟨y,h1,h2⟩:=h;rw[h1];unfold DE D5;dsimp only;rw[Ga,h2];simp
theorem nL{l:List Tm}(hs:GK s)(hn:Dh l≠none)(hv:Bo l s=false):Bo (RQ l) s=false:=by
 have:=Ds (l:=l) hs
 unfold RQ;cases h:Dh l with
 |none=>exact absurd h hn
 |some c=>rw[h,hv]at this;exact this.symm
theorem bA{l:List Tm}(hs:GK s){o:List Tm}(h:jv (RQ l)=some o)(hv:Bo l s=false):Bo o s=false:=by
 unfold jv at h;split at h
 .cases h
 .rename_i DH;cases h;rw[RR hs (by intro e;rw[e]at DH;exact DH rfl)];exact hv
theorem eF:Dh [D5 q]≠none:=by
 unfold Dh Fy;simp only[List.foldl,Pc]
 have:I1 (MG (D5 q))=false:=by simp[I1,MG,D5]
 simp[this]
theorem QI{l:List α}{i:Int}{a:α}(h:Ks l i=some a):a∈l:=by
 unfold Ks at h;split at h
 .cases h
 .exact Aw h
theorem Y4{x:List Rl}(hs:wH x roots s)(hd:∀t∈d,Bo t s=false){o:List Tm}(h:En x roots d i=some o):Bo o s=false:=by
 have hv:=hs.valid;unfold En at h;split at h
 .split at h
  .rw[AS]at h;obtain⟨q,hq,rfl⟩:=h;refine nL hv (eF q) ?_;rw[AM];intro hw
   have:=BO.1 hw _ (Ar.2 rfl)
   rw[show(D5 q).path=q.path from rfl,Te (hs.root q (QI hq))]at this;cases this
  .cases h
 .split at h
  .split at h
   .split at h
    .cases h
    .rename_i r hr;split at h
     .cases h
     .rename_i q hq;refine bA hv h ?_;rw[AM];intro hw;have h1:=BO.1 hw _ (Ab ..);have h2:=BO.1 hw (D5 q) B0;rw[show(D5 q).path=q.path from rfl]at h2;dsimp only at h1;cases hf:B1 s i.path with
      |none=>rw[hf]at h1;simp[DE]at h1
      |some y=>
       rw[hf]at h1;unfold DE at h1;simp only[Af]at h1;have hp:place y.ver=i.place:=by
        have:=h1.2
        simp only[has,Cj,List.any_nil,Bool.or_false,Af,BY,AC]at this;omega
       have hy:=Kh hf;have hyp:=Nb hf;obtain⟨r',e1,e2⟩:=hs.fnd y hy;obtain⟨_,m1,k1⟩:=J5 e1;have mK:r∈x:=BG hr;have w6:=DT hr;simp only[Af,AC]at w6;have GM:=CA hs.ix
       have:r'=r:=by
        refine Zn GM m1 mK ?_ ?_
        .rw[w6.1,<-hyp,<-k1];rfl
        .rw[<-(GM.1 r mK).plc,w6.2,<-hp,<-k1];rfl
       subst this
       have:=hs.req y hy r' e1 q (QI hq)
       rw[Te this]at h2;cases h2
   .cases h
  .split at h
   .split at h
    .refine bA hv h ?_;rw[AM];intro hw;have h1:=BO.1 hw _ (Ar.2 rfl);dsimp only at h1;cases hf:B1 s i.path with
     |none=>rw[hf]at h1;simp[DE]at h1
     |some y=>
      rw[hf]at h1;unfold DE at h1;simp only[Af]at h1;have hy:=Kh hf;have hyp:=Nb hf;obtain⟨r,e1,e2⟩:=hs.fnd y hy;obtain⟨_,m1,k1⟩:=J5 e1;have GM:=CA hs.ix;have h1:=h1.2;rw[Ga]at h1;have px:=Ku (hv y hy)
      have:has (Cn x i.path) (place y.ver)=true:=by
       unfold Cn;rw[H9];unfold has;simp only[px,decide_true,Fb,Be,Ai,Bz];refine⟨(plc r.ver,plc r.ver+1),⟨r,⟨?_,by simp[e2]⟩,rfl⟩,?_⟩
       .unfold Ll;simp only[hs.ix,XM,not_true,GB,Bz,m1,true_and,AC];rw[<-hyp,<-k1];rfl
       .rw[(GM.1 r m1).plc,<-k1];rw[Eb];exact⟨Bu _,by show place r.ver<place r.ver+1;omega⟩
      rw[this]at h1;simp at h1
    .cases h
   .split at h
    .split at h
     .split at h
      .rename_i a b ha hb;split at h
       .rename_i h0;cases h;rw[AM];intro hw;rcases VO hv (o:=(BZ a b i.path).1) (Prod.ext rfl h0) hw with hw | hw
        .rw[hd a (QI ha)]at hw;cases hw
        .rw[hd b (QI hb)]at hw;cases hw
       .cases h
      .cases h
     .cases h
    .cases h
theorem M8{x:List Rl}{roots:List Rq}{s:List Sl}(hs:wH x roots s):∀{l:List Nf} {d d' : List (List Tm)},(∀t∈d,Bo t s=false)->Dy x roots l d=some d'->∀t∈d',Bo t s=false
 | [],d,d',hd,h=>by cases h;exact hd
 |i::l,d,d',hd,h=>by
  unfold Dy at h;split at h
  .cases h
  .rename_i o ho;refine M8 hs (fun t ht=>?_) h;rcases AO.1 ht with ht | ht
   .exact hd t ht
   .rw[Ar.1 ht];exact Y4 hs hd ho
theorem Ja{α:Type}[DecidableEq α]:∀{l m:List α},l.Nodup->(∀x∈l,x∈m)->l.length<=m.length
 | [],_,_,_=>Ax _
 |a::l,m,hn,hs=>by
  rw[Dm]at hn;have ha:a∈m:=hs a (Ab ..)
  have:=Ja (l:=l) (m:=m.erase a) hn.2 fun x hx=>by
   have:x≠a:=fun e=>hn.1 (e▸hx)
   exact(List.mem_erase_of_ne this).2 (hs x (Ah _ hx))
  rw[List.length_erase_of_mem ha]at this
  have:=List.length_pos_of_mem ha
  simp only[Ag];omega
abbrev Yk(s:List Sl):Prop:=s.Pairwise (fun a b=>Ek a.path b.path=true)
-- the next path
theorem K4(before:List Sl):∀{l:List Rq} {acc:Option ByteArray},(∀p,acc=some p->Db before p=false) ->
  (∀p,DS before l acc=some p->Db before p=false/\(acc=some p\/∃q∈l,q.path=p))/\(DS before l acc=none->acc=none/\∀q∈l,Db before q.path=true)
 | [],acc,ha=>⟨fun p h=>⟨ha p h,.inl h⟩,fun h=>⟨h,fun _ h=>(by cases h)⟩⟩
 |q::l,acc,ha=>by
  unfold DS
  have key:∀ib,(∀p,ib=some p->Db before p=false)->(∀p,ib=some p->acc=some p\/q.path=p)->(ib=none->acc=none/\Db before q.path=true) ->
    (∀p,DS before l ib=some p->Db before p=false/\(acc=some p\/∃q'∈q::l,q'.path=p))/\(DS before l ib=none->acc=none/\∀q'∈q::l,Db before q'.path=true):=by
   intro ib h1 h2 h3;obtain⟨i1,i2⟩:=K4 before (l:=l) h1;refine⟨fun p h=>?_,fun h=>?_⟩
   .obtain⟨j1,j2⟩:=i1 p h;refine⟨j1,?_⟩;rcases j2 with j2 | ⟨q',j3,j4⟩
    .rcases h2 p j2 with h2 | h2
     .exact .inl h2
     .exact .inr ⟨q,Ab ..,h2⟩
    .exact .inr ⟨q',Ah _ j3,j4⟩
   .obtain⟨j1,j2⟩:=i2 h;obtain⟨k1,k2⟩:=h3 j1;refine⟨k1,fun q' hq=>?_⟩;rcases AA.1 hq with rfl | hq
    .exact k2
    .exact j2 q' hq
  cases hb:Db before q.path with
  |true=>simp only[SP];exact key acc ha (fun p h=>.inl h) fun h=>⟨h,hb⟩
  |false=>
   simp only[Dp,GB];cases acc with
   |none=>exact key _ (fun p h=>by cases h;exact hb) (fun p h=>by cases h;exact .inr rfl) fun h=>by cases h
   |some p0=>
    dsimp only;split
    .exact key _ (fun p h=>by cases h;exact hb) (fun p h=>by cases h;exact .inr rfl) fun h=>by cases h
    .exact key _ (fun p h=>by cases h;exact ha _ rfl) (fun p h=>by cases h;exact .inl rfl) fun h=>by cases h
theorem Vu{needs:List Rq}{before:List Sl}{p:ByteArray}(h:LQ needs before=some p):Db before p=false/\∃q∈needs,q.path=p:=by
 obtain⟨h1,h2⟩:=(K4 before (l:=needs) (acc:=none) fun _ e=>by cases e).1 p h;rcases h2 with h2 | h2
 .cases h2
 .exact⟨h1,h2⟩
theorem dU{needs:List Rq}{before:List Sl}(h:LQ needs before=none):∀q∈needs,Db before q.path=true:=
 ((K4 before (l:=needs) (acc:=none) fun _ e=>by cases e).2 h).2
theorem UV(a b:List Sl)(p:ByteArray):Db (a++b) p=(Db a p||Db b p):=by unfold Db;rw[Io]
theorem Ml{p:ByteArray}:Db s p=true↔∃y∈s,y.path=p:=by unfold Db;simp
theorem H8{p:ByteArray}:Db s p=true↔p∈s.map (·.path):=by rw[Ml,Ai]
-- what is needed
-- skips
theorem YK{t:List Tm}{b:List Sl}(hs:E9 s=true)(hb:∀y∈b,y∈s)(h:Di t b=true):Bo t s=true:=by
 unfold Di at h;simp only[Af,CH,GT]at h;obtain⟨h1,h2⟩:=h;rw[BO]at h1⊢;intro u hu
 have:=h2 u hu
 simp only[Bool.not_eq_false]at this;rw[KW]at this;cases hf:B1 b u.path with
 |none=>rw[hf]at this;cases this
 |some y=>
  have h3:=h1 u hu;rw[hf]at h3
  have:=aE hs (hb y (Kh hf))
  rw[Nb hf]at this;rw[this];exact h3
-- right answers
-- the first decision that differs
-- prefixes
theorem JT{x:List Rl}{roots:List Rq}:∀{l:List Nf} {d d' : List (List Tm)},Dy x roots l d=some d'->d'.length=d.length+l.length
 | [],d,d',h=>by cases h;rfl
 |i::l,d,d',h=>by
  unfold Dy at h;split at h
  .cases h
  .have:=JT h
   simp only[Ac,Ag,Ao]at this⊢;omega
theorem HL{x:List Rl}{roots:List Rq}:∀(l m:List Nf) (d:List (List Tm)),Dy x roots (l++m) d=match Dy x roots l d with | none=>none | some d'=>Dy x roots m d'
 | [],_,_=>rfl
 |i::l,m,d=>by
  show(match En x roots d i with | none=>none | some t=>Dy x roots (l++m) (d++[t]))=(match(match En x roots d i with | none=>none | some t=>Dy x roots l (d++[t]))with | none=>none | some d'=>Dy x roots m d');cases En x roots d i with
  |none=>rfl
  |some t=>exact HL l m _
theorem MH{x:List Rl}{roots:List Rq}:∀{l:List Nf} {d d' : List (List Tm)},Dy x roots l d=some d'->d <+: d'
 | [],d,d',h=>by cases h;exact List.prefix_refl _
 |i::l,d,d',h=>by
  unfold Dy at h;split at h
  .cases h
  .exact(PD _ _).trans (MH h)
theorem On{x:List Rl}{l:List Nf}(h:Dy x roots l []=some d)(k:Nat):Dy x roots (l.take k) []=some (d.take k):=by
 rw[<-GF k l,HL]at h;cases e:Dy x roots (l.take k) []with
 |none=>rw[e]at h;cases h
 |some f=>
  rw[e]at h;dsimp only at h;have h1:=JT e;have h2:=JT h;have h3:=MH h
  congr 1
  simp only[Ao,Au,CK]at h1 h2;obtain⟨z,rfl⟩:=h3
  by_cases hk:k<=l.length
  .rw[H2 ch,At ch]
  .rw[Ac]at h2
   have:z=[]:=AP ch
   subst this;rw[BP,At ch]
def L5:Prop:=Dh l=some l
theorem j8{l:List Tm}:∀(l2:List Tm),Cs none (l2++l)->l.foldl (fun acc t=>Pc t acc) l2=l2++l:=by
 induction l with
 |nil=>intro l2 _;simp
 |cons t r ih=>
  intro l2 h;have hi:Pc t l2=l2++[t]:=by
   have:∀(m:List Tm) (lo:Option ByteArray),Cs lo (m++t::r)->Pc t m=m++[t]:=by
    intro m
    induction m with
    |nil=>
     intro lo hm;have hc:Fc t.set:=hm.2.1;unfold Pc;rw[show MG t=t from vO rfl rfl (Kf hc)];rfl
    |cons u m ihm=>
     intro lo hm;have hm:Cs lo (u::(m++t::r)):=hm;have Du:=Cs.low hm.2.2 t B0;unfold Pc;rw[Al Du,ihm _ hm.2.2];rfl
   exact this l2 none h
  rw[Fq,hi]
  have:=ih (l2++[t]) (by rw[BA];exact h)
  rw[this,BA];rfl
theorem RM{l:List Tm}(h:Cs none l):Fy l=l:=by
 have:=j8 (l:=l) [] h
 simpa[Fy]using this
theorem SC{l c:List Tm}(h:Dh l=some c):L5 c:=by
 have hs:=Fr h;unfold L5;unfold Dh at h⊢;rw[RM hs];split at h
 .cases h
 .rename_i hn;cases h;rw[Aj]
  .congr 1
   rw[List.filter_filter];simp
  .rw[T2,GT]at hn⊢;intro t ht;exact hn t (Bz.1 ht).1
theorem Qn:L5 []:=rfl
theorem Nv:L5 (RQ l):=by
 unfold RQ;cases h:Dh l with
 |none=>exact Qn
 |some c=>exact SC h
theorem OG(a b:List Tm)(p:ByteArray):L5 (BZ a b p).1:=by
 unfold BZ;split
 .split
  .rename_i h;exact SC h
  .exact Qn
 .exact Qn
theorem bz{l o:List Tm}(h:jv l=some o):o=l:=by unfold jv at h;split at h<;>cases h;rfl
theorem aZ{x:List Rl}{o:List Tm}(h:En x roots d i=some o):L5 o:=by
 unfold En at h;split at h
 .split at h
  .rw[AS]at h;obtain⟨q,_,rfl⟩:=h;exact Nv _
  .cases h
 .split at h
  .split at h
   .split at h
    .cases h
    .split at h
     .cases h
     .rw[bz h];exact Nv _
   .cases h
  .split at h
   .split at h
    .rw[bz h];exact Nv _
    .cases h
   .split at h
    .split at h
     .split at h
      .split at h
       .cases h;exact OG _ _ _
       .cases h
      .cases h
     .cases h
    .cases h
theorem Om{x:List Rl}{roots:List Rq}:∀{l:List Nf} {d d' : List (List Tm)},(∀t∈d,L5 t)->Dy x roots l d=some d'->∀t∈d',L5 t
 | [],d,d',hd,h=>by cases h;exact hd
 |i::l,d,d',hd,h=>by
  unfold Dy at h;split at h
  .cases h
  .rename_i o ho;refine Om (fun t ht=>?_) h;rcases AO.1 ht with ht | ht
   .exact hd t ht
   .rw[Ar.1 ht];exact aZ ho
-- tampering
end Go.Eng
