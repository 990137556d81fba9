/- Lemmas 1. -/
import Derived.Test.YtpgfieopnnkpfaaGreatDoorQA00
namespace Go.Eng
variable {a b:ByteArray}{lo:Option ByteArray}{α:Type}(c:UInt8)(p:ByteArray)
def BP(p:Int)(s:Int×Int):Bool:=decide (s.1<=p)&&decide (p<s.2)
def has(s:List (Int×Int))(p:Int):Bool:=decide (0<=p)&&decide (p<1000000)&&s.any (BP p)
abbrev AF:=List (Int×Int)
def D7(lo:Int):AF->Prop
 | []=>True
 |y::r=>lo<=y.1/\y.1<y.2/\y.2<=1000000/\D7 (y.2+1) r
abbrev EY(l:AF):Prop:=D7 0 l
def Xx(x:Int×Int):AF->AF
 | []=>[x]
 |y::r=>if x.2<y.1 then x::y::r else if y.2<x.1 then y::Xx x r else Xx (min x.1 y.1,max x.2 y.2) r
def GP(x:Int×Int):Int×Int:=(max x.1 0,min x.2 1000000)
def canon:AF->AF
 | []=>[]
 |x::r=>if(GP x).1<(GP x).2 then Xx (GP x) (canon r)else canon r
def Gu(at_:Int):AF->AF
 | []=>if at_<1000000 then [(at_,1000000)]else []
 |y::r=>if at_<y.1 then(at_,y.1)::Gu y.2 r else Gu y.2 r
def BJ(s:AF):AF:=Gu 0 (canon s)
def Jq(l:List AF):AF:=canon l.flatten
def LW(l:List AF):AF:=BJ (l.map BJ).flatten
def EM(a b:AF):AF:=Jq [a,b]
def Gd(a b:AF):AF:=LW [a,b]
def S8(a b:AF):AF:=Gd a (BJ b)
theorem D7.mono{lo HQ : Int}:∀{l:AF},D7 lo l->HQ<=lo->D7 HQ l
 | [],_,_=>trivial
 |_::_,⟨h1,h2,h3,h4⟩,h=>⟨Int.le_trans h h1,h2,h3,h4⟩
theorem D7.low{lo:Int}:∀{l:AF},D7 lo l->∀y∈l,lo<=y.1/\y.1<y.2/\y.2<=1000000
 |y::r,⟨h1,h2,h3,h4⟩,z,hz=>by
  rcases AN.1 hz with rfl | hz
  .omega
  .have:=h4.low z hz
   omega
theorem Fj{p:Int}{s:Int×Int}:BP p s=true↔s.1<=p/\p<s.2:=by simp[BP]
theorem N8{lo:Int}{l:AF}(h:D7 lo l){p:Int}(hp:l.any (BP p)=true):lo<=p:=by
 obtain⟨y,hy,h2⟩:=BQ.1 hp
 have:=h.low y hy
 grind [Fj]
theorem ic{lo:Int}{l:AF}(h:D7 lo l){p:Int}(hp:l.any (BP p)=true):p<1000000:=by
 obtain⟨y,hy,h2⟩:=BQ.1 hp
 have:=h.low y hy
 grind [Fj]
theorem Nq:∀(l:AF) {lo:Int} {x:Int×Int},D7 lo l->lo<=x.1->x.1<x.2->x.2<=1000000->D7 lo (Xx x l)
 | [],lo,x,_,h1,h2,h3=>⟨h1,h2,h3,trivial⟩
 |y::r,lo,x,⟨g1,g2,g3,g4⟩,h1,h2,h3=>by
  unfold Xx;split
  .exact⟨h1,h2,h3,by omega,g2,g3,g4⟩
  .split
   .exact⟨g1,g2,g3,Nq r g4 aa0 h2 h3⟩
   .refine Nq r (g4.mono aa0) ?_ ?_ ?_<;>dsimp only<;>omega
theorem N5:∀(l:AF) {lo:Int} {x:Int×Int} (p:Int),D7 lo l->x.1<x.2->(Xx x l).any (BP p)=(BP p x||l.any (BP p))
 | [],lo,x,p,_,_=>by simp[Xx]
 |y::r,lo,x,p,⟨g1,g2,g3,g4⟩,h2=>by
  unfold Xx;split
  .simp
  .split
   .rw[Er,N5 r p g4 h2,Er,<-Bool.or_assoc,<-Bool.or_assoc,Bool.or_comm (BP p y)]
   .rw[N5 r p g4 aa0,Er,<-Bool.or_assoc]
    grind [BP]
theorem Bc:∀s:AF,EY (canon s)
 | []=>trivial
 |x::r=>by
  unfold canon;split
  .rename_i h;refine Nq _ (Bc r) ?_ h ?_<;>simp only[GP]<;>omega
  .exact Bc r
theorem J8:∀(s:AF) (p:Int),(canon s).any (BP p)=has s p
 | [],p=>by simp[has,canon]
 |x::r,p=>by
  have ih:=J8 r p
  grind [canon,BP,GP,N5,Bc,has]
theorem Hz{l:AF}(h:EY l)(p:Int):has l p=l.any (BP p):=by
 unfold has;cases e:l.any (BP p)with
 |false=>simp
 |true=>have h1:0<=p:=N8 h e;grind [ic]
theorem EU(s:AF)(p:Int):has (canon s) p=has s p:=by
 rw[Hz (Bc s),J8]
theorem M0:∀{a b:AF} {lo:Int},D7 lo a->D7 lo b->(∀p,a.any (BP p)=b.any (BP p))->a=b
 | [],[],_,_,_,_=>rfl
 | [],z::s,_,_,⟨g1,g2,g3,g4⟩,h=>by
  have:=h z.1
  grind [Fj]
 |y::r,[],_,⟨g1,g2,g3,g4⟩,_,h=>by
  have:=h y.1
  grind [Fj]
 |y::r,z::s,lo,⟨f1,f2,f3,f4⟩,⟨g1,g2,g3,g4⟩,h=>by
  have below:∀{x:Int×Int} {t:AF} {p:Int},D7 (x.2+1) t->(x::t).any (BP p)=true->p<=x.2->x.1<=p/\p<x.2:=fun {x t p} ht hp HB=>by
   rw[Er,Gp]at hp;rcases hp with hp | hp
   .exact Fj.1 hp
   .have:=N8 ht hp;omega
  have low:∀{x:Int×Int} {t:AF} {p:Int},x.1<x.2->D7 (x.2+1) t->(x::t).any (BP p)=true->x.1<=p:=fun {x t p} hx ht hp=>by
   grind
  have cov:∀{x:Int×Int} {t:AF} {p:Int},x.1<=p->p<x.2->(x::t).any (BP p)=true:=fun {x t p} h1 h2=>by
   grind [Fj]
  have e1:y.1=z.1:=by
   grind
  have e2:y.2=z.2:=by
   rcases Int.lt_trichotomy y.2 z.2 with hl | he | hl
   .grind
   .exact he
   .have:=below g4 ((h z.2).symm.trans (cov aa0 hl)) (Cg _);omega
  have e:y=z:=Prod.ext e1 e2;subst e
  congr 1
  refine M0 f4 g4 fun p=>?_;have hp:=h p;simp only[Er]at hp;cases hs:BP p y with
  |false=>simp_all
  |true=>
   have:=Fj.1 hs
   have n:∀{t:AF},D7 (y.2+1) t->t.any (BP p)=false:=fun {t} ht=>by
    rw[DQ];intro hx;have:=N8 ht hx;omega
   grind
theorem FG{a b:AF}(ha:EY a)(hb:EY b)(h:∀p,has a p=has b p):a=b:=
 M0 ha hb fun p=>by rw[<-Hz ha,<-Hz hb,h]
theorem RM{a s:AF}(ha:EY a)(h:∀p,has a p=has s p):a=canon s:=
 FG ha (Bc s) fun p=>by rw[h,EU]
theorem I6{a:AF}(ha:EY a):canon a=a:=(RM ha fun _=>rfl).symm
theorem XP{s t:AF}(h:∀p,has s p=has t p):canon s=canon t:=FG (Bc s) (Bc t) fun p=>by grind [EU]
theorem aC{s:AF}{p:Int}(h:has s p=true):0<=p/\p<1000000:=by
 grind [has]
def SJ(p:Int):Bool:=decide (0<=p)&&decide (p<1000000)
theorem KE:∀(l:AF) {at_ lo:Int},0<=at_->D7 lo l->lo<=at_+1->at_<=lo->D7 at_ (Gu at_ l)/\∀p,(Gu at_ l).any (BP p)=(decide (at_<=p)&&decide (p<1000000)&&!l.any (BP p))
 | [],at_,lo,h0,_,h1,h2=>by
  unfold Gu;split
  .exact⟨⟨Cg _,by omega,Cg _,trivial⟩,fun p=>by simp[BP]⟩
  .refine⟨trivial,fun p=>?_⟩
   grind
 |y::r,at_,lo,h0,⟨g1,g2,g3,g4⟩,h1,h2=>by
  have ih:=KE r (at_:=y.2) aa0 g4 (Cg _) aa0;have key:∀p,(decide (at_<=p)&&decide (p<y.1)||(Gu y.2 r).any (BP p))=(decide (at_<=p)&&decide (p<1000000)&&!(y::r).any (BP p)):=fun p=>by
   rw[ih.2,Er];cases hr:r.any (BP p)with
   |true=>
    have:=N8 g4 hr
    grind
   |false=>
    grind [BP]
  unfold Gu;split
  .rename_i h;refine⟨⟨Cg _,h,by omega,ih.1 |> fun c=>?_⟩,fun p=>?_⟩
   .dsimp only;cases e:Gu y.2 r with
    |nil=>trivial
    |cons z s=>
     rw[e]at c;exact⟨by have:=c.1;omega,c.2⟩
   .rw[Er,<-key];rfl
  grind [D7.mono]
theorem E0(s:AF):EY (BJ s):=by
 grind [BJ,KE,Bc]
theorem IY(s:AF)(p:Int):has (BJ s) p=(SJ p&&!has s p):=by
 rw[Hz (E0 s)];unfold BJ;rw[(KE _ (Cg _) (Bc s) aa0 (Cg _)).2,J8];rfl
theorem aB(a b:AF)(p:Int):has (a++b) p=(has a p||has b p):=by
 grind [has]
theorem LN:∀(l:List AF) (p:Int),has l.flatten p=l.any fun s=>has s p
 | [],p=>by simp[has]
 |s::l,p=>by rw[Dp,aB,LN l p,Er]
theorem aD(l:List AF)(p:Int):has (Jq l) p=l.any fun s=>has s p:=by
 unfold Jq;rw[EU,LN]
theorem K5(l:List AF):EY (Jq l):=Bc _
theorem WD(l:List AF):EY (LW l):=E0 _
theorem Sw(l:List AF)(p:Int):has (LW l) p=(SJ p&&l.all fun s=>has s p):=by
 grind [LW,IY,LN,List.any_map]
theorem Zw(a b:AF):EY (EM a b):=Bc _
theorem Ik(a b:AF):EY (Gd a b):=E0 _
theorem PB(a b:AF)(p:Int):has (Gd a b) p=(has a p&&has b p):=by
 grind [Gd,Sw,aC,SJ]
theorem eT(a b:AF)(p:Int):has (S8 a b) p=(has a p&&!has b p):=by
 grind [S8,PB,IY,aC,SJ]
theorem aS(s:AF):Gd s s=canon s:=FG (Ik _ _) (Bc _) fun p=>by grind [PB,EU]
theorem TV{s:AF}:canon s=[]↔∀p,has s p=false:=by
 constructor
 .intro h p;rw[<-EU,h];simp[has]
 .intro h;exact FG (Bc s) (b:=[]) trivial fun p=>by grind [EU,has]
theorem PN{s:AF}(hs:EY s):s=[]↔∀p,has s p=false:=by
 rw[<-TV,I6 hs]
theorem XT{s t:AF}(h:∀p,has s p=has t p):BJ s=BJ t:=by grind [BJ,XP]
theorem V4(s:AF):BJ (canon s)=BJ s:=XT (EU s)
theorem Yw{a b c d:AF}(h:∀p,has a p=has c p)(k:∀p,has b p=has d p):Gd a b=Gd c d:=
 FG (Ik _ _) (Ik _ _) fun p=>by grind [PB]
def iK(l:List AF)(p:Int):Nat:=l.countP fun s=>has s p
theorem RL:∀{l:AF} {lo:Int},D7 lo l->lo<=1000000->(l.length:Int)<=1000000-lo
 | [],lo,_,h=>by simp_all
 |y::r,lo,⟨g1,g2,g3,g4⟩,h=>by
  by_cases h3:y.2+1<=1000000
  .have:=RL g4 h3
   grind
  .cases r with
   |nil=>grind
   |cons z s=>have:=g4.1;have:=g4.2.1;have:=g4.2.2.1;omega
theorem CK{l:AF}(h:EY l):l.length<=1000000:=by have:=RL h aa0;omega
structure Ver where
 (a b c:Int)
variable (v:Ver)
structure Rq where
 path:ByteArray
 set:List (Int×Int)
variable {roots:List Rq}(q:Rq)
structure Rl where
 path:ByteArray
 ver:Ver
 reqs:List Rq
 (arch ifc cert:ByteArray)
 yanked:Bool
variable {x:List Rl}(r:Rl)
structure Sl where
 path:ByteArray
 ver:Ver
variable {s:List Sl}{y:Sl}
structure Tm where
 path:ByteArray
 absent:Bool
 set:List (Int×Int)
variable {u:Tm}(l:List Tm)(o:Option Tm)(t:Tm)
structure Nf where
 kind:Int
 path:ByteArray
 (place number left right:Int)
structure Sk where
 path:ByteArray
 (place inf:Int)
structure An where
 found:Bool
 sel:List Sl
 infs:List Nf
 skips:List Sk
instance:DecidableEq Ver:=fun x y=>decidable_of_iff (x.a=y.a/\x.b=y.b/\x.c=y.c) ⟨fun⟨h1,h2,h3⟩=>by cases x<;>simp_all,fun h=>by simp_all⟩
instance:DecidableEq Sl:=fun x y=>decidable_of_iff (x.path=y.path/\x.ver=y.ver) ⟨fun⟨h1,h2⟩=>by cases x<;>simp_all,fun h=>by simp_all⟩
instance:DecidableEq Tm:=fun x y=>decidable_of_iff (x.path=y.path/\x.absent=y.absent/\x.set=y.set) ⟨fun⟨h1,h2,h3⟩=>by cases x<;>simp_all,fun h=>by simp_all⟩
def okPart(n:Int):Prop:=0<=n/\n<=999
instance (n:Int):Decidable (okPart n):=by unfold okPart;infer_instance
def Bo:Bool:=decide (okPart v.a)&&decide (okPart v.b)&&decide (okPart v.c)
def place:Int:=1000*v.b+v.c
def plc:Int:=if Bo v then place v else 0
def Lk:Sl:=⟨⟨#[]⟩,⟨0,0,0⟩⟩
def A3(s:List Sl)(p:ByteArray):Option Sl:=s.find? fun x=>decide (x.path=p)
def EP(s:List Sl):Bool:=
 match s.find? (fun x=>decide (x.path=t.path))with
 |none=>t.absent
 |some x=>Bo x.ver&&has t.set (place x.ver)
def Ch(s:List Sl)(p:ByteArray):Bool:=s.any fun x=>decide (x.path=p)
def HL(s:List Sl):Bool:=l.all fun t=>EP t s
def CN(s:List Sl):Bool:=HL l s&&!l.any fun t=>!Ch s t.path
def QO(a:An):Bool:=decide (a.infs.length<=400)&&decide (a.sel.length<=16)&&decide (a.skips.length<=100)
def Ki:List UInt8->List UInt8->Bool
 | [],[]=>false
 | [],_::_=>true
 |_::_,[]=>false
 |a::x,b::y=>decide (a<b)||(decide (a=b)&&Ki x y)
def G1(a b:ByteArray):Bool:=Ki a.data.toList b.data.toList
theorem QA:∀x,Ki x x=false
 | []=>rfl
 |a::x=>by
  unfold Ki;simp[QA x]
theorem SV:∀{x y z},Ki x y=true->Ki y z=true->Ki x z=true
 | [],[],_,h,_=>by omega
 | [],_::_,[],_,h=>by grind [Ki]
 | [],_::_,_::_,_,_=>rfl
 |_::_,[],_,h,_=>by grind [Ki]
 |_::_,_::_,[],_,h=>by grind [Ki]
 |a::x,b::y,c::z,h1,h2=>by
  unfold Ki at *
  simp only[Gp,Au,Bg]at *
  rcases h1 with h1 | ⟨rfl,h1⟩
  .grind
  .rcases h2 with h2 | ⟨rfl,h2⟩
   .simp_all
   .exact .inr ⟨rfl,SV h1 h2⟩
theorem YG:∀{x y},Ki x y=false->Ki y x=false->x=y
 | [],[],_,_=>rfl
 | [],_::_,h,_=>by grind [Ki]
 |_::_,[],_,h=>by grind [Ki]
 |a::x,b::y,h1,h2=>by
  unfold Ki at *
  simp only[Bool.or_eq_false_iff,Bool.and_eq_false_iff,JC]at *
  have e:a=b:=by
   grind
  subst e
  have:=YG (x:=x) (y:=y) (by simp_all) (by simp_all)
  simp_all
theorem JU(h:a.data.toList=b.data.toList):a=b:=by
 cases a<;>simp_all
theorem FF(a:ByteArray):G1 a a=false:=QA _
theorem HT{c:ByteArray}(h:G1 a b=true)(k:G1 b c=true):G1 a c=true:=SV h k
theorem Q8(h:G1 a b=false)(k:G1 b a=false):a=b:=JU (YG h k)
theorem RH(h:G1 a b=true):a≠b:=fun e=>by grind [FF]
def C3:Tm:=⟨t.path,t.absent,canon t.set⟩
def EG(u t:Tm):Tm:=⟨u.path,u.absent&&t.absent,Gd u.set t.set⟩
def Ir(t:Tm):List Tm->List Tm
 | []=>[C3 t]
 |u::r=>if G1 u.path t.path then u::Ir t r else if u.path=t.path then EG u t::r else C3 t::u::r
def Dh:List Tm:=l.foldl (fun acc t=>Ir t acc) []
def GS:Bool:=!t.absent&&t.set.isEmpty
def GC:Bool:=t.absent&&decide (t.set=[(0,1000000)])
def AW:Option (List Tm):=if(Dh l).any GS then none else some ((Dh l).filter fun t=>!GC t)
def BM:List Tm:=(AW l).getD []
def JN:Tm:=⟨q.path,true,BJ q.set⟩
def Li:List Tm:=BM [JN q]
def Cb(path:ByteArray)(pl:Int)(q:Rq):List Tm:=BM [⟨path,false,[(pl,pl+1)]⟩,JN q]
def Gg(path:ByteArray)(s7:AF):List Tm:=BM [⟨path,false,BJ s7⟩]
def Db(p:ByteArray):Option Tm:=l.find? fun t=>decide (t.path=p)
def AH(p:ByteArray):List Tm:=l.filter fun t=>!decide (t.path=p)
def Dk(a b:Tm):Tm:=⟨a.path,a.absent||b.absent,EM a.set b.set⟩
def Ep(p:ByteArray):Option (Tm×List Tm):=match AW l with
 |none=>none
 |some c=>match Db c p with
  |none=>none
  |some t=>some (t,AH c p)
def Bn(a b:List Tm)(p:ByteArray):List Tm×Int:=
 match Ep a p,Ep b p with
 |some (t,r),some (u,m)=>match AW (r++m++[Dk t u])with
  |some o=>(o,0)
  |none=>([],8)
 |_,_=>([],1)
def BR(lo:Option ByteArray):List Tm->Prop
 | []=>True
 |t::r=>(∀p,lo=some p->G1 p t.path=true)/\EY t.set/\BR (some t.path) r
theorem BR.weak:∀{l:List Tm},BR lo l->BR none l
 | [],_=>trivial
 |_::_,⟨_,h2,h3⟩=>⟨fun _ h=>(by cases h),h2,h3⟩
theorem BR.low{p:ByteArray}:∀{l:List Tm},BR (some p) l->∀t∈l,G1 p t.path=true
 |t::r,⟨h1,h2,h3⟩,u,hu=>by
  rcases AN.1 hu with rfl | hu
  .simp_all
  .exact HT (h1 p rfl) (h3.low u hu)
theorem BR.canon{lo:Option ByteArray}:∀{l:List Tm},BR lo l->∀t∈l,EY t.set
 |t::r,⟨h1,h2,h3⟩,u,hu=>by
  rcases AN.1 hu with rfl | hu
  .exact h2
  .exact h3.canon u hu
theorem BR.mono{p q:ByteArray}:∀{l:List Tm},BR (some p) l->G1 q p=true->BR (some q) l
 | [],_,_=>trivial
 |t::r,⟨h1,h2,h3⟩,h=>⟨fun _ e=>by grind [HT],h2,h3⟩
theorem LV:∀{l:List Tm} {lo:Option ByteArray} (t:Tm),BR lo l->(∀p,lo=some p->G1 p t.path=true)->BR lo (Ir t l)
 | [],lo,t,_,h=>⟨h,Bc _,trivial⟩
 |u::r,lo,t,⟨h1,h2,h3⟩,h=>by
  unfold Ir;split
  .rename_i Fp;exact⟨h1,h2,LV t h3 fun p e=>by simp_all⟩
  .rename_i Fp;split
   .rename_i he;exact⟨h1,Ik _ _,h3⟩
   .rename_i he;refine⟨h,Bc _,fun p e=>?_,h2,h3⟩;cases e
    have:G1 u.path t.path=false:=by simp_all
    cases hb:G1 t.path u.path with
    |true=>exact hb
    |false=>grind [Q8]
theorem Oy:∀(l acc:List Tm),BR none acc->BR none (l.foldl (fun acc t=>Ir t acc) acc)
 | [],_,h=>h
 |t::l,acc,h=>Oy l _ (LV t h fun _ e=>by cases e)
theorem DH:BR none (Dh l):=Oy l [] trivial
theorem Ek(r:List Tm)(p:ByteArray):Db (t::r) p=if t.path=p then some t else Db r p:=by
 grind [Db]
theorem JF{p q:ByteArray}{l:List Tm}(h:BR (some p) l)(hq:G1 p q=false):Db l q=none:=by
 grind [Db,BR.low]
def WU:Tm:=match o with | none=>C3 t | some u=>EG u t
theorem Vj(h:∀u,o=some u->u.path=t.path):(WU o t).path=t.path:=by
 cases o with
 |none=>rfl
 |some u=>exact h u rfl
theorem Nu{l:List Tm}{p:ByteArray}(h:Db l p=some u):u.path=p:=by
 have:=Jr h;simp_all
theorem HV{l:List Tm}{p:ByteArray}(h:Db l p=some u):u∈l:=Cw h
theorem Sg:∀{l:List Tm} {lo:Option ByteArray} (t:Tm) (p:ByteArray),BR lo l->Db (Ir t l) p=if t.path=p then some (WU (Db l p) t)else Db l p
 | [],lo,t,p,_=>by
  grind [Ir,C3,Db,WU]
 |u::r,lo,t,p,⟨h1,h2,h3⟩=>by
  unfold Ir;split
  .rename_i Fp;rw[Ek,Ek,Sg t p h3]
   grind [RH]
  grind [Ek,EG,WU,C3,JF]
def QQ:Option Tm:=if t.path=p then some (WU o t)else o
theorem Qr(p:ByteArray):∀(l acc:List Tm),BR none acc->Db (l.foldl (fun acc t=>Ir t acc) acc) p=l.foldl (QQ p) (Db acc p)
 | [],_,_=>rfl
 |t::l,acc,h=>by
  rw[DX,Qr p l _ (LV t h fun _ e=>by cases e),Sg t p h];rfl
theorem Ov(p:ByteArray):Db (Dh l) p=l.foldl (QQ p) none:=Qr p l [] trivial
theorem Mh:∀{a b:List Tm} {lo:Option ByteArray},BR lo a->BR lo b->(∀p,Db a p=Db b p)->a=b
 | [],[],_,_,_,_=>rfl
 | [],z::s,_,_,_,h=>by have:=h z.path;rw[Ek,AE rfl]at this;cases this
 |z::s,[],_,_,_,h=>by have:=h z.path;rw[Ek,AE rfl]at this;cases this
 |y::r,z::s,lo,⟨f1,f2,f3⟩,⟨g1,g2,g3⟩,h=>by
  have e:y=z:=by
   have a1:=h y.path;have a2:=h z.path
   grind [Ek,BR.low,HV,HT,FF]
  subst e
  congr 1
  refine Mh f3 g3 fun p=>?_;have hp:=h p
  grind [Ek,JF,FF]
theorem BR.filter(q:Tm->Bool):∀{l:List Tm} {lo:Option ByteArray},BR lo l->BR lo (l.filter q)
 | [],_,_=>trivial
 |t::r,lo,⟨h1,h2,h3⟩=>by
  have ih:=BR.filter q h3;rw[List.filter_cons];split
  .exact⟨h1,h2,ih⟩
  .cases lo<;>grind [BR.weak,BR.mono]
theorem LH{l:List Tm}{t:Tm}(h:BR lo l):t∈l↔Db l t.path=some t:=by
 constructor
 .induction l generalizing lo with
  |nil=>simp_all
  |cons u r ih=>
   intro ht;rw[Ek];rcases AN.1 ht with rfl | ht
   .simp_all
   .have:=BR.low h.2.2 t ht
    rw[Aw (RH this)];exact ih h.2.2 ht
 .exact HV
theorem Qq{p:ByteArray}{x:Sl}(h:A3 s p=some x):x.path=p:=by
 have:=Jr h;simp_all
theorem KI{p:ByteArray}{x:Sl}(h:A3 s p=some x):x∈s:=Cw h
theorem Fg{v:Ver}(h:Bo v=true):0<=v.a/\v.a<=999/\0<=v.b/\v.b<=999/\0<=v.c/\v.c<=999:=by
 unfold Bo at h;simp only[Au]at h;obtain⟨⟨a,b⟩,c⟩:=h;obtain⟨a1,a2⟩:=DR a;obtain⟨b1,b2⟩:=DR b;obtain⟨c1,c2⟩:=DR c<;>simp_all
theorem ld{v:Ver}(h:Bo v=true):0<=place v/\place v<1000000:=by
 have:=Fg h;grind [place]
theorem F0{l c:List Tm}(h:AW l=some c):BR none c:=by
 grind [AW,BR.filter,DH]
-- paths
def Eg:Bool:=decide (97<=c)&&decide (c<=122)
def LA:Bool:=decide (65<=c)&&decide (c<=90)
def BZ:Bool:=decide (48<=c)&&decide (c<=57)
def Fu:Bool:=Eg c||LA c||BZ c||decide (c=95)
def aV:List UInt8:=[32,97,110,100,32,97,110,121,32,97,115,32,98,111,111,108,32,100,101,112,114,101,99,97,116,101,100,32,101,108,115,101,32,101,120,112,111,114,116,32,102,97,108,115,101,32,102,110,32,102,111,108,100,32,102,114,111,109,32,105,102,32,105,109,112,111,114,116,32,105,110,32,105,110,116,32,108,101,110,103,116,104,32,108,101,116,32,108,105,115,116,32,109,97,116,99,104,32,109,111,100,117,108,101,32,110,111,110,101,32,110,111,116,32,111,114,32,116,101,120,116,32,116,104,101,110,32,116,114,117,101,32,116,121,112,101,32,117,115,101,32]
def OZ:List UInt8->List UInt8->Bool
 | [],_=>true
 |_::_,[]=>false
 |a::x,b::y=>decide (a=b)&&OZ x y
def md(x:List UInt8):List UInt8->Bool
 | []=>OZ x []
 |b::y=>OZ x (b::y)||md x y
def T6(s:List UInt8):Bool:=md (32::(s++[32])) aV
def Gf(s:List UInt8):Bool:=!s.isEmpty&&decide (s.length<=32)&&Eg (s.headD 0)&&s.all Fu&&!T6 s
def Hh(s:List UInt8):Bool:=Gf s&&s.all fun c=>Eg c||BZ c
def Dy(s:List UInt8):Int:=s.foldl (fun n c=>10*n+((c.toNat:Int)-48)) 0
def Fz(s:List UInt8):Option Int:=match s with
 |c::r=>if c=118 then(if r.isEmpty||decide (3<r.length)||(decide (1<r.length)&&decide (r.headD 0=48))||!r.all BZ then none else some (Dy r))else none
 | []=>none
def Ci(c:UInt8):List UInt8->List (List UInt8)
 | []=>[[]]
 |b::r=>if b=c then []::Ci c r else match Ci c r with
  | []=>[[b]]
  |x::l=>(b::x)::l
def NJ(p:List UInt8):Option Int:=match Fz ((Ci 47 p).getLastD [])with
 |none=>none
 |some n=>if 64<p.length||(Ci 47 p).length<2 then none else if(Ci 47 p).all Hh then some n else none
def A8:Option Int:=NJ p.data.toList
-- indexes
def GY(before:Option ByteArray)(q:Rq):Int:=
 if(A8 q.path).isNone then 4 else if q.set.isEmpty||!decide (q.set=canon q.set)||(match before with | some b=>!G1 b q.path | none=>false)then 1 else 0
def Ej(before:Option ByteArray):List Rq->Int
 | []=>0
 |q::r=>if GY before q=0 then Ej (some q.path) r else GY before q
def Ba(l:List Rq):Int:=if 16<l.length then 7 else Ej none l
def DU(s:ByteArray):Bool:=decide (s.size=0)||decide (s.size=32)
def Cz:Int:=match A8 r.path with
 |none=>4
 |some m=>if !Bo r.ver||!decide (r.ver.a=m)then 2 else if Ba r.reqs≠0 then Ba r.reqs else if DU r.arch&&DU r.ifc&&DU r.cert then 0 else 1
def FU(a b:Int):Int:=if a<b then -1 else if b<a then 1 else 0
def KD(a b:ByteArray):Int:=if G1 a b then -1 else if G1 b a then 1 else 0
def IL(a b:Ver):Int:=if FU a.a b.a≠0 then FU a.a b.a else if FU a.b b.b≠0 then FU a.b b.b else FU a.c b.c
def If(a b:Rl):Int:=if KD a.path b.path≠0 then KD a.path b.path else IL a.ver b.ver
def Cn:Sl:=⟨r.path,r.ver⟩
def BS(before:Option Rl):List Rl->Int
 | []=>0
 |r::l=>if Cz r≠0 then Cz r else match before with
  |none=>BS (some r) l
  |some b=>if Cn b=Cn r then 5 else if 0<If b r then 1 else BS (some r) l
def AD(l:List Rl):Int:=if 256<l.length then 7 else BS none l
def Bl(x:List Rl)(y:Sl):Option Rl:=if AD x≠0 then none else x.find? fun r=>decide (Cn r=y)
def Jf(x:List Rl)(p:ByteArray):List Rl:=if AD x≠0 then []else x.filter fun r=>decide (r.path=p)
def B3(x:List Rl)(p:ByteArray):AF:=canon (((Jf x p).filter fun r=>!r.yanked).map fun r=>(plc r.ver,plc r.ver+1))
def Lg(before:Option ByteArray):List Sl->Bool
 | []=>true
 |y::r=>(match before with |some b=>G1 b y.path |none=>true)&&Lg (some y.path) r
def Bb(s:List Sl):Bool:=Lg none s
-- solutions
def Fy(x:List Rl):List Sl->Option (List Rl)
 | []=>some []
 |y::s=>match Bl x y with
  |none=>none
  |some r=>match Fy x s with
   |none=>none
   |some l=>some (r::l)
def B4(l:List Rl)(q:Rq):Bool:=match l.find? (fun r=>decide (r.path=q.path))with
 |none=>true
 |some r=>!has q.set (plc r.ver)
def EL(l:List Rl)(p:ByteArray):List Rq:=match l.find? (fun r=>decide (r.path=p))with
 |none=>[]
 |some r=>r.reqs
def ER(l:List Rl):Nat->List Rq->List ByteArray->List ByteArray
 |0,_,d=>d
 |_+1,[],d=>d
 |n+1,q::t,d=>if d.any (fun p=>decide (p=q.path))then ER l n t d else ER l n (t++EL l q.path) (d++[q.path])
def GW(l:List Rl)(roots:List Rq):Nat:=roots.length+(l.map fun r=>r.reqs.length).foldl (·+·) 0+1
def CO(x:List Rl)(roots:List Rq)(s:List Sl):Int:=
 if AD x≠0 then 1 else if !Bb s then 1 else match Fy x s with
  |none=>6
  |some l=>if l.any (fun r=>r.reqs.any (B4 l))then 17 else if roots.any (B4 l)then 17 else
   if(ER l (GW l roots) roots []).length<l.length then 8 else 0
-- derivations
def Dd(x:List Rl)(p:ByteArray)(pl:Int):Option Rl:=x.find? fun r=>decide (r.path=p)&&decide (plc r.ver=pl)
def mt:ByteArray:=⟨#[]⟩
def Di(l:List α)(i:Int):Option α:=if i<0 then none else l[i.toNat]?
def Rj:Option (List Tm):=if l.isEmpty then none else some l
def AP(x:List Rl)(roots:List Rq)(d:List (List Tm))(i:Nf):Option (List Tm):=
 if i.kind=0 then
  if i.path=mt/\i.place=0/\i.left=0/\i.right=0 then(Di roots i.number).map Li else none
 else if i.kind=1 then
  if i.left=0/\i.right=0 then match Dd x i.path i.place with
   |none=>none
   |some r=>match Di r.reqs i.number with
    |none=>none
    |some q=>Rj (Cb i.path i.place q)
  else none
 else if i.kind=2 then
  if i.place=0/\i.number=0/\i.left=0/\i.right=0 then Rj (Gg i.path (B3 x i.path))else none
 else if i.kind=3 then
  if i.place=0/\i.number=0 then match Di d i.left,Di d i.right with
   |some a,some b=>if(Bn a b i.path).2=0 then some (Bn a b i.path).1 else none
   |_,_=>none
  else none
 else none
def Bu(x:List Rl)(roots:List Rq):List Nf->List (List Tm)->Option (List (List Tm))
 | [],d=>some d
 |i::l,d=>match AP x roots d i with
  |none=>none
  |some t=>Bu x roots l (d++[t])
def Ax(x:List Rl)(roots:List Rq)(l:List Nf):List (List Tm)×Int:=
 if AD x≠0\/Ba roots≠0 then([],1)else if 65536<l.length then([],7)else match Bu x roots l []with
  |none=>([],18)
  |some d=>(d,0)
def DW(d:List (List Tm)):Bool:=match d.getLast? with | some []=>true | _=>false
def Ff(x:List Rl)(roots:List Rq)(l:List Nf):Int:=
 if(Ax x roots l).2≠0 then(Ax x roots l).2 else if DW (Ax x roots l).1 then 0 else 18
-- decisions
def F7(before:List Sl):List Rq->Option ByteArray->Option ByteArray
 | [],acc=>acc
 |q::l,acc=>F7 before l (if Ch before q.path then acc else match acc with
  |none=>some q.path
  |some p=>if G1 q.path p then some q.path else some p)
def Ei(needs:List Rq)(before:List Sl):Option ByteArray:=F7 before needs none
structure TO where
 before:List Sl
 needs:List Rq
 rel:Rl
def Eh(x:List Rl)(s:List Sl):Nat->List Sl->List Rq->List TO×Bool
 |0,_,_=>([],true)
 |n+1,before,needs=>match Ei needs before with
  |none=>([],true)
  |some p=>match A3 s p with
   |none=>([],false)
   |some y=>match Bl x y with
    |none=>([],false)
    |some r=>(⟨before,needs,r⟩::(Eh x s n (before++[y]) (needs++r.reqs)).1,(Eh x s n (before++[y]) (needs++r.reqs)).2)
def visits(x:List Rl)(roots:List Rq)(s:List Sl):List TO×Bool:=Eh x s (s.length+1) [] roots
def Bw(x:List Rl)(roots:List Rq)(s:List Sl):List ByteArray×Int:=
 if AD x≠0\/Ba roots≠0\/Bb s=false then([],1)else if(visits x roots s).2 then((visits x roots s).1.map fun v=>v.rel.path,0)else([],6)
-- answers
def DP(d:List (List Tm))(v:TO):List Rl->List Sk->List Sk×Bool
 | [],k=>(k,true)
 |o::x,k=>
  if !decide (o.path=v.rel.path)||o.yanked||!decide (plc o.ver<plc v.rel.ver)then DP d v x k else
  if v.needs.any (fun q=>decide (q.path=v.rel.path)&&!has q.set (plc o.ver))then DP d v x k else
  match k with
  | []=>([],false)
  |y::k'=>if !decide (y.path=v.rel.path)||!decide (y.place=plc o.ver)then([],false)else match Di d y.inf with
   |none=>([],false)
   |some t=>if CN t (v.before++[Cn o])then DP d v x k' else([],false)
def BT(x:List Rl)(d:List (List Tm))(a:Bool×List Sk)(v:TO):Bool×List Sk:=
 (a.1&&(DP d v x a.2).2&&!v.rel.yanked,(DP d v x a.2).1)
def CW(x:List Rl)(roots:List Rq)(a:An):Int:=
 if(Ax x roots a.infs).2≠0 then(Ax x roots a.infs).2 else
 if a.found=false then(if !a.sel.isEmpty||!a.skips.isEmpty||!DW (Ax x roots a.infs).1 then 18 else 0)else
 if CO x roots a.sel≠0 then 18 else
 if(((visits x roots a.sel).1.foldl (BT x (Ax x roots a.infs).1) (true,a.skips)).1&&((visits x roots a.sel).1.foldl (BT x (Ax x roots a.infs).1) (true,a.skips)).2.isEmpty)then 0 else 18
-- the example
def bs(l:List UInt8):ByteArray:=⟨⟨l⟩⟩
def qD:ByteArray:=bs [97,47,118,49]
def pu:ByteArray:=bs [98,47,118,49]
def Oq:List Rl:=[⟨qD,⟨1,0,0⟩,[⟨pu,[(2000,1000000)]⟩],mt,mt,mt,false⟩,⟨pu,⟨1,0,0⟩,[],mt,mt,mt,false⟩,⟨pu,⟨1,1,0⟩,[],mt,mt,mt,false⟩]
def Gb:List Rq:=[⟨qD,[(0,1000000)]⟩]
def IA:List Nf:=[⟨0,mt,0,0,0,0⟩,⟨2,qD,0,0,0,0⟩,⟨3,qD,0,0,0,1⟩,⟨1,qD,0,0,0,0⟩,⟨2,pu,0,0,0,0⟩,⟨3,pu,0,0,3,4⟩,⟨3,qD,0,0,2,5⟩]
-- the order of releases
theorem Ka{a b:Int}(h:FU a b=0):a=b:=by
 grind [FU]
theorem V3{a b:Int}(h:FU a b<0):a<b:=by
 grind [FU]
theorem UA(h:KD a b=0):a=b:=by
 grind [KD,Q8]
theorem mU(h:KD a b<0):G1 a b=true:=by
 grind [KD]
def rN(a b:Ver):Prop:=a.a<b.a\/(a.a=b.a/\(a.b<b.b\/(a.b=b.b/\a.c<b.c)))
def kz(a b:Rl):Prop:=G1 a.path b.path=true\/(a.path=b.path/\rN a.ver b.ver)
theorem mW{a b:Ver}(h:IL a b<0):rN a b:=by
 unfold IL at h;split at h
 .exact .inl (V3 h)
 .rename_i h1;have h1:=Ka (Bs.1 h1);split at h
  .exact .inr ⟨h1,.inl (V3 h)⟩
  .rename_i h2;exact .inr ⟨h1,.inr ⟨Ka (Bs.1 h2),V3 h⟩⟩
theorem dW{a b:Ver}(h:IL a b=0):a=b:=by
 unfold IL at h;split at h
 .omega
 .rename_i h1;have h1:=Ka (Bs.1 h1);split at h
  .omega
  .rename_i h2;have h2:=Ka (Bs.1 h2);have h3:=Ka h;cases a<;>simp_all
theorem UB{a b:Rl}(h:If a b=0):Cn a=Cn b:=by
 grind [If,UA,dW,Cn]
theorem mV{a b:Rl}(h:If a b<0):kz a b:=by
 unfold If at h;split at h
 .exact .inl (mU h)
 .rename_i h1;exact .inr ⟨UA (Bs.1 h1),mW h⟩
theorem fB{a b c:Ver}(h:rN a b)(k:rN b c):rN a c:=by grind [rN]
theorem fA{a b c:Rl}(h:kz a b)(k:kz b c):kz a c:=by
 rcases h with h | ⟨h1,h2⟩
 .rcases k with k | ⟨k1,k2⟩
  .exact .inl (HT h k)
  .exact .inl (k1▸h)
 .rcases k with k | ⟨k1,k2⟩
  .exact .inl (h1▸k)
  .exact .inr ⟨h1.trans k1,fB h2 k2⟩
theorem SY{a b:Rl}(h:kz a b)(k:Cn a=Cn b):False:=by
 unfold Cn at k;simp only[Sl.mk.injEq]at k;rcases h with h | ⟨_,h⟩<;>grind [FF,rN]
-- a valid index
structure Xs(r:Rl):Prop where
 maj:A8 r.path=some r.ver.a
 val:Bo r.ver=true
 reqs:Ba r.reqs=0
theorem ZW{r:Rl}(h:Cz r=0):Xs r:=by
 grind [Cz,Xs.mk]
theorem Oh:∀{l:List Rl} {b:Option Rl},BS b l=0->(∀r∈l,Xs r)/\(l.Pairwise kz/\∀c,b=some c->∀r∈l,kz c r)
 | [],b,_=>⟨fun _ h=>(by cases h),.nil,fun _ _ _ h=>(by cases h)⟩
 |r::l,b,h=>by
  unfold BS at h;split at h
  .omega
  .rename_i h1;have hr:=ZW (Bs.1 h1);have go:BS (some r) l=0->(∀c,b=some c->kz c r)->(∀z∈r::l,Xs z)/\((r::l).Pairwise kz/\∀c,b=some c->∀z∈r::l,kz c z):=fun h hc=>by
    obtain⟨i1,i2,i3⟩:=Oh h<;>grind [fA,List.Pairwise.cons]
   grind [mV,UB]
theorem D0{l:List Rl}(h:AD l=0):(∀r∈l,Xs r)/\l.Pairwise kz:=by
 grind [AD,Oh]
theorem Xs.plc{r:Rl}(h:Xs r):plc r.ver=place r.ver:=by grind [plc,Xs.val]
theorem Cs{r:Rl}(h:Bl x y=some r):AD x=0/\r∈x/\Cn r=y:=by
 grind [Bl]
structure Sol(x:List Rl)(roots:List Rq)(s:List Sl):Prop where
 ix:AD x=0
 inc:Bb s=true
 fnd:∀y∈s,∃r,Bl x y=some r/\r.yanked=false
 root:∀q∈roots,∃y,A3 s q.path=some y/\has q.set (place y.ver)=true
 req:∀y∈s,∀r,Bl x y=some r->∀q∈r.reqs,∃z,A3 s q.path=some z/\has q.set (place z.ver)=true
theorem Jb:∀{s:List Sl} {b:Option ByteArray},Lg b s=true->s.Pairwise (fun a b=>G1 a.path b.path=true)/\∀c,b=some c->∀y∈s,G1 c y.path=true
 | [],_,_=>⟨.nil,fun _ _ _ h=>by cases h⟩
 |y::r,b,h=>by
  unfold Lg at h;simp only[Au]at h;obtain⟨h1,h2⟩:=h;obtain⟨i1,i2⟩:=Jb h2<;>grind [HT,List.Pairwise.cons]
theorem TW(h:s.Pairwise (fun a b=>G1 a.path b.path=true))(hy:y∈s):A3 s y.path=some y:=by
 induction h<;>grind [A3,RH]
theorem LG(h:Bb s=true)(hy:y∈s):A3 s y.path=some y:=TW (Jb h).1 hy
theorem Gj{x:List Rl}:∀{s:List Sl} {l:List Rl},Fy x s=some l->l.map Cn=s/\(∀r∈l,Bl x (Cn r)=some r)/\∀y∈s,∃r∈l,Bl x y=some r
 | [],l,h=>by cases h<;>simp_all
 |y::s,l,h=>by
  unfold Fy at h;split at h
  .cases h
  .rename_i r hr;split at h
   .cases h
   .rename_i l' hl;cases h;obtain⟨i1,i2,i3⟩:=Gj hl;have hk:=(Cs hr).2.2;simp_all
theorem UH:∀(l:List Rl) (p:ByteArray),(l.find? fun r=>decide (r.path=p)).map Cn=A3 (l.map Cn) p
 | [],_=>rfl
 |r::l,p=>by
  unfold A3;rw[Ui,BU,Ui];show _=(match decide (r.path=p)with | true=>some (Cn r) | false=>_);cases h:decide (r.path=p)with
  |true=>rfl
  |false=>exact UH l p
theorem KQ{l:List Rl}(hx:AD x=0)(hl:Fy x s=some l){q:Rq}(h:B4 l q=false):∃y,A3 s q.path=some y/\has q.set (place y.ver)=true:=by
 obtain⟨h1,h2,h3⟩:=Gj hl;unfold B4 at h;have hk:=UH l q.path;split at h
 .cases h
 .rename_i r hr;rw[hr,h1]at hk;refine⟨Cn r,hk.symm,?_⟩;have hm:=(Cs (h2 r (Cw hr))).2.1;show has q.set (place r.ver)=true;rw[<-((D0 hx).1 r hm).plc];simp_all
structure J6(x:List Rl)(roots:List Rq)(s:List Sl)(l:List Rl):Prop where
 ix:AD x=0
 inc:Bb s=true
 sel:Fy x s=some l
 rl:∀r∈l,∀q∈r.reqs,B4 l q=false
 rt:∀q∈roots,B4 l q=false
 min:l.length<=(ER l (GW l roots) roots []).length
theorem TB(h:CO x roots s=0):∃l,J6 x roots s l:=by
 unfold CO at h;split at h
 .cases h
 .rename_i h1;split at h
  .cases h
  .rename_i h2;split at h
   .cases h
   .rename_i l hl;split at h
    .cases h
    .rename_i h3;split at h
     .cases h
     .rename_i h4;split at h
      .cases h
      .rename_i h5;refine⟨l,Bs.1 h1,by simp_all,hl,fun r hr q hq=>?_,fun q hq=>?_,by omega⟩
       all_goals grind
theorem J6.sol{l:List Rl}(h:J6 x roots s l)(hy:∀y∈s,∀r,Bl x y=some r->r.yanked=false):Sol x roots s:=by
 obtain⟨h1,h2,h3⟩:=Gj h.sel;refine⟨h.ix,h.inc,fun y hm=>?_,fun q hq=>KQ h.ix h.sel (h.rt q hq),fun y hm r hr q hq=>?_⟩
 .grind
 .obtain⟨r',h4,h5⟩:=h3 y hm;rw[hr]at h5;cases h5;exact KQ h.ix h.sel (h.rl r h4 q hq)
-- soundness
theorem DJ{α:Type}[DecidableEq α]:∀{l m:List α},l.Nodup->(∀x∈l,x∈m)->l.length<=m.length
 | [],_,_,_=>Ao _
 |a::l,m,hn,hs=>by
  rw[Gq]at hn;have ha:a∈m:=hs a (Ai ..)
  have:=DJ (l:=l) (m:=m.erase a) hn.2 fun x hx=>by
   grind
  grind
theorem YU[DecidableEq α]{l m:List α}(hn:l.Nodup)(hs:∀x∈l,x∈m)(hl:m.length<=l.length):∀x∈m,x∈l:=fun x hx=>by
 apply AQ;intro Xf
 have:=DJ (m:=m.erase x) hn fun y hy=>(List.mem_erase_of_ne (a:=y) (b:=x) (fun e=>Xf (by simp_all))).2 (hs y hy)
 grind
abbrev xc(s:List Sl):Prop:=s.Pairwise (fun a b=>G1 a.path b.path=true)
theorem aP(h:xc s):(s.map (·.path)).Nodup:=by
 grind [RH]
-- the next path
theorem L4(before:List Sl):∀{l:List Rq} {acc:Option ByteArray},(∀p,acc=some p->Ch before p=false) ->
  (∀p,F7 before l acc=some p->Ch before p=false/\(acc=some p\/∃q∈l,q.path=p))/\(F7 before l acc=none->acc=none/\∀q∈l,Ch before q.path=true)
 | [],acc,ha=>⟨fun p h=>⟨ha p h,.inl h⟩,fun h=>⟨h,fun _ h=>(by cases h)⟩⟩
 |q::l,acc,ha=>by
  unfold F7
  have key:∀dq,(∀p,dq=some p->Ch before p=false)->(∀p,dq=some p->acc=some p\/q.path=p)->(dq=none->acc=none/\Ch before q.path=true) ->
    (∀p,F7 before l dq=some p->Ch before p=false/\(acc=some p\/∃q'∈q::l,q'.path=p))/\(F7 before l dq=none->acc=none/\∀q'∈q::l,Ch before q'.path=true):=by
   intro dq h1 h2 h3;obtain⟨i1,i2⟩:=L4 before (l:=l) h1<;>grind
  cases hb:Ch before q.path<;>grind
theorem NR{needs:List Rq}{before:List Sl}{p:ByteArray}(h:Ei needs before=some p):Ch before p=false/\∃q∈needs,q.path=p:=by
 obtain⟨h1,h2⟩:=(L4 before (l:=needs) (acc:=none) fun _ e=>by cases e).1 p h<;>simp_all
theorem bh{needs:List Rq}{before:List Sl}(h:Ei needs before=none):∀q∈needs,Ch before q.path=true:=
 ((L4 before (l:=needs) (acc:=none) fun _ e=>by cases e).2 h).2
theorem Wt{p:ByteArray}:Ch s p=true↔∃y∈s,y.path=p:=by grind [Ch]
theorem JH{p:ByteArray}:Ch s p=true↔p∈s.map (·.path):=by grind [Wt]
abbrev FA(v:TO):Sl:=Cn v.rel
structure ml(x:List Rl)(s:List Sl)(before:List Sl)(needs:List Rq)(vs:List TO):Prop where
 closed:∀q∈needs,Ch (before++vs.map FA) q.path=true
 closedR:∀v∈vs,∀q∈v.rel.reqs,Ch (before++vs.map FA) q.path=true
 mem:∀v∈vs,FA v∈s/\Bl x (FA v)=some v.rel
 nodup:((before++vs.map FA).map (·.path)).Nodup
theorem lz{x:List Rl}{s:List Sl}:∀{n:Nat} {before:List Sl} {needs:List Rq},(before.map (·.path)).Nodup->(∀y∈before,y∈s)->s.length+1<=n+before.length->(Eh x s n before needs).2=true ->
  ml x s before needs (Eh x s n before needs).1
 |0,before,needs,h1,h2,h3,_=>by
  exfalso
  have:=DJ (m:=s.map (·.path)) h1 fun p hp=>by
   grind
  grind
 |n+1,before,needs,h1,h2,h3,h4=>by
  unfold Eh at h4⊢;cases hp:Ei needs before with
  |none=>grind [bh,ml.mk]
  |some p=>
   rw[hp]at h4;dsimp only at h4⊢;cases hf:A3 s p with
   |none=>simp_all
   |some y=>
    rw[hf]at h4;dsimp only at h4⊢;cases hr:Bl x y with
    |none=>simp_all
    |some r=>
     rw[hr]at h4;dsimp only at h4⊢;obtain⟨g1,g2⟩:=NR hp;have hy:=KI hf;have hyp:=Qq hf;have hk:Cn r=y:=(Cs hr).2.2;have ih:=lz (x:=x) (s:=s) (n:=n) (before:=before++[y]) (needs:=needs++r.reqs) (by
       grind [JH])
      (fun z hz=>by
       grind) (by grind) h4
     have e:before++(⟨before,needs,r⟩::(Eh x s n (before++[y]) (needs++r.reqs)).1).map FA=before++[y]++(Eh x s n (before++[y]) (needs++r.reqs)).1.map FA:=by
      simp_all
     refine⟨fun q hq=>?_,fun v hv q hq=>?_,fun v hv=>?_,?_⟩
     all_goals grind [ml.closed,ml.closedR,ml.mem,ml.nodup]
theorem FK(h:(visits x roots s).2=true):ml x s [] roots (visits x roots s).1:=lz aa1 (fun _ h=>by cases h) aa1 h
theorem Ok{x:List Rl}{s:List Sl}(hs:∀y∈s,∃r,Bl x y=some r)(hq:∀y∈s,∀r,Bl x y=some r->∀q∈r.reqs,∃z,A3 s q.path=some z) :
  ∀{n:Nat} {before:List Sl} {needs:List Rq},(∀q∈needs,∃z,A3 s q.path=some z)->(Eh x s n before needs).2=true
 |0,_,_,_=>rfl
 |n+1,before,needs,hn=>by
  unfold Eh;cases hp:Ei needs before with
  |none=>rfl
  |some p=>
   dsimp only;obtain⟨_,q,q1,q2⟩:=NR hp;obtain⟨z,hz⟩:=hn q q1;rw[q2]at hz;rw[hz];dsimp only;obtain⟨r,hr⟩:=hs z (KI hz);rw[hr];dsimp only;refine Ok hs hq fun q hq'=>?_
   grind [KI]
-- what is needed
theorem MF{l:List Rl}{C:List ByteArray}(hC:∀r∈l,r.path∈C->∀q∈r.reqs,q.path∈C):∀{n:Nat} {t:List Rq} {d:List ByteArray},(∀q∈t,q.path∈C)->(∀p∈d,p∈C)->∀p∈ER l n t d,p∈C
 |0,_,_,_,hd=>by grind [ER]
 |_+1,[],_,_,hd=>by grind [ER]
 |n+1,q::t,d,ht,hd=>by
  unfold ER;split
  .exact MF hC (fun q hq=>ht q (At _ hq)) hd
  .refine MF hC (fun q' hq=>?_) fun p hp=>?_
   all_goals grind [EL]
theorem JL{l:List Rl}:∀{n:Nat} {t:List Rq} {d:List ByteArray},d.Nodup->(ER l n t d).Nodup
 |0,_,_,hd=>by grind [ER]
 |_+1,[],_,hd=>by grind [ER]
 |n+1,q::t,d,hd=>by
  unfold ER;split
  .exact JL hd
  .rename_i h;refine JL ?_
   grind
theorem Z0{l:List Rl}(h:J6 x roots s l){C:List ByteArray}(hn:C.Nodup)(hr:∀q∈roots,q.path∈C)(hC:∀y∈s,∀r,Bl x y=some r->y.path∈C->∀q∈r.reqs,q.path∈C)(hs:∀p∈C,p∈s.map (·.path)):(∀y∈s,y.path∈C)/\C.length=s.length:=by
 obtain⟨h1,h2,h3⟩:=Gj h.sel;have ff:=MF (l:=l) (C:=C) (fun r hr hp q hq=>by
  have hk:Cn r∈s:=by grind
  grind [Cn]) (n:=GW l roots) (t:=roots) (d:=[]) hr (fun _ h=>by cases h)
 have Cy:=DJ (JL (l:=l) (n:=GW l roots) (t:=roots) List.nodup_nil) ff;have hl:l.length=s.length:=by grind
 have nU:=h.min;have zE:=YU hn hs (by grind);refine⟨fun y hy=>zE _ (Ay.2 ⟨y,hy,rfl⟩),?_⟩
 have:=DJ hn hs
 grind
theorem J6.fnd{l:List Rl}(h:J6 x roots s l):∀y∈s,∃r,Bl x y=some r:=fun y hy=>by
 obtain⟨r,_,h⟩:=(Gj h.sel).2.2 y hy<;>simp_all
theorem J6.req{l:List Rl}(h:J6 x roots s l):∀y∈s,∀r,Bl x y=some r->∀q∈r.reqs,∃z,A3 s q.path=some z/\has q.set (place z.ver)=true:=fun y hy r hr q hq=>by
 obtain⟨r',h4,h5⟩:=(Gj h.sel).2.2 y hy;rw[hr]at h5;cases h5;exact KQ h.ix h.sel (h.rl r h4 q hq)
theorem J6.root{l:List Rl}(h:J6 x roots s l):∀q∈roots,∃z,A3 s q.path=some z/\has q.set (place z.ver)=true:=fun q hq=>KQ h.ix h.sel (h.rt q hq)
theorem J6.visits{x:List Rl}{roots:List Rq}{s:List Sl}{l:List Rl}(h:J6 x roots s l):(visits x roots s).2=true:=
 Ok h.fnd (fun y hy r hr q hq=>let ⟨z,hz,_⟩:=h.req y hy r hr q hq;⟨z,hz⟩) fun q hq=>let ⟨z,hz,_⟩:=h.root q hq;⟨z,hz⟩
theorem J6.all{l:List Rl}(h:J6 x roots s l):(∀y∈s,∃v∈(Go.Eng.visits x roots s).1,FA v=y)/\(Go.Eng.visits x roots s).1.length=s.length:=by
 have hr:=FK h.visits;have hu:∀{y:Sl},y∈s->A3 s y.path=some y:=LG h.inc;have key:∀y∈s,y.path∈((Go.Eng.visits x roots s).1.map FA).map (·.path)->∃v∈(Go.Eng.visits x roots s).1,FA v=y:=fun y hy hp=>by
  obtain⟨z,hz,e⟩:=Ay.1 hp;obtain⟨v,hv,rfl⟩:=Ay.1 hz;refine⟨v,hv,?_⟩;have h1:=hu (hr.mem v hv).1;simp_all
 have:=Z0 h (C:=((Go.Eng.visits x roots s).1.map FA).map (·.path)) (by simpa using hr.nodup) (fun q hq=>by have:=hr.closed q hq;grind [JH]) (fun y hy r GH hp q hq=>by
  obtain⟨v,hv,e⟩:=key y hy hp;have h1:=(hr.mem v hv).2;rw[e,GH]at h1;cases h1
  have:=hr.closedR v hv q hq;grind [JH]) (fun p hp=>by
  obtain⟨z,hz,rfl⟩:=Ay.1 hp;obtain⟨v,hv,rfl⟩:=Ay.1 hz;exact Ay.2 ⟨_,(hr.mem v hv).1,rfl⟩)
 grind
-- skips
-- right answers
theorem UK{x:List Rl}{d:List (List Tm)}:∀{vs:List TO} {a:Bool×List Sk},(vs.foldl (BT x d) a).1=true->a.1=true/\∀v∈vs,(∃k k',DP d v x k=(k',true))/\v.rel.yanked=false
 | [],a,h=>⟨h,fun _ h=>by cases h⟩
 |v::vs,a,h=>by
  rw[DX]at h;obtain⟨i1,i2⟩:=UK h<;>grind [BT]
structure sY(x:List Rl)(roots:List Rq)(a:An)(l:List Rl):Prop where
 d0:(Ax x roots a.infs).2=0
 sol0:J6 x roots a.sel l
 sol:Sol x roots a.sel
 skip:∀v∈(visits x roots a.sel).1,∃k k',DP (Ax x roots a.infs).1 v x k=(k',true)
theorem Ms{a:An}(h:CW x roots a=0) :
  (Ax x roots a.infs).2=0/\((a.found=false/\a.sel=[]/\a.skips=[]/\DW (Ax x roots a.infs).1=true) \/
   (a.found=true/\(∃l,sY x roots a l)/\CO x roots a.sel=0/\(visits x roots a.sel).1.foldl (BT x (Ax x roots a.infs).1) (true,a.skips)=(true,[]))):=by
 unfold CW at h;split at h
 .omega
 .rename_i h1;have h1:=Bs.1 h1;refine⟨h1,?_⟩;split at h
  .simp_all
  .rename_i h2;have h2:a.found=true:=by simp_all
   split at h
   .cases h
   .rename_i h3;have h3:=Bs.1 h3;split at h
    .rename_i h4;simp only[Au,Ll]at h4;obtain⟨l,hl⟩:=TB h3;have hf:=UK h4.1;refine .inr ⟨h2,⟨l,h1,hl,hl.sol fun y hy r hr=>?_,fun v hv=>(hf.2 v hv).1⟩,h3,Prod.ext h4.1 h4.2⟩
     grind [FK,J6.all,ml.mem,J6.visits]
    omega
-- the first decision that differs
-- prefixes
theorem Hv{x:List Rl}{roots:List Rq}:∀{l:List Nf} {d d' : List (List Tm)},Bu x roots l d=some d'->d'.length=d.length+l.length
 | [],d,d',h=>by cases h;rfl
 |i::l,d,d',h=>by
  unfold Bu at h;split at h
  .cases h
  .have:=Hv h
   grind
theorem ET{x:List Rl}{roots:List Rq}:∀(l m:List Nf) (d:List (List Tm)),Bu x roots (l++m) d=match Bu x roots l d with | none=>none | some d'=>Bu x roots m d'
 | [],_,_=>rfl
 |i::l,m,d=>by
  show(match AP x roots d i with | none=>none | some t=>Bu x roots (l++m) (d++[t]))=(match(match AP x roots d i with | none=>none | some t=>Bu x roots l (d++[t]))with | none=>none | some d'=>Bu x roots m d');cases AP x roots d i with
  |none=>rfl
  |some t=>exact ET l m _
theorem K9{x:List Rl}{roots:List Rq}:∀{l:List Nf} {d d' : List (List Tm)},Bu x roots l d=some d'->d <+: d'
 | [],d,d',h=>by cases h<;>simp_all
 |i::l,d,d',h=>by
  unfold Bu at h;split at h
  .cases h
  .exact(List.prefix_append _ _).trans (K9 h)
theorem M2{l:List Nf}{d:List (List Tm)}(h:Bu x roots l []=some d)(k:Nat):Bu x roots (l.take k) []=some (d.take k):=by
 rw[<-List.take_append_drop k l,ET]at h;cases e:Bu x roots (l.take k) []with
 |none=>simp_all
 |some f=>
  rw[e]at h;dsimp only at h;have h1:=Hv e;have h2:=Hv h;have h3:=K9 h
  congr 1
  simp only[AA,AC,Ru]at h1 h2;obtain⟨z,rfl⟩:=h3
  by_cases hk:k<=l.length
  .simp_all
  .rw[As]at h2
   have:z=[]:=Az aa0
   grind [List.take_of_length_le]
theorem DN{l:List Nf}(h:(Ax x roots l).2=0):AD x=0/\Ba roots=0/\l.length<=65536/\Bu x roots l []=some (Ax x roots l).1:=by
 grind [Ax]
theorem RT{l:List Nf}(h1:AD x=0)(h2:Ba roots=0)(h3:l.length<=65536){d:List (List Tm)}(h:Bu x roots l []=some d):Ax x roots l=(d,0):=by
 grind [Ax]
-- tampering
def DG(l:AF):AF:=(l.map GP).filter fun x=>decide (x.1<x.2)
theorem Uz{l:AF}{x:Int×Int}(h:x∈DG l):0<=x.1/\x.1<x.2/\x.2<=1000000:=by
 grind [DG,GP]
theorem dV(l:AF)(p:Int):(DG l).any (BP p)=has l p:=by
 rw[<-J8]
 induction l<;>grind [DG,canon,N5,Bc]
theorem Ns:∀{l:AF} {lo:Int},D7 lo l↔(∀y∈l,lo<=y.1/\y.1<y.2/\y.2<=1000000)/\l.Pairwise fun a b=>a.2<b.1
 | [],lo=>by simp[D7]
 |y::r,lo=>by
  rw[Hk];constructor
  .intro h;have hl:=h.low;refine⟨hl,fun z hz=>?_,((Ns (l:=r)).1 h.2.2.2).2⟩
   have:=h.2.2.2.low z hz;omega
  .intro⟨h1,h2,h3⟩;have hy:=h1 y (Ai ..);refine⟨hy.1,hy.2.1,hy.2.2,Ns.2 ⟨fun z hz=>?_,h3⟩⟩
   grind
def Jk(r:AF)(x:Int×Int):AF:=match r with
 | []=>[x]
 |y::t=>if x.1<=y.2 then(y.1,max y.2 x.2)::t else x::y::t
def BA(s:AF):AF:=s.foldl Jk []
theorem Fb(s:AF)(i:Nat)(h:i<s.length):BA (s.take (i+1))=Jk (BA (s.take i)) s[i]:=by
 grind [BA,List.take_add_one]
theorem gG(r:AF)(x:Int×Int):(Jk r x).length<=r.length+1/\r.length<=(Jk r x).length/\0<(Jk r x).length:=by
 unfold Jk
 grind
theorem NL(s:AF):∀i,i<=s.length->(BA (s.take i)).length<=i/\(0<i->0<(BA (s.take i)).length):=by
 intro i
 induction i<;>grind [BA,Fb,gG]
structure dn(r done:AF):Prop where
 ok:∀y∈r,0<=y.1/\y.1<y.2/\y.2<=1000000
 pw:r.Pairwise fun a b=>b.2<a.1
 has:∀p,r.any (BP p)=done.any (BP p)
 first:∀y t,r=y::t->∃x∈done,y.1=x.1
theorem gF{r done:AF}{x:Int×Int}(h:dn r done)(hx:0<=x.1/\x.1<x.2/\x.2<=1000000)(hs:∀y∈done,y.1<=x.1):dn (Jk r x) (done++[x]):=by
 unfold Jk;split
 .refine⟨fun y hy=>?_,by simp,fun p=>?_,fun y t e=>?_⟩
  all_goals grind [dn.has]
 .rename_i y t;have hy:=h.ok y (Ai ..);obtain⟨pw1,pw2⟩:=Hk.1 h.pw;obtain⟨z,hz,e⟩:=h.first y t rfl
  have hyx:=hs z hz;split
  .rename_i HB;refine⟨fun u hu=>?_,Hk.2 ⟨pw1,pw2⟩,fun p=>?_,fun u t' e'=>?_⟩
   .rcases AN.1 hu with rfl | hu
    .omega
    .exact h.ok u (At _ hu)
   .rw[List.any_append,<-h.has,Er,Er,Er,List.any_nil,Bool.or_false]
    grind [BP]
   grind
  .rename_i HB;refine⟨fun u hu=>?_,Hk.2 ⟨fun u hu=>?_,h.pw⟩,fun p=>?_,fun u t' e'=>?_⟩
   .rcases AN.1 hu with rfl | hu
    .exact hx
    .exact h.ok u hu
   all_goals grind [dn.has]
theorem bc{s:AF}(Qw:∀y∈s,0<=y.1/\y.1<y.2/\y.2<=1000000)(hs:s.Pairwise fun a b=>a.1<=b.1):∀i,i<=s.length->dn (BA (s.take i)) (s.take i):=by
 intro i
 induction i with
 |zero=>intro _;exact⟨fun _ h=>by grind [BA],by simp[BA],fun p=>by simp[BA],fun y t e=>by grind [BA]⟩
 |succ i ih=>
  grind [Fb,List.take_add_one,gF,List.mem_iff_getElem,List.pairwise_iff_getElem]
theorem K8{l s:AF}(hp:s.Perm (DG l))(hs:s.Pairwise fun a b=>a.1<=b.1):(BA s).reverse=canon l:=by
 have hi:=bc (s:=s) (fun y hy=>Uz (hp.mem_iff.1 hy)) hs s.length (Aq _);rw[Ec]at hi;have hc:EY (BA s).reverse:=by
  unfold EY;rw[Ns];refine⟨fun y hy=>hi.ok y (List.mem_reverse.1 hy),?_⟩
  grind [dn.pw]
 refine RM hc fun p=>?_;rw[Hz hc,List.any_reverse,hi.has,<-dV]
 grind
end Go.Eng
