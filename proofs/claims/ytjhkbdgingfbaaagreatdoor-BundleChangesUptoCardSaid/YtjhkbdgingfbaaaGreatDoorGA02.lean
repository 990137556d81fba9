/- Lemmas 2. -/
import Derived.Test.YtjhkbdgingfbaaaGreatDoorGA00
import Derived.WalkKit
import Derived.Still
import Derived.RangeFuncSeq
import Derived.OrdersIn
import Derived.TacticsIn
namespace Go.Eng
variable {vs:Array Value}{E:TypeId}(op:BinOp)(f:Nat->Option Nat)(o:Oper)
theorem sT{p:Prop}(h:p:=by kernel_rfl):p:=h
inductive Tk | none | full (sz:Nat) | id (r sz:Nat) | ver (r sz v:Nat)
inductive KS | int (k:IntKind) | str | bool
structure DG where
 agg:Bool
 l:List KS
variable (sh:DG)
inductive AV
 |v (x:Value)
 |slice (tk:Tk) (es:List (List AV))
 |msl (r n:Nat)
 |agg (cs:List AV)
 |tup (vs:List AV)
 |cptr (cs:List AV)
 |ref (r off:Nat)
 |eref (r n sz i off:Nat)
 |mref (r:Nat)
 |cmap (sh:DG) (BK:List (Value×AV))
 |clo (f:Nat) (Cs:List AV)
 |junk
variable (x:AV)(K:AV->Prop)
inductive HO
 |free
 |dead
 |cells (cs:List AV)
 |ro (cs:List AV)
 |tok (sz n:Nat)
 |var (sz v n:Nat)
 |vox (v:Nat)
 |arr (sz:Nat) (es:List (List AV))
 |map (sh:DG) (BK:List (Value×AV))
 |mapU (sh:DG) (BK:List (Value×AV))
 |rom (sh:DG) (BK:List (Value×AV))
 |iter (all rem:List (Value×AV)) (Cl:Option (Value×AV))
 |raw (b:Nat) (ob:Obj)
 |hol (sz:Nat) (es:List (List AV)) (i c:Nat) (a:AV)
 |bld (x:AV)
 |bbf (n:Nat)
structure St where
 t:Nat->AV
 h:Nat->HO
def Ao:Nat->HO:=fun _=>.free
def AH(h:Nat->HO)(r:Nat)(o:HO):Nat->HO:=fun i=>bif Nat.beq i r then o else h i
def Gz(t:Nat->AV)(d:Nat)(v:AV):Nat->AV:=fun i=>bif Nat.beq i d then v else t i
def St.put(st:St)(d:Option Nat)(v:AV)(h:Nat->HO):St:=
 match d with
 |none=>⟨st.t,h⟩
 |some d=>⟨Gz st.t d v,h⟩
def ev(t:Nat->AV):Operand->AV
 |.tmp i=>t i
 |.const v=>.v v
 |.global g=>.v (.pointer (some ⟨g,0,none⟩))
 |.func f=>.v (.func (.func f) #[] #[])
inductive TD
 |int (k:IntKind) |bool |string |slice (e:Nat) |array (n e:Nat) |struct (fs:List (Nat×Nat)) |ptr (e:Nat) |map (k e:Nat) |func |iface |other
structure TI where
 d:TD
 size:Nat
 bytes:Nat
 zero:Value
 eqok:Bool
def TI.zc(i:TI):List Value:=match i.zero with | .agg cs=>cs.toList | v=>[v]
abbrev EU:=Nat->TI
structure VN where
 frz:List Nat
 tok:List (Nat×Nat)
 arr:List (Nat×Nat)
 fz:List (Nat×List Nat)
 fin:List Nat
 mku:List Nat
 dyn:List Nat
 tz:List (Nat×(Nat×Nat×Nat×Nat))
 dc:List (Nat×Nat)
 ak:List (Nat×Nat)
 cut:List Nat
def Gw(l:List Nat)(n:Nat):Bool:=
 match l with
 | []=>false
 |x::r=>bif Nat.beq x n then true else Gw r n
def M0(l:List (Nat×Nat))(n:Nat):Option Nat:=
 match l with
 | []=>none
 |(x,y)::r=>bif Nat.beq x n then some y else M0 r n
def str0(h:Nat->HO):AV->AV
 |.slice _ es=>.slice .none es
 |.ref r off=>match h r with |.ro cs=>.cptr (cs.drop off) |_=>.junk
 |.mref r=>match h r with |.rom sh BK=>.cmap sh BK |_=>.junk
 |.v x=>.v x
 |.cptr cs=>.cptr cs
 |.cmap s m=>.cmap s m
 |_=>.junk
def str(h:Nat->HO):AV->AV
 |.agg cs=>.agg (cs.map (str0 h))
 |.clo f cs=>.clo f (cs.map (str0 h))
 |a=>str0 h a
def TF(h:Nat->HO)(BK:List (Value×AV)):List (Value×AV):=BK.map fun p=>(p.1,str h p.2)
def YP(h:Nat->HO)(r:Nat):Nat->HO:=
 match h r with
 |.cells cs=>AH h r (.ro (cs.map (str h)))
 |.map sh BK=>AH h r (.rom sh BK)
 |.mapU sh BK=>AH h r (.rom sh (TF h BK))
 |_=>h
def MN(h:Nat->HO):List Nat->Nat->HO
 | []=>h
 |r::l=>MN (YP h r) l
def eT(l:List (Nat×List Nat))(n:Nat):List Nat:=
 match l with
 | []=>[]
 |(x,y)::r=>bif Nat.beq x n then y else eT r n
def jd(l:List (Nat×(Nat×Nat×Nat×Nat)))(n:Nat):Option (Nat×Nat×Nat×Nat):=
 match l with
 | []=>none
 |(x,y)::r=>bif Nat.beq x n then some y else jd r n
def H1(l:List AV)(n:Nat):AV:=
 match l with
 | []=>.junk
 |x::r=>match n with |0=>x |n+1=>H1 r n
def EF(cs:List AV)(o:Nat)(v:AV):List AV:=
 match cs with
 | []=>[]
 |c::cs=>match o with |0=>v::cs |o+1=>c::EF cs o v
def mr(h:Nat->HO)(r k j sz:Nat):Nat->HO:=
 match h r with
 |.cells cs=>match H1 cs k with
  |.v (.slice none 0 0)=>match h j with
   |.free=>AH (AH h j (.tok sz 0)) r (.cells (EF cs k (.slice (.id j sz) [])))
   |_=>h
  |_=>h
 |_=>h
def rsv(h:Nat->HO):AV->AV
 |.ref r off=>match h r with |.ro cs=>.cptr (cs.drop off) |_=>.ref r off
 |.mref r=>match h r with |.rom sh BK=>.cmap sh BK |_=>.mref r
 |a=>a
def one:AV->Bool
 |.v x=>x.oneCell'
 |.agg _ |.tup _ |.junk=>false
 |_=>true
def EY:List AV->Bool
 | []=>true
 |a::r=>match one a with |true=>EY r |false=>false
def lM:AV->List AV
 |.agg cs=>cs
 |a=>[a]
def AE(a:Int):Prop:=-9223372036854775808<=a/\a<9223372036854775808
def HQ(cs:List AV)(K:AV->Prop):Prop:=
 match cs with
 |a::_=>K a
 | []=>False
def GB(p:Prop)(K:AV->Prop):Prop:=(p->K (.v (.bool true)))/\(¬p->K (.v (.bool false)))
def IC(T:EU)(t:Nat)(cs:List AV)(K:AV->Prop):Prop:=
 match(T t).d with
 |.struct _=>(T t).size<=cs.length/\K (.agg (cs.take (T t).size))
 |.array _ _=>(T t).size<=cs.length/\K (.agg (cs.take (T t).size))
 |.bool=>HQ cs fun |.v (.bool b)=>(b=true->K (.v (.bool true)))/\(b=false->K (.v (.bool false))) |_=>False
 |.other=>False
 |_=>HQ cs K
def bT:List AV->List AV->Prop
 | [],[]=>True
 |.v (.int _ a)::r,.v (.int _ b)::s=>a=b/\bT r s
 |.v (.string a)::r,.v (.string b)::s=>a=b/\bT r s
 |.v (.bool a)::r,.v (.bool b)::s=>a=b/\bT r s
 |_,_=>False
def iQ:IntKind->IntKind->Bool
 |.i64,.i64 |.u8,.u8 |.u32,.u32 |.i32,.i32 |.u64,.u64 |.u16,.u16 |.i16,.i16 |.i8,.i8=>true
 |_,_=>false
def Kl(f:Nat->Option (List KS)):Nat->List (Nat×Nat)->Option (List KS)
 |_,[]=>some []
 |n,(t,o)::r=>match Nat.beq o n with
  |true=>match f t with
   |some a=>match Kl f (n+a.length) r with
    |some b=>some (a++b)
    |none=>none
   |none=>none
  |false=>none
def FH(T:EU):Nat->Nat->Option (List KS)
 |0,_=>none
 |n+1,t=>match(T t).d with
  |.int k=>match(T t).size with |1=>some [.int k] |_=>none
  |.string=>match(T t).size with |1=>some [.str] |_=>none
  |.bool=>match(T t).size with |1=>some [.bool] |_=>none
  |.struct fs=>match(T t).eqok with
   |true=>match Kl (FH T n) 0 fs with
    |some l=>match Nat.beq l.length (T t).size with |true=>some l |false=>none
    |none=>none
   |false=>none
  |_=>none
def J4:KS->Value->Bool
 |.int k,.int k' _=>iQ k k'
 |.str,.string _=>true
 |.bool,.bool _=>true
 |_,_=>false
def SQ:List KS->List AV->Bool
 | [],[]=>true
 |k::r,.v x::s=>match J4 k x with |true=>SQ r s |false=>false
 |_,_=>false
def iB(T:EU)(t:Nat)(x y:AV)(K:AV->Prop):Prop:=
 match(T t).d with
 |.bool=>match x,y with
  |.v (.bool a),.v (.bool b)=>K (.v (.bool (a == b)))
  |_,_=>False
 |.struct _=>match x,y with
  |.agg xs,.agg ys=>match FH T 8 t with
   |some l=>match SQ l xs with
    |true=>match SQ l ys with
     |true=>GB (bT xs ys) K
     |false=>False
    |false=>False
   |none=>False
  |_,_=>False
 |.slice _=>match x,y with
  |.slice _ es,.v (.slice none 0 0)=>(es≠[]->K (.v (.bool false)))/\(es=[]->K (.v (.bool true))/\K (.v (.bool false)))
  |.v (.slice none 0 0),.v (.slice none 0 0)=>K (.v (.bool true))
  |_,_=>False
 |.ptr _=>match x,y with
  |.v (.pointer none),.v (.pointer none)=>K (.v (.bool true))
  |.cptr _,.v (.pointer none)=>K (.v (.bool false))
  |.ref _ _,.v (.pointer none)=>K (.v (.bool false))
  |.eref _ _ _ _ _,.v (.pointer none)=>K (.v (.bool false))
  |_,_=>False
 |_=>False
def WS:AV->Prop
 |.v (.bool true)=>K (.v (.bool false))
 |.v (.bool false)=>K (.v (.bool true))
 |_=>False
def BV(k:IntKind)(a b:Int):Int:=
 match op with
 |.and=>k.wrap (BitVec.ofInt k.bits a &&& BitVec.ofInt k.bits b).toNat
 |.or=>k.wrap (BitVec.ofInt k.bits a |||BitVec.ofInt k.bits b).toNat
 |_=>k.wrap (BitVec.ofInt k.bits a ^^^ BitVec.ofInt k.bits b).toNat
def B0(k:IntKind)(a b:Int):Int:=
 match op with
 |.shl=>k.wrap (a*2 ^ min b.toNat k.bits)
 |_=>a.fdiv (2 ^ min b.toNat k.bits)
def OJ(k:IntKind)(a b:Int)(K:AV->Prop):Prop:=
 match op with
 |.shl=>0<=b/\K (.v (.int k (B0 .shl k a b)))
 |.shr=>0<=b/\K (.v (.int k (B0 .shr k a b)))
 |_=>False
def QN(k:IntKind)(a b:Int)(K:AV->Prop):Prop:=
 match op with
 |.quo=>(0<=a/\0<b/\k.wrap (a / b)=a / b)/\K (.v (.int k (a / b)))
 |.rem=>(0<=a/\0<b)/\K (.v (.int k (a % b)))
 |.and=>K (.v (.int k (BV .and k a b)))
 |.or=>K (.v (.int k (BV .or k a b)))
 |.xor=>K (.v (.int k (BV .xor k a b)))
 |.add=>K (.v (.int k (k.wrap (a+b))))
 |.sub=>K (.v (.int k (k.wrap (a-b))))
 |.mul=>K (.v (.int k (k.wrap (a*b))))
 |op=>OJ op k a b K
def Ns(k:IntKind)(a b:Int)(K:AV->Prop):Prop:=
 match k with
 |.i64=>match op with
  |.add=>AE (a+b)/\K (.v (.int .i64 (a+b)))
  |.sub=>AE (a-b)/\K (.v (.int .i64 (a-b)))
  |.mul=>AE (a*b)/\K (.v (.int .i64 (a*b)))
  |.quo=>(0<=a/\0<b/\AE a)/\K (.v (.int .i64 (a / b)))
  |.rem=>(0<=a/\0<b)/\K (.v (.int .i64 (a % b)))
  |op=>QN op .i64 a b K
 |k=>QN op k a b K
def Nt(T:EU)(op:BinOp)(t:Nat)(x y:AV)(K:AV->Prop):Prop:=
 match x,y with
 |.v (.int k a),.v (.int k' b)=>match iQ k k' with
  |false=>OJ op k a b K
  |true=>match op with
   |.eql=>GB (a=b) K
   |.neq=>GB (a≠b) K
   |.lss=>GB (a<b) K
   |.leq=>GB (a<=b) K
   |.gtr=>GB (b<a) K
   |.geq=>GB (b<=a) K
   |op=>Ns op k a b K
 |.v (.string a),.v (.string b)=>match op with
   |.eql=>GB (a=b) K
   |.neq=>GB (a≠b) K
   |.lss=>GB (Op.bytesLess a.toList b.toList=true) K
   |.geq=>GB (Op.bytesLess a.toList b.toList=false) K
   |.gtr=>GB (Op.bytesLess b.toList a.toList=true) K
   |.leq=>GB (Op.bytesLess b.toList a.toList=false) K
   |.add=>((a.size+b.size:Nat):Int)<=9223372036854775807/\K (.v (.string (a++b)))
   |_=>False
 |x,y=>match op with
  |.eql=>iB T t x y K
  |.neq=>iB T t x y (WS K)
  |_=>False
def Sa(T:EU)(op:BinOp)(t:Nat)(Y:Operand)(x y:AV)(K:AV->Prop):Prop:=
 match Y with
 |.const .nilIface=>match x with
  |.v .nilIface=>match(T t).d with
   |.iface=>match op with
    |.eql=>K (.v (.bool true))
    |.neq=>K (.v (.bool false))
    |_=>False
   |_=>False
  |_=>False
 |_=>Nt T op t x y K
def PK(T:EU)(s t:Nat)(x:AV)(K:AV->Prop):Prop:=
 match(T s).d,(T t).d,x with
 |.int _,.int .i64,.v (.int _ n)=>AE n/\K (.v (.int .i64 n))
 |.int _,.int k,.v (.int _ n)=>K (.v (.int k (k.wrap n)))
 |.string,.string,.v (.string s)=>K (.v (.string s))
 |.slice e,.string,.slice _ es=>match(T e).d with
  |.int .u8=>∃l:List UInt8,es=l.map (fun b=>[AV.v (.int .u8 b.toNat)])/\K (.v (.string ⟨l.toArray⟩))
  |_=>False
 |_,_,_=>False
def Q7(fs:List (Nat×Nat))(n:Nat):Option (Nat×Nat):=
 match fs with
 | []=>none
 |x::r=>match n with |0=>some x |n+1=>Q7 r n
def NM(T:EU)(s f:Nat)(x:AV)(K:AV->Prop):Prop:=
 match(T s).d with
 |.struct fs=>match Q7 fs f with
  |some (t,o)=>match(T t).size with
   |0=>False
   |_+1=>match x with
    |.cptr cs=>K (.cptr (cs.drop o))
    |.ref r off=>K (.ref r (off+o))
    |.eref r n z i off=>K (.eref r n z i (off+o))
    |_=>False
  |none=>False
 |_=>False
def Tq(T:EU)(t:Nat)(cs:List AV)(K:AV->Prop):Prop:=IC T t cs K
def KY(T:EU)(s f:Nat)(x:AV)(K:AV->Prop):Prop:=
 match(T s).d,x with
 |.struct fs,.agg cs=>match Q7 fs f with
  |some (t,o)=>Tq T t (cs.drop o) K
  |none=>False
 |_,_=>False
def G2(T:EU)(t:Nat)(x ix:AV)(K:AV->Prop):Prop:=
 match(T t).d,ix with
 |.slice e,.v (.int .i64 i)=>match(T e).size with
  |0=>False
  |_+1=>match x with
   |.slice _ es=>∃cs,(0<=i/\es[i.toNat]?=some cs)/\cs.length=(T e).size/\K (.cptr cs)
   |.msl r n=>(0<=i/\i<n)/\K (.eref r n (T e).size i.toNat 0)
   |_=>False
 |.array n e,.v (.int .i64 i)=>match(T e).size with
  |0=>False
  |_+1=>match x with
   |.cptr cs=>(0<=i/\i<n)/\K (.cptr (cs.drop (i.toNat*(T e).size)))
   |.ref r off=>(0<=i/\i<n)/\K (.ref r (off+i.toNat*(T e).size))
   |_=>False
 |_,_=>False
def N8(T:EU)(t:Nat)(x ix:AV)(K:AV->Prop):Prop:=
 match(T t).d,x,ix with
 |.string,.v (.string s),.v (.int _ i)=>∃b:UInt8,(0<=i/\s.data[i.toNat]?=some b)/\K (.v (.int .u8 b.toNat))
 |.array n e,.agg cs,.v (.int .i64 i)=>(0<=i/\i<n)/\Tq T e (cs.drop (i.toNat*(T e).size)) K
 |_,_,_=>False
def BJ(t:Nat->AV):Option Operand->Option (Option Int)
 |none=>some none
 |some x=>match ev t x with |.v (.int .i64 i)=>some (some i) |_=>none
def over{α:Type}(cs:List α)(o:Nat)(vs:List α):List α:=
 match cs with
 | []=>[]
 |c::cs=>match o with
  |o+1=>c::over cs o vs
  |0=>match vs with
   | []=>c::cs
   |v::vs=>v::over cs 0 vs
structure Gh where
 ρ:Nat->Value
 ln:Nat->Nat
 tk:Nat->Bool
 own:Nat->Option Nat
 S:Nat->Nat->Prop
def GS:List KS->List Value->Bool
 | [],[]=>true
 |k::r,v::s=>match J4 k v with |true=>GS r s |false=>false
 |_,_=>false
def Qp(v:Value):Bool:=
 match sh.agg,v with
 |true,.agg cs=>GS sh.l cs.toList
 |false,v=>GS sh.l [v]
 |_,_=>false
def Fk(es:Array MapEntry)(ck:Nat)(BK:List (Value×AV)):Prop:=
 es.size=BK.length/\(∀(i:Nat) (kv:Value×AV) (e:MapEntry),BK[i]?=some kv->es[i]?=some e->e.key=kv.1) /\
 (∀kv∈BK,Qp sh kv.1=true)/\(BK.map (·.1)).Nodup/\(∀(i:Nat) (e:MapEntry),es[i]?=some e->e.born<ck) /\
 ∀(i j:Nat) (e e' : MapEntry),es[i]?=some e->es[j]?=some e'->e.born=e'.born->i=j
inductive Bo(g:Gh)(w:World):(Nat->Prop)->AV->Value->Prop
 |v (U:Nat->Prop) (x:Value):Bo g w U (.v x) x
 |junk (U:Nat->Prop) (x:Value):Bo g w U .junk x
 |snil (U:Nat->Prop) (a:Option Addr) (cap:Nat):Bo g w U (.slice .none []) (.slice a 0 cap)
 |slice (U:Nat->Prop) (es:List (List AV)) (b off sz cap:Nat) (val:Nat->Nat->Value) (hc:es.length<=cap)
   (hl:∀(i:Nat) (cs:List AV),es[i]?=some cs->cs.length=sz)
   (Cm:∀(i:Nat) (cs:List AV) (j:Nat) (av:AV),es[i]?=some cs->cs[j]?=some av ->
    g.S b (off+i*sz+j)/\w.cell? ⟨b,off+i*sz+j,none⟩=some (val i j)/\(val i j).oneCell'=true)
   (Dd:∀(i:Nat) (cs:List AV) (j:Nat) (av:AV),es[i]?=some cs->cs[j]?=some av->Bo g w (fun _=>False) av (val i j)) :
   Bo g w U (.slice .none es) (.slice (some ⟨b,off,none⟩) es.length cap)
 |tok (U:Nat->Prop) (r sz:Nat) (es:List (List AV)) (x:Value) (h:Bo g w U (.slice .none es) x) (hl:∀c∈es,c.length=sz) (hu:U r) (ht:g.tk r=true) (hn:es.length<=g.ln r)
   (hx:es.length=g.ln r->x=g.ρ r):Bo g w U (.slice (.id r sz) es) x
 |ver (U:Nat->Prop) (r sz v:Nat) (es:List (List AV)) (x:Value) (h:Bo g w U (.slice .none es) x) (hl:∀c∈es,c.length=sz) (hu:U r) (ht:g.tk r=true) (hn:v<=g.ln r)
   (hx:v=g.ln r->x=g.ρ r):Bo g w U (.slice (.ver r sz v) es) x
 |full (U:Nat->Prop) (sz:Nat) (es:List (List AV)) (x:Value) (h:Bo g w U (.slice .none es) x) (hl:∀c∈es,c.length=sz) (hx:∃a,x=.slice a es.length es.length):Bo g w U (.slice (.full sz) es) x
 |msl (U:Nat->Prop) (r n:Nat) (a:Option Addr) (cap:Nat) (hu:U r) (ht:g.tk r=true) (hn:n<=g.ln r) (ha:n=0\/∃b,a=some ⟨b,0,none⟩) (hx:n=g.ln r->.slice a n cap=g.ρ r) :
   Bo g w U (.msl r n) (.slice a n cap)
 |agg (U:Nat->Prop) (cs:List AV) (vs:Array Value) (hs:vs.size=cs.length) (h1:∀(i:Nat) (x:Value),vs[i]?=some x->x.oneCell'=true)
   (h:∀(i:Nat) (av:AV) (x:Value),cs[i]?=some av->vs[i]?=some x->Bo g w U av x):Bo g w U (.agg cs) (.agg vs)
 |tup (U:Nat->Prop) (cs:List AV) (vs:Array Value) (hs:vs.size=cs.length)
   (h:∀(i:Nat) (av:AV) (x:Value),cs[i]?=some av->vs[i]?=some x->Bo g w U av x):Bo g w U (.tup cs) (.tuple vs)
 |cptr (U:Nat->Prop) (cs:List AV) (b off:Nat) (val:Nat->Value)
   (Cm:∀(j:Nat) (av:AV),cs[j]?=some av->g.S b (off+j)/\w.cell? ⟨b,off+j,none⟩=some (val j)/\(val j).oneCell'=true)
   (Dd:∀(j:Nat) (av:AV),cs[j]?=some av->Bo g w (fun _=>False) av (val j)) :
   Bo g w U (.cptr cs) (.pointer (some ⟨b,off,none⟩))
 |ref (U:Nat->Prop) (r off b:Nat) (hu:U r) (ht:g.tk r=false) (hx:g.ρ r=.pointer (some ⟨b,0,none⟩)):Bo g w U (.ref r off) (.pointer (some ⟨b,off,none⟩))
 |eref (U:Nat->Prop) (r n sz i off b cap:Nat) (hu:U r) (ht:g.tk r=true) (hn:i<n/\n<=g.ln r) (hx:n=g.ln r->g.ρ r=.slice (some ⟨b,0,none⟩) n cap) :
   Bo g w U (.eref r n sz i off) (.pointer (some ⟨b,i*sz+off,none⟩))
 |mref (U:Nat->Prop) (r b:Nat) (hu:U r) (ht:g.tk r=false) (hx:g.ρ r=.map (some b)):Bo g w U (.mref r) (.map (some b))
 |cmap (U:Nat->Prop) (sh:DG) (BK:List (Value×AV)) (b:Nat) (es:Array MapEntry) (ck:Nat) (hS:g.S b 0) (hb:w.heap[b]?=some (.map es ck)) (hm:Fk sh es ck BK)
   (h:∀(i:Nat) (kv:Value×AV) (e:MapEntry),BK[i]?=some kv->es[i]?=some e->Bo g w (fun _=>False) kv.2 e.val):Bo g w U (.cmap sh BK) (.map (some b))
 |clo (U:Nat->Prop) (f:Nat) (cs:List AV) (vs:Array Value) (hs:vs.size=cs.length)
   (h:∀(i:Nat) (av:AV) (x:Value),cs[i]?=some av->vs[i]?=some x->Bo g w U av x):Bo g w U (.clo f cs) (.func (.func f) #[] vs)
def HO.live:HO->Prop
 |.free |.dead |.vox _ |.ro _ |.rom _ _=>False
 |_=>True
def AD(h:Nat->HO)(r:Nat):Prop:=h r≠.free
def D2:Nat->Prop:=fun _=>False
def B3(g:Gh)(w:World)(U:Nat->Prop)(cs:List AV)(vs:List Value):Prop:=
 vs.length=cs.length/\(∀x∈vs,x.oneCell'=true)/\∀(i:Nat) (av:AV) (x:Value),cs[i]?=some av->vs[i]?=some x->Bo g w U av x
def T3:List Nat->Code->Bool
 |bs,.block id c=>T3 (id::bs) c
 |bs,.seq a b=>T3 bs a||T3 bs b
 |bs,.cond _ a b=>T3 bs a||T3 bs b
 |bs,.loop c=>T3 bs c
 |bs,.exit id=>!(bs.any fun i=>Nat.beq i id)
 |_,_=>false
def mD:Obj->Bool
 |.loop r=>T3 [] r.body
 |_=>false
def Mk(w:World)(b:Nat)(vs:Array Value)(E:TypeId):Prop:=∃f:Nat×Nat,w.heap[b]?=some (.cells vs E f)/\(f=(0,0)\/vs.size<=f.1)
theorem Mk.eq{w w' : World}{b:Nat}(h:Mk w b vs E)(e:w'.heap[b]?=w.heap[b]?):Mk w' b vs E:=by
 obtain⟨f,h1,h2⟩:=h;exact⟨f,e.trans h1,h2⟩
theorem Mk.of{w:World}{b:Nat}(h:w.heap[b]?=some (.cells vs E (0,0))):Mk w b vs E:=⟨_,h,.inl rfl⟩
def QT:Nat:=104
def sd:Nat:=5
def C3(g:Gh)(w:World)(U:Nat->Prop)(r:Nat):HO->Prop
  |.free |.dead=>True
  |.cells cs=>g.tk r=false/\∃b E vs,g.own r=some b/\g.ρ r=.pointer (some ⟨b,0,none⟩)/\w.heap[b]?=some (.cells vs E (0,0))/\B3 g w U cs vs.toList/\∀o,¬g.S b o
  |.ro cs=>g.tk r=false/\∃b,g.ρ r=.pointer (some ⟨b,0,none⟩)/\Bo g w D2 (.cptr cs) (.pointer (some ⟨b,0,none⟩))
  |.tok sz n=>g.tk r=true/\g.ln r=n/\∃a cap,g.ρ r=.slice a n cap/\(n=cap/\g.own r=none \/
      n<=cap/\∃b E vs off,a=some ⟨b,off,none⟩/\g.own r=some b/\Mk w b vs E/\vs.size=off+cap*sz/\∀o,g.S b o->o<off+n*sz)
  |.var sz v n=>g.tk r=true/\g.ln r=v/\∃a cap,g.ρ r=.slice a n cap/\(n=cap/\g.own r=none \/
      n<=cap/\∃b E vs off,a=some ⟨b,off,none⟩/\g.own r=some b/\Mk w b vs E/\vs.size=off+cap*sz/\∀o,g.S b o->o<off+n*sz)
  |.vox v=>g.tk r=true/\g.ln r=v
  |.arr sz es=>g.tk r=true/\g.ln r=es.length/\(∀cs∈es,cs.length=sz)/\(es=[]/\g.ρ r=.slice none 0 0/\g.own r=none \/
      ∃b cap E vs,g.ρ r=.slice (some ⟨b,0,none⟩) es.length cap/\g.own r=some b/\es.length<=cap/\w.heap[b]?=some (.cells vs E (0,0))/\vs.size=cap*sz /\
        B3 g w D2 es.flatten (vs.toList.take (es.length*sz))/\∀o,¬g.S b o)
  |.map sh BK=>g.tk r=false/\∃b es ck,g.own r=some b/\g.ρ r=.map (some b)/\w.heap[b]?=some (.map es ck)/\Fk sh es ck BK /\
      (∀(i:Nat) (kv:Value×AV) (e:MapEntry),BK[i]?=some kv->es[i]?=some e->Bo g w D2 kv.2 e.val)/\∀o,¬g.S b o
  |.mapU sh BK=>g.tk r=false/\∃b es ck,g.own r=some b/\g.ρ r=.map (some b)/\w.heap[b]?=some (.map es ck)/\Fk sh es ck BK /\
      (∀(i:Nat) (kv:Value×AV) (e:MapEntry),BK[i]?=some kv->es[i]?=some e->Bo g w U kv.2 e.val)/\∀o,¬g.S b o
  |.rom sh BK=>g.tk r=false/\∃b,g.ρ r=.map (some b)/\Bo g w D2 (.cmap sh BK) (.map (some b))
  |.iter all rem Cl=>g.tk r=false/\∃b mb Ia seen st es ck,g.own r=some b/\g.ρ r=.pointer (some ⟨b,0,none⟩)/\w.heap[b]?=some (.mapIter (some mb) Ia seen st) /\
      g.S mb 0/\w.heap[mb]?=some (.map es ck)/\(∃sh,Fk sh es ck all)/\Ia=ck/\st=ck /\
      (∀(i:Nat) (kv:Value×AV) (e:MapEntry),all[i]?=some kv->es[i]?=some e->Bo g w D2 kv.2 e.val) /\
      (rem.Nodup/\∀kv∈rem,kv∈all)/\(∀(i:Nat) (kv:Value×AV) (e:MapEntry),all[i]?=some kv->es[i]?=some e->(kv∈rem↔e.born∉seen)) /\
      (match Cl with | none=>True | some kv=>∃(i:Nat) (e:MapEntry),all[i]?=some kv/\es[i]?=some e/\seen.back?=some e.born)/\∀o,¬g.S b o
  |.hol sz es i c a=>g.tk r=true/\g.ln r=es.length/\(∀cs∈es,cs.length=sz)/\∃b cap E vs,g.ρ r=.slice (some ⟨b,0,none⟩) es.length cap/\g.own r=some b/\es.length<=cap/\w.heap[b]?=some (.cells vs E (0,0))/\vs.size=cap*sz /\
        B3 g w D2 es.flatten (vs.toList.take (es.length*sz))/\(∀o,¬g.S b o)/\i*sz+c<es.length*sz/\∃x,vs[i*sz+c]?=some x/\Bo g w U a x
  |.raw b ob=>g.tk r=false/\g.own r=some b/\w.heap[b]?=some ob/\mD ob=true/\∀o,¬g.S b o
  |.bld x=>g.tk r=false/\∃b p v,g.own r=some b/\g.ρ r=.pointer (some ⟨b,0,none⟩)/\w.heap[b]?=some (.cells #[p,v] QT (0,0))/\(p=.pointer none\/p=.pointer (some ⟨b,0,none⟩))/\Bo g w U x v/\∀o,¬g.S b o
  |.bbf n=>g.tk r=true/\g.ln r=n/\(n=0/\g.ρ r=.slice none 0 0/\g.own r=none\/∃b cap Cl,g.ρ r=.slice (some ⟨b,0,none⟩) n cap/\g.own r=some b/\(0<n/\n<=cap)/\cap<=maxLen/\w.heap[b]?=some (.cells Cl sd (0,0))/\Cl.size=cap/\∀o,g.S b o->o<n)
def gB:Nat:=0
def YS:List (Nat×Nat×Option Value):=(1,20,none)::(List.range 20).map fun i=>(1,i,some (.int .u64 ((10 ^ i:Nat):Int)))
def QF(g:Gh)(w:World):Prop:=(g.S gB 0/\∃m,w.cell? ⟨gB,0,none⟩=some (.int .i64 m))/\∀x∈YS,g.S x.1 x.2.1/\w.cell? ⟨x.1,x.2.1,none⟩=x.2.2
structure Do(w0:World)(g0:Gh)(h0:Nat->HO)(h:Nat->HO)(g:Gh)(w:World):Prop where
 os:w.os=w0.os
 tape:w.tape=w0.tape
 output:w.output=w0.output
 size:w0.heap.size<=w.heap.size
 frame:∀b,b<w0.heap.size->(∀r,(h0 r).live->g0.own r≠some b)->w.heap[b]?=w0.heap[b]?
 slt:∀b o,g.S b o->b<w.heap.size
 objs:∀r,C3 g w (AD h) r (h r)
 inj:∀r r' b,(h r).live->(h r').live->g.own r=some b->g.own r'=some b->r=r'
 loc:∀r b,(h r).live->g.own r=some b->b<w.heap.size/\(w0.heap.size<=b\/∃r',(h0 r').live/\g0.own r'=some b)
 sg:∀b o,g.S b o->g0.S b o\/w0.heap.size<=b\/∃r',(h0 r').live/\g0.own r'=some b
 glob:QF g w
def DO(g:Gh)(w:World)(g' : Gh)(w' : World):Prop:=
 ∀b o,g.S b o->g'.S b o/\w'.cell? ⟨b,o,none⟩=w.cell? ⟨b,o,none⟩/\∀es ck,w.heap[b]?=some (.map es ck)->w'.heap[b]?=some (.map es ck)
def Ho(g g' : Gh)(U:Nat->Prop):Prop:=
 ∀i,U i->g'.tk i=g.tk i/\g.ln i<=g'.ln i/\(g.tk i=false->g'.ρ i=g.ρ i)/\(g'.ln i=g.ln i->g'.ρ i=g.ρ i)
structure Le(h:Nat->HO)(g:Gh)(w:World)(h' : Nat->HO)(g' : Gh)(w' : World):Prop where
 gh:Ho g g' (AD h)
 us:∀i,AD h i->AD h' i
 keeps:DO g w g' w'
def Enters (P : Program) (f : Nat) : Prop := ∃ fn, P.funcs[f]? = some fn /\ (fn.name == "runtime.NumGoroutine") = false /\ fn.body.isNone = false
def BL(P:Program)(f:Nat)(args:List AV)(h0:Nat->HO)(Q:AV->(Nat->HO)->Prop):Prop:=
 Enters P f/\∀(g:Gh) (w:World) (vals:Array Value),vals.size=args.length->(∀(i:Nat) (av:AV) (x:Value),args[i]?=some av->vals[i]?=some x->Bo g w (AD h0) av x) ->
  Do w g h0 h0 g w ->
  Calls P f vals w fun e w'=>∃v r h' g',e=.returned v/\Q r h'/\Bo g' w' (AD h') r v/\Do w g h0 h' g' w'/\Le h0 g w h' g' w'
def IR(P:Program)(f:Nat)(args:List AV)(res:AV):Prop:=BL P f args Ao fun r h'=>r=res/\h'=Ao
def No(P:Program)(Y:Gh->World->Prop)(l:Nat)(args:List AV)(h0:Nat->HO)(Q:AV->(Nat->HO)->Prop):Prop:=
 ∀(g:Gh) (w:World) (vals:Array Value),vals.size=args.length->(∀(i:Nat) (av:AV) (x:Value),args[i]?=some av->vals[i]?=some x->Bo g w (AD h0) av x) ->
  Do w g h0 h0 g w->Y g w ->
  YieldAt Fence.wide 0 P l vals w fun e w'=>∃v r h' g',e=.returned v/\Q r h'/\Bo g' w' (AD h') r v/\Do w g h0 h' g' w'/\Le h0 g w h' g' w'
def eG(P:Program)(Y:Gh->World->Prop)(f:Nat)(args:List AV)(h0:Nat->HO)(Q:AV->(Nat->HO)->Prop):Prop:=
 Enters P f/\∀(g:Gh) (w:World) (vals:Array Value),vals.size=args.length->(∀(i:Nat) (av:AV) (x:Value),args[i]?=some av->vals[i]?=some x->Bo g w (AD h0) av x) ->
  Do w g h0 h0 g w->Y g w ->
  Calls P f vals w fun e w'=>∃v r h' g',e=.returned v/\Q r h'/\Bo g' w' (AD h') r v/\Do w g h0 h' g' w'/\Le h0 g w h' g' w'
def Ey(P:Program)(Y:Nat->Gh->World->Prop)(F:AV)(args:List AV)(h:Nat->HO)(Q:AV->(Nat->HO)->Prop):Prop:=
 match F with
 |.v (.func (.func f) ⟨[]⟩ ⟨[]⟩)=>BL P f args h Q
 |.clo f Cs=>BL P f (args++Cs) h Q
 |.v (.func (.yield l) ⟨[]⟩ ⟨[]⟩)=>No P (Y l) l args h Q
 |_=>False
def QH(P:Program)(F:AV)(args:List AV)(res:AV):Prop:=
 match F with
 |.v (.func (.func f) ⟨[]⟩ ⟨[]⟩)=>IR P f args res
 |.clo f Cs=>IR P f (args++Cs) res
 |_=>False
structure Cx where
 P:Program
 T:EU
 pl:VN
 ext:Bool
 nid:Nat
 yp:Nat->List (Nat×Nat)->Gh->World->Prop
variable (cx:Cx)
def He(d:Nat):Nat:=bif Gw cx.pl.dyn d then cx.nid else d
abbrev HK:=AV->(Nat->HO)->Prop
def Nq(T:EU)(d:Option Nat)(h:Nat->HO)(e:Nat)(K:HK):Prop:=
 match d with
 |none=>False
 |some d=>match h d with
  |.free=>match(T e).d with
   |.other=>False
   |_=>match Nat.beq e QT with
    |true=>match h 1001,Nat.beq d 1001,(T e).zc with
     |.free,false,[.pointer none,.slice none 0 0]=>K (.ref d 0) (AH (AH h 1001 (.bbf 0)) d (.bld (.slice (.id 1001 1) [])))
     |_,_,_=>False
    |false=>match EY ((T e).zc.map .v)with
     |true=>K (.ref d 0) (AH h d (.cells ((T e).zc.map .v)))
     |false=>False
  |_=>False
def Fe(n:Nat)(a:AV)(K:List AV->Prop):Prop:=
 match a with
 |.agg cs=>match Nat.beq cs.length n with
  |true=>K cs
  |false=>False
 |a=>match one a with
  |true=>match n with
   |1=>K [a]
   |_=>False
  |false=>False
def V1(d:Option Nat)(h:Nat->HO)(e:Nat)(x:AV)(K:HK):Prop:=
 match d with
 |none=>False
 |some d=>match h d with
  |.free=>match(cx.T e).d with
   |.other=>False
   |_=>Fe (cx.T e).size x fun cs=>match Gw cx.pl.frz d with
    |true=>K (.ref d 0) (AH h d (.ro (cs.map (str h))))
    |false=>K (.ref d 0) (AH h d (.cells cs))
  |_=>False
def Ky(h:Nat->HO)(t:Nat)(p x:AV)(K:HK):Prop:=
 match(cx.T t).d with
 |.other=>False
 |_=>Fe (cx.T t).size x fun vs=>match p with
  |.ref r off=>match h r with
   |.cells cs=>off+vs.length<=cs.length/\(match Gw cx.pl.frz r with
    |true=>K (.v undef) (AH h r (.ro ((over cs off vs).map (str h))))
    |false=>K (.v undef) (AH h r (.cells (over cs off vs))))
   |_=>False
  |.eref r n sz i off=>match h r with
   |.arr ES es=>match Nat.beq sz ES with
    |true=>n=es.length/\∃cs,es[i]?=some cs/\off+vs.length<=sz/\(match vs with
     | [.msl j m]=>K (.v undef) (AH h r (.hol sz (es.set i (over cs off [.junk])) i off (.msl j m)))
     |_=>K (.v undef) (AH h r (.arr sz (es.set i (over cs off (vs.map (str h)))))))
    |false=>False
   |_=>False
  |_=>False
def F4(T:EU)(h:Nat->HO)(t:Nat)(p:AV)(K:AV->Prop):Prop:=
 match p with
 |.cptr cs=>IC T t cs K
 |.ref r off=>match h r with
  |.cells cs=>IC T t (cs.drop off) K
  |.ro cs=>IC T t (cs.drop off) K
  |_=>False
 |.eref r n sz i off=>match h r with
  |.arr ES es=>match Nat.beq sz ES with
   |true=>n=es.length/\∃cs,es[i]?=some cs/\IC T t (cs.drop off) K
   |false=>False
  |.hol ES es i' c a=>match Nat.beq sz ES with
   |true=>(n=es.length/\i=i'/\off=c)/\IC T t [a] K
   |false=>False
  |_=>False
 |_=>False
def HP(pl:Nat->Option (Nat×Nat))(cs:List AV)(t:Nat->AV)(ps:List (Nat×Operand))(K:List AV->Prop):Prop:=
 match ps with
 | []=>K cs
 |(i,x)::r=>match pl i with
  |none=>False
  |some (o,n)=>Fe n (ev t x) fun vs=>match Nat.ble (o+n) cs.length with
   |true=>HP pl (over cs o vs) t r K
   |false=>False
def KN(T:EU):List (Nat×Nat)->Bool
 | []=>true
 |(t,_)::r=>match(T t).size with |0=>false |_+1=>KN T r
def LC(T:EU)(ty:Nat)(t:Nat->AV)(ps:List (Nat×Operand))(K:AV->Prop):Prop:=
 match EY ((T ty).zc.map .v)with
 |false=>False
 |true=>match(T ty).d with
  |.struct fs=>match KN T fs with
   |false=>False
   |true=>HP (fun i=>match Q7 fs i with |some (t,o)=>some (o,(T t).size) |none=>none) ((T ty).zc.map .v) t ps fun cs=>K (.agg cs)
  |.array _ e=>match(T e).size with
   |0=>False
   |_+1=>HP (fun i=>some (i*(T e).size,(T e).size)) ((T ty).zc.map .v) t ps fun cs=>K (.agg cs)
  |_=>False
def Mo(n sz:Nat)(h:Nat->HO)(es:List (List AV))(t:Nat->AV)(ps:List (Nat×Operand))(K:List (List AV)->Prop):Prop:=
 match ps with
 | []=>K es
 |(i,x)::r=>match Nat.blt i n with
  |true=>Fe sz (ev t x) fun vs=>Mo n sz h (es.set i (vs.map (str h))) t r K
  |false=>False
abbrev Ij(b:ByteArray):List (List AV):=b.data.toList.map fun c=>[AV.v (.int .u8 c.toNat)]
def T8(d:Option Nat)(h:Nat->HO)(s t:Nat)(x:AV)(K:HK):Prop:=
 match(cx.T s).d,(cx.T t).d,x with
 |.string,.slice e,.v (.string b)=>match(cx.T e).d,d with
  |.int .u8,some d=>match h (He cx d)with
   |.free=>K (.slice (.id (He cx d) 1) (Ij b)) (AH h (He cx d) (.tok 1 (Ij b).length))
   |_=>False
  |_,_=>False
 |_,_,_=>PK cx.T s t x fun v=>K v h
def Dv(d:Option Nat)(h:Nat->HO)(sz:Nat)(es:List (List AV))(K:HK):Prop:=
 match d with
 |none=>False
 |some d=>match h (He cx d)with
  |.free=>match M0 cx.pl.arr d with
   |some _=>K (.msl (He cx d) es.length) (AH h (He cx d) (.arr sz es))
   |none=>K (.slice (.id (He cx d) sz) es) (AH h (He cx d) (.tok sz es.length))
  |_=>False
def Gf(d:Option Nat)(h:Nat->HO)(ty n:Nat)(t:Nat->AV)(ps:List (Nat×Operand))(K:HK):Prop:=
 match(cx.T ty).d with
 |.slice e=>match EY ((cx.T e).zc.map .v),Nat.beq (cx.T e).zc.length (cx.T e).size with
  |true,true=>match(cx.T e).size with
   |0=>False
   |_+1=>match Nat.ble (n*(cx.T e).size) 16777216 with
    |true=>Mo n (cx.T e).size h (List.replicate n ((cx.T e).zc.map .v)) t ps fun es=>Dv cx d h (cx.T e).size es K
    |false=>False
  |_,_=>False
 |_=>False
def HU(t:Nat->AV)(h:Nat->HO)(fn:Fn)(first captured:List Operand)(K:AV->Prop):Prop:=
 match fn,first with
 |.func f,[]=>K (.clo f (captured.map fun x=>rsv h (ev t x)))
 |_,_=>False
def Cn(sz:Nat):List (List AV)->Prop
 | []=>True
 |c::r=>c.length=sz/\Cn sz r
def Il(h:Nat->HO)(x:AV)(K:List (List AV)->Prop):Prop:=
 match x with
 |.slice _ es=>K es
 |.v (.slice none 0 0)=>K []
 |.msl r n=>match h r with
  |.arr _ es=>n=es.length/\K es
  |_=>False
 |_=>False
def GH(d:Option Nat)(h:Nat->HO)(ty:Nat)(s x:AV)(K:HK):Prop:=
 match(cx.T ty).d with
 |.slice e=>match Nat.beq (cx.T e).zc.length (cx.T e).size with
  |false=>False
  |true=>match(cx.T e).size with
   |0=>False
   |_+1=>Il h x fun es2=>match s with
    |.v (.slice none 0 0)=>(Cn (cx.T e).size es2/\es2.length*(cx.T e).bytes<=140737488355328/\es2.length<=9223372036854775807)/\Dv cx d h (cx.T e).size es2 K
    |.slice (.full ES) es=>match Nat.beq ES (cx.T e).size with
     |true=>(Cn (cx.T e).size es2/\0<es2.length/\(es.length+es2.length)*(cx.T e).bytes<=140737488355328/\es.length+es2.length<=9223372036854775807)/\Dv cx d h (cx.T e).size (es++es2) K
     |false=>False
    |.slice (.id r ES) es=>match h r with
     |.tok sz n=>match Nat.beq sz (cx.T e).size,Nat.beq ES sz with
      |true,true=>(Cn sz es2/\es.length=n/\(es.length+es2.length)*(cx.T e).bytes<=140737488355328/\es.length+es2.length<=9223372036854775807) /\
        K (.slice (.id r sz) (es++es2)) (AH h r (.tok sz (es.length+es2.length)))
      |_,_=>False
     |_=>False
    |.msl r n=>match h r with
     |.arr sz es=>match Nat.beq sz (cx.T e).size with
      |true=>(Cn sz es2/\es.length=n/\(es.length+es2.length)*(cx.T e).bytes<=140737488355328/\es.length+es2.length<=9223372036854775807) /\
        K (.msl r (es.length+es2.length)) (AH h r (.arr sz (es++es2)))
      |false=>False
     |_=>False
    |_=>False
 |_=>False
abbrev Ren:=List (Nat×Nat)
variable (σ:Ren)
inductive iY | pure | rel | gen (σ:Ren) (nn:Nat) | geny (σ:Ren) (nn:Nat)
def B5(σ:Ren)(n:Nat):Option Nat:=
 match σ with
 | []=>none
 |(i,j)::r=>bif Nat.beq i n then some j else B5 r n
def FO(σ:Ren)(n:Nat):Option Nat:=
 match σ with
 | []=>none
 |(i,j)::r=>bif Nat.beq j n then some i else FO r n
def DI:Ren->Bool
 | []=>true
 |(i,j)::r=>(match B5 r i,FO r j with |none,none=>true |_,_=>false)&&Nat.ble 1000 j&&Nat.blt j 2000&&DI r
def Iu:Ren->Bool
 | []=>true
 |(i,j)::r=>(match B5 r i,FO r j with |none,none=>true |_,_=>false)&&Iu r
def ren0(h:Nat->HO):AV->AV
 |.slice (.id r sz) es=>match f r with |some r'=>.slice (.id r' sz) es |none=>.slice .none es
 |.slice (.ver r sz v) es=>match f r with |some r'=>.slice (.ver r' sz v) es |none=>.slice .none es
 |.msl r n=>match f r with |some r'=>.msl r' n |none=>.junk
 |.ref r off=>match f r with |some r'=>.ref r' off |none=>str0 h (.ref r off)
 |.eref r n sz i off=>match f r with |some r'=>.eref r' n sz i off |none=>.junk
 |.mref r=>match f r with |some r'=>.mref r' |none=>str0 h (.mref r)
 |a=>str0 h a
def ren1(h:Nat->HO):AV->AV
 |.agg cs=>.agg (cs.map (ren0 f h))
 |.clo g cs=>.clo g (cs.map (ren0 f h))
 |a=>ren0 f h a
def ren(h:Nat->HO):AV->AV
 |.tup cs=>.tup (cs.map (ren1 f h))
 |a=>ren1 f h a
def HO.ren(h:Nat->HO):HO->HO
 |.cells cs=>.cells (cs.map (ren1 f h))
 |.mapU sh BK=>.mapU sh (BK.map fun p=>(p.1,ren1 f h p.2))
 |.hol sz es i c a=>.hol sz es i c (ren1 f h a)
 |.bld x=>.bld (ren1 f h x)
 |o=>o
def AC(l:List (Nat×HO))(hb:Nat->HO)(i:Nat):HO:=match l with | []=>hb i | (j,v)::r=>bif Nat.beq i j then v else AC r hb i
def TA(f:Nat->Option Nat)(h:Nat->HO):Ren->List (Nat×HO)
 | []=>[]
 |(i,j)::r=>(j,(h i).ren f h)::TA f h r
def EV(h:Nat->HO):Nat->HO:=AC (TA (B5 σ) h σ) Ao
def Bd(d k:Nat):Nat:=10000+100*d+k
def Eo(d nn:Nat)(j:Nat):Option Nat:=
 match FO σ j with
 |some i=>some i
 |none=>match Nat.ble 2000 j&&Nat.blt j (2000+nn)with |true=>some (Bd d (j-2000)) |false=>none
def DH(d nn:Nat)(h h' : Nat->HO):Nat->HO:=fun i=>
 match B5 σ i with
 |some j=>(h' j).ren (Eo σ d nn) h'
 |none=>match Nat.ble (Bd d 0) i&&Nat.blt i (Bd d nn)with |true=>(h' (2000+(i-Bd d 0))).ren (Eo σ d nn) h' |false=>h i
def CX(h:Nat->HO)(d:Nat):Nat->Bool
 |0=>true
 |k+1=>(match h (Bd d k)with |.free=>true |_=>false)&&CX h d k
def CH(σ:Ren)(d nn:Nat):Bool:=
 match σ with
 | []=>true
 |(i,_)::r=>!(Nat.ble (Bd d 0) i&&Nat.blt i (Bd d nn))&&CH r d nn
def Ke(l:List (Nat×Nat))(d:Option Nat):Option Nat:=match d with | none=>none | some d=>M0 l d
def Vt:AV->Bool | .tup _=>false | _=>true
def Ok:List AV->Bool
 | []=>true
 |a::r=>match Vt a with |true=>Ok r |false=>false
def Qz:List AV->Option (List Value)
 | []=>some []
 |.v x::r=>match Qz r with |some l=>some (x::l) |none=>none
 |_=>none
def MF(k:Nat)(d:Option Nat)(h:Nat->HO)(F:AV)(args:List AV)(K:HK):Prop:=
 match d,F,args with
 |some d,.v (.func (.func f) ⟨[]⟩ ⟨[]⟩),.msl r n::l=>match Qz l with
  |some vs=>match h r with
   |.arr sz es=>match k with
    |0=>∃n' EA,BL cx.P f (.msl 1000 n::vs.map .v) (AC [(1000,.arr sz es)] Ao) (fun r' h'=>r'=.msl 1000 n'/\h'=AC [(1000,.arr sz EA)] Ao)/\K (.msl r n') (AH h r (.arr sz EA))
    |_+1=>∃n' EA,(CX h d 1&&Nat.blt r 10000000&&!Nat.beq r (Bd d 0))=true/\BL cx.P f (.msl 1000 n::vs.map .v) (AC [(1000,.arr sz es)] Ao) (fun r' h'=>r'=.msl 2000 n'/\h'=AC [(1000,.dead),(2000,.arr sz EA)] Ao) /\
      K (.msl (Bd d 0) n') (AH (AH h r .dead) (Bd d 0) (.arr sz EA))
   |_=>False
  |none=>False
 |_,_,_=>False
def OQ(d:Option Nat)(st:St)(F:AV)(args:List AV)(K:HK):Prop:=
 match d with
 |none=>False
 |some d=>∃sz es,(CX st.h d 1&&Vt F&&Ok args)=true/\Ey cx.P (fun l=>cx.yp l []) (str st.h F) (args.map (str st.h)) Ao (fun r h'=>r=.slice (.id 2000 sz) es/\h'=AC [(2000,.tok sz es.length)] Ao) /\
   K (.slice (.id (Bd d 0) sz) es) (AH st.h (Bd d 0) (.tok sz es.length))
def Mh(d:Option Nat)(st:St)(F:AV)(args:List AV)(K:HK):Prop:=
  match d,F,Qz args with
  |some _,.v (.func (.yield l) ⟨[]⟩ ⟨[]⟩),some vs=>match st.h 1000,st.h 1001 with
    |.cells [.slice (.id r sz) es],.tok VH n=>(r=1001/\VH=sz)/\∃v EA n',No cx.P (cx.yp l [(1000,1000),(1001,1001)]) l (vs.map .v) (AC [(1000,.cells [.slice (.id 1001 sz) es]),(1001,.tok sz n)] Ao)
          (fun r h'=>r=.v v/\h'=AC [(1000,.cells [.slice (.id 1001 sz) EA]),(1001,.tok sz n')] Ao) /\
        K (.v v) (AH (AH st.h 1001 (.tok sz n')) 1000 (.cells [.slice (.id 1001 sz) EA]))
    |_,_=>False
  |_,_,_=>False
def bW:List Nat:=[1000,1001,1002,1003,1004,1005,1006,1007,10900,5]
def YQ:AV->Option (Nat×List AV)
 |.v (.func (.func f) ⟨[]⟩ ⟨[]⟩)=>some (f,[])
 |.clo f Cs=>some (f,Cs)
 |_=>none
def Ss(d:Option Nat)(st:St)(F:AV)(args:List AV)(K:HK):Prop:=
 match d,YQ F with
 |some d,some (f,Cs)=>∃(σ:Ren) (H0 Hn:List (Nat×HO)) (args' : List AV) (res:AV),
   (∀h2:Nat->HO,(∀r∈bW,h2 r=st.h r)->EV σ h2=AC H0 Ao/\args.map (ren (B5 σ) h2)++Cs.map (ren0 (B5 σ) h2)=args')/\(DI σ&&CH σ d 0&&σ.all fun p=>Gw bW p.1)=true /\
   BL cx.P f args' (AC H0 Ao) (fun r h'=>r=res/\h'=AC Hn Ao)/\K (ren (Eo σ d 0) (AC Hn Ao) res) (DH σ d 0 st.h (AC Hn Ao))
 |_,_=>False
def Lp(k:Nat)(d:Option Nat)(st:St)(F:AV)(args:List AV)(K:HK):Prop:=
 match Nat.beq k 4 with
 |true=>Ss cx d st F args K
 |false=>MF cx k d st.h F args K
def EL(dr:Bool)(d:Option Nat)(st:St)(F:AV)(args:List AV)(K:HK):Prop:=
 match dr with
 |true=>match Ke cx.pl.dc d with
  |none=>∃res,QH cx.P (str st.h F) (args.map (str st.h)) res/\K res st.h
  |some 0=>match d with
   |none=>False
   |some d=>∃n sz es,(CX st.h d 1&&Vt F&&Ok args)=true/\Ey cx.P (fun l=>cx.yp l []) (str st.h F) (args.map (str st.h)) Ao (fun r h'=>r=.msl 2000 n/\h'=AC [(2000,.arr sz es)] Ao) /\
     K (.msl (Bd d 0) n) (AH st.h (Bd d 0) (.arr sz es))
  |some (k+1)=>match Nat.beq k 2 with
   |true=>OQ cx d st F args K
   |false=>match Nat.beq k 3 with
    |true=>Mh cx d st F args K
    |false=>Lp cx k d st F args K
 |false=>∃m:iY,match m with
  |.pure=>∃res,QH cx.P (str st.h F) (args.map (str st.h)) res/\K res st.h
  |.rel=>Ey cx.P (fun _ _ _=>True) (str st.h F) (args.map (str st.h)) Ao fun r h'=>h'=Ao/\K r st.h
  |.gen σ nn=>match d with
   |none=>False
   |some d=>(DI σ&&CX st.h d nn&&CH σ d nn)=true /\
     Ey cx.P (fun l=>cx.yp l σ) (ren (B5 σ) st.h F) (args.map (ren (B5 σ) st.h)) (EV σ st.h) fun r h'=>K (ren (Eo σ d nn) h' r) (DH σ d nn st.h h')
  |.geny σ nn=>match d with
   |none=>False
   |some d=>(DI σ&&CX st.h d nn&&CH σ d nn)=true /\
     match ren (B5 σ) st.h F with
     |.clo f Cs=>eG cx.P (fun g w=>∀l,cx.yp l σ g w) f (args.map (ren (B5 σ) st.h)++Cs) (EV σ st.h) fun r h'=>K (ren (Eo σ d nn) h' r) (DH σ d nn st.h h')
     |_=>False
def RC:List AV->Option (List Value)
 | []=>some []
 |.v x::r=>match RC r with |some l=>some (x::l) |none=>none
 |_=>none
def gC:AV->Option Value
 |.v x=>some x
 |.agg cs=>match RC cs with |some l=>some (.agg l.toArray) |none=>none
 |_=>none
def FS(T:EU)(t:Nat):Option DG:=
 match(T t).d with
 |.struct _=>match FH T 8 t with |some l=>some ⟨true,l⟩ |none=>none
 |_=>match FH T 1 t with |some l=>some ⟨false,l⟩ |none=>none
def cD:KS->KS->Bool
 |.int k,.int k'=>iQ k k'
 |.str,.str=>true
 |.bool,.bool=>true
 |_,_=>false
def Od:List KS->List KS->Bool
 | [],[]=>true
 |a::r,b::s=>match cD a b with |true=>Od r s |false=>false
 |_,_=>false
def gZ(a b:DG):Bool:=
 match a.agg,b.agg with
 |true,true=>Od a.l b.l
 |false,false=>Od a.l b.l
 |_,_=>false
def Hs(T:EU)(ty:Nat)(sh:DG)(k:AV)(K:Value->Prop):Prop:=
 match(T ty).d with
 |.map kt _=>match FS T kt with
  |some mq=>match gZ sh mq with
   |true=>match gC k with
    |some kx=>match Qp sh kx with
     |true=>K kx
     |false=>False
    |none=>False
   |false=>False
  |none=>False
 |_=>False
open Classical in
noncomputable def FN(BK:List (Value×AV))(k:Value)(a:AV):List (Value×AV):=
 if ∃a',(k,a')∈BK then BK.map fun p=>if p.1=k then(k,a)else p else BK++[(k,a)]
def HX(T:EU)(mku:List Nat)(d:Option Nat)(h:Nat->HO)(ty:Nat)(K:HK):Prop:=
 match d with
 |none=>False
 |some d=>match h d with
  |.free=>match(T ty).d with
   |.map kt _=>match FS T kt with
    |some sh=>match Gw mku d with
     |true=>K (.mref d) (AH h d (.mapU sh []))
     |false=>K (.mref d) (AH h d (.map sh []))
    |none=>False
   |_=>False
  |_=>False
def Fi(T:EU)(h:Nat->HO)(ty:Nat)(m k x:AV)(K:HK):Prop:=
 match m with
 |.mref r=>match h r with
  |.map sh BK=>Hs T ty sh k fun kx=>K (.v undef) (AH h r (.map sh (FN BK kx (str h x))))
  |.mapU sh BK=>Hs T ty sh k fun kx=>K (.v undef) (AH h r (.mapU sh (FN BK kx x)))
  |_=>False
 |_=>False
def Jk(T:EU)(t:Nat)(K:AV->Prop):Prop:=
 match(T t).d with
 |.other=>False
 |_=>match(T t).zero with
  |.agg cs=>match EY (cs.toList.map .v)with |true=>K (.agg (cs.toList.map .v)) |false=>False
  |z=>K (.v z)
def I3(T:EU)(ty:Nat)(ok:Bool)(BK:List (Value×AV))(kx:Value)(K:AV->Prop):Prop:=
 match(T ty).d with
 |.map _ e=>match ok with
  |true=>(∀a,(kx,a)∈BK->K (.tup [a,.v (.bool true)]))/\((∀a,(kx,a)∉BK)->Jk T e fun z=>K (.tup [z,.v (.bool false)]))
  |false=>(∀a,(kx,a)∈BK->K a)/\((∀a,(kx,a)∉BK)->Jk T e K)
 |_=>False
def I2(T:EU)(ty:Nat)(ok:Bool)(BK:List (Value×AV))(kx:Value)(K:AV->Prop):Prop:=
 match(T ty).d with
 |.map _ e=>match ok with
  |true=>(∃a,((kx,a)∈BK/\∀b,(kx,b)∈BK->b=a)/\K (.tup [a,.v (.bool true)]))\/((∀a,(kx,a)∉BK)/\Jk T e fun z=>K (.tup [z,.v (.bool false)]))
  |false=>(∃a,((kx,a)∈BK/\∀b,(kx,b)∈BK->b=a)/\K a)\/((∀a,(kx,a)∉BK)/\Jk T e K)
 |_=>False
def Jw(T:EU)(h:Nat->HO)(ty:Nat)(m k:AV)(ok:Bool)(K:AV->Prop):Prop:=
 match m with
 |.cmap sh BK=>Hs T ty sh k fun kx=>I2 T ty ok BK kx K
 |.mref r=>match h r with
  |.map sh BK=>Hs T ty sh k fun kx=>I2 T ty ok BK kx K
  |.mapU sh BK=>Hs T ty sh k fun kx=>I2 T ty ok BK kx K
  |.rom sh BK=>Hs T ty sh k fun kx=>I2 T ty ok BK kx K
  |_=>False
 |_=>False
def Jx(T:EU)(h:Nat->HO)(ty:Nat)(m k:AV)(ok:Bool)(K:AV->Prop):Prop:=
 match m with
 |.cmap sh BK=>Hs T ty sh k fun kx=>I3 T ty ok BK kx K
 |.mref r=>match h r with
  |.map sh BK=>Hs T ty sh k fun kx=>I3 T ty ok BK kx K
  |.mapU sh BK=>Hs T ty sh k fun kx=>I3 T ty ok BK kx K
  |.rom sh BK=>Hs T ty sh k fun kx=>I3 T ty ok BK kx K
  |_=>False
 |_=>False
def UH(d:Option Nat)(h:Nat->HO)(x:AV)(K:HK):Prop:=
 match d with
 |none=>False
 |some d=>match h d with
  |.free=>match x with
   |.cmap _ BK=>K (.ref d 0) (AH h d (.iter BK BK none))
   |.mref r=>match h r with
    |.rom _ BK=>K (.ref d 0) (AH h d (.iter BK BK none))
    |.map sh BK=>K (.ref d 0) (AH (AH h r (.rom sh BK)) d (.iter BK BK none))
    |_=>False
   |_=>False
  |_=>False
def ZK(h:Nat->HO)(x:AV)(K:HK):Prop:=
 match x with
 |.ref r 0=>match h r with
  |.iter all rem _=>(rem=[]->K (.tup [.v (.bool false)]) h) /\
    (∀kv rem',rem.Perm (kv::rem')->K (.tup [.v (.bool true),.v kv.1,kv.2]) (AH h r (.iter all rem' (some kv))))
  |_=>False
 |_=>False
def Ud(h:Nat->HO)(x:AV)(K:AV->Prop):Prop:=
 match x with
 |.ref r 0=>match h r with
  |.iter _ _ (some kv)=>K (.tup [.v kv.1,kv.2])
  |_=>False
 |_=>False
def Mu(T:EU)(t:Nat)(h:Nat->HO)(x:AV)(K:AV->Prop):Prop:=
 match(T t).d with
 |.slice _=>match x with
  |.slice _ es=>K (.v (.int .i64 es.length))
  |.msl _ n=>K (.v (.int .i64 n))
  |.v (.slice none 0 0)=>K (.v (.int .i64 0))
  |_=>False
 |.string=>match x with
  |.v (.string s)=>K (.v (.int .i64 s.size))
  |_=>False
 |.map _ _=>match x with
  |.cmap _ BK=>K (.v (.int .i64 BK.length))
  |.mref r=>match h r with
   |.map _ BK=>K (.v (.int .i64 BK.length))
   |.mapU _ BK=>K (.v (.int .i64 BK.length))
   |.rom _ BK=>K (.v (.int .i64 BK.length))
   |_=>False
  |_=>False
 |_=>False
def ER(d:Option Nat)(h:Nat->HO)(ty:Nat)(x:AV)(lo hi mx:Option (Option Int))(K:HK):Prop:=
 match lo,hi,mx with
 |some lo,some hi,some mx=>match(cx.T ty).d with
  |.string=>match mx,x with
   |none,.v (.string s)=>(0<=lo.getD 0/\lo.getD 0<=hi.getD s.size/\hi.getD s.size<=s.size)/\K (.v (.string (s.extract (lo.getD 0).toNat (hi.getD s.size).toNat))) h
   |_,_=>False
  |.slice e=>match(cx.T e).size with
   |0=>False
   |_+1=>match x with
    |.slice _ es=>match mx with
     |none=>(0<=lo.getD 0/\lo.getD 0<=hi.getD es.length/\hi.getD es.length<=es.length) /\
       (∀cs∈es,cs.length=(cx.T e).size)/\K (.slice .none ((es.take (hi.getD es.length).toNat).drop (lo.getD 0).toNat)) h
     |some m=>match d,hi with
      |some d,some hi=>match M0 cx.pl.arr d with
       |some _=>(0<=lo.getD 0/\lo.getD 0<=hi/\m=hi/\hi<=es.length)/\(∀cs∈es,cs.length=(cx.T e).size) /\
         K (.slice (.full (cx.T e).size) ((es.take hi.toNat).drop (lo.getD 0).toNat)) h
       |none=>match h d with
        |.free=>(0<=lo.getD 0/\lo.getD 0<=hi/\m=hi/\hi<=es.length)/\(∀cs∈es,cs.length=(cx.T e).size) /\
          K (.slice (.id d (cx.T e).size) ((es.take hi.toNat).drop (lo.getD 0).toNat)) (AH h d (.tok (cx.T e).size (hi.toNat-(lo.getD 0).toNat)))
        |_=>False
      |_,_=>False
    |.v (.slice none 0 0)=>(lo.getD 0=0/\hi.getD 0=0/\mx.getD 0=0)/\(mx=none\/hi≠none)/\K (.v (.slice none 0 0)) h
    |.msl r n=>match h r with
     |.arr sz es=>match Nat.beq sz (cx.T e).size with
      |true=>(n=es.length/\0<=lo.getD 0/\lo.getD 0<=hi.getD es.length/\hi.getD es.length<=es.length/\(mx=none\/(mx=hi/\hi≠none))) /\
        K (.slice .none ((es.take (hi.getD es.length).toNat).drop (lo.getD 0).toNat)) (AH h r .dead)
      |false=>False
     |_=>False
    |_=>False
  |_=>False
 |_,_,_=>False
def OB(d:Option Nat)(h:Nat->HO)(ty:Nat)(x:AV)(lo:Option (Option Int))(hi mx:Option Operand)(K:HK):Prop:=
 match d,lo,hi,mx with
 |some d,some (some lo),none,none=>match(cx.T ty).d with
  |.slice e=>match(cx.T e).size with
   |0=>False
   |_+1=>match x with
    |.slice (.id r sz) es=>match h r with
     |.tok ES n=>match h (He cx d)with
      |.free=>match Nat.beq ES sz,Nat.beq sz (cx.T e).size with
       |true,true=>(es.length=n/\0<=lo/\lo<=es.length)/\K (.slice (.id (He cx d) sz) (es.drop lo.toNat)) (AH (AH h r .dead) (He cx d) (.tok sz (es.drop lo.toNat).length))
       |_,_=>False
      |_=>False
     |_=>False
    |_=>False
  |_=>False
 |_,_,_,_=>False
def af(d:Option Nat)(h:Nat->HO)(ty:Nat)(x:AV)(hi:Option (Option Int))(K:HK):Prop:=
 match d,hi with
 |some d,some (some hi)=>match(cx.T ty).d with
  |.slice e=>match(cx.T e).size with
   |0=>False
   |_+1=>match x with
    |.msl r n=>match h r with
     |.arr sz es=>match h (He cx d)with
      |.free=>match Nat.beq sz (cx.T e).size,Nat.blt r 10000000&&Nat.blt 0 (He cx d)with
       |true,true=>(n=es.length/\0<=hi/\hi<=es.length)/\K (.msl (He cx d) hi.toNat) (AH (AH h r .dead) (He cx d) (.arr sz (es.take hi.toNat)))
       |_,_=>False
      |_=>False
     |_=>False
    |_=>False
  |_=>False
 |_,_=>False
def Ln(d:Option Nat)(h:Nat->HO)(ty:Nat)(x:AV)(lo:Option Operand)(hi:Option (Option Int))(mx:Option Operand)(K:HK):Prop:=
 match lo,mx with
 |none,none=>af cx d h ty x hi K
 |_,_=>False
def TX(T:EU)(h:Nat->HO)(ty:Nat)(x:AV)(hi mx:Option Operand)(K:AV->Prop):Prop:=
 match hi,mx,(T ty).d,x with
 |none,none,.array n e,.ref r 0=>match(T e).size,h r with
  |1,.ro cs=>n=cs.length/\K (.slice .none (cs.map fun c=>[c]))
  |_,_=>False
 |_,_,_,_=>False
def TB(d:Option Nat)(h:Nat->HO)(ty:Nat)(x:AV)(t:Nat->AV)(lo hi mx:Option Operand)(K:HK):Prop:=
 match lo with
 |none=>match(cx.T ty).d with
  |.array _ _=>TX cx.T h ty x hi mx fun v=>K v h
  |_=>Ln cx d h ty x none (BJ t hi) mx K
 |some lo=>OB cx d h ty x (BJ t (some lo)) hi mx K
def qt:AV->AV
 |.slice _ es=>.slice .none es
 |a=>a
def KQ(d:Option Nat)(h:Nat->HO)(x:AV)(K:HK):Prop:=
 match d with
 |none=>K x h
 |some d=>match M0 cx.pl.tok d with
  |some sz=>match Nat.beq sz 0 with
   |true=>K (qt x) h
   |false=>match x with
    |.v (.slice none 0 0)=>match h d with
     |.free=>K (.slice (.id d sz) []) (AH h d (.tok sz 0))
     |_=>False
    |x=>K x h
  |none=>match M0 cx.pl.arr d with
   |some sz=>match x with
    |.v (.slice none 0 0)=>match h d with
     |.free=>K (.msl d 0) (AH h d (.arr sz []))
     |_=>False
    |x=>K x h
   |none=>K x h
def cO(l:List AV)(n:Nat):Option AV:=
 match l with
 | []=>none
 |x::r=>match n with |0=>some x |n+1=>cO r n
def IZ(i:Nat)(K:AV->Prop):Prop:=
 match x with
 |.tup vs=>match cO vs i with
  |some a=>K a
  |none=>False
 |_=>False
def HZ:Prop:=
 match x with
 |.ref r o=>K (.ref r o)
 |.eref r n z i o=>K (.eref r n z i o)
 |.cptr cs=>K (.cptr cs)
 |.clo f cs=>K (.clo f cs)
 |.v (.func (.func f) a b)=>K (.v (.func (.func f) a b))
 |_=>False
def Tt(c a b:AV)(K:AV->Prop):Prop:=
 match c with
 |.v (.bool true)=>K a
 |.v (.bool false)=>K b
 |_=>False
def cM(f:Int->Int->Int)(x y:AV)(K:AV->Prop):Prop:=
 match x,y with
 |.v (.int k a),.v (.int k' b)=>match iQ k k' with
  |true=>K (.v (.int k (f a b)))
  |false=>False
 |_,_=>False
def G3(d:Option Nat)(h:Nat->HO)(ty:Nat)(len cap:AV)(K:HK):Prop:=
 match(cx.T ty).d,len,cap with
 |.slice e,.v (.int .i64 n),.v (.int .i64 c)=>match EY ((cx.T e).zc.map .v)with
  |true=>match Nat.beq (cx.T e).zc.length (cx.T e).size with
   |true=>match(cx.T e).size with
    |0=>False
    |_+1=>(0<=n/\n<=c/\c*(cx.T e).bytes<=140737488355328/\c<=9223372036854775807)/\Dv cx d h (cx.T e).size (List.replicate n.toNat ((cx.T e).zc.map .v)) K
   |false=>False
  |false=>False
 |_,_,_=>False
def TG(op:UnOp)(x:AV)(K:AV->Prop):Prop:=
 match op,x with
 |.not,x=>WS K x
 |.neg,.v (.int .i64 a)=>AE (-a)/\K (.v (.int .i64 (-a)))
 |.xor,.v (.int k a)=>K (.v (.int k (BV .xor k (if k.signed then -1 else k.max) a)))
 |_,_=>False
def Es(d:Option Nat)(h:Nat->HO)(b:Builtin)(E2:List Nat)(args:List AV)(K:HK):Prop:=
 match b,args,E2 with
 |.len,[x],[t]=>Mu cx.T t h x fun v=>K v h
 |.append,[s,x],[t,t']=>match Nat.beq t t' with
  |true=>GH cx d h t s x K
  |false=>False
 |.max,[x,y],_=>cM max x y fun v=>K v h
 |.min,[x,y],_=>cM min x y fun v=>K v h
 |_,_,_=>False
def Ek(dr:Bool)(o:Oper)(st:St)(K:HK):Prop:=
 match o.op with
 |.move x=>K (ev st.t x) st.h
 |.assign x=>KQ cx o.dst st.h (ev st.t x) K
 |.pick c a b=>Tt (ev st.t c) (ev st.t a) (ev st.t b) fun v=>K v st.h
 |.alloc e=>Nq cx.T o.dst st.h e K
 |.box e x=>V1 cx o.dst st.h e (ev st.t x) K
 |.build ty ps=>LC cx.T ty st.t ps.toList fun v=>K v st.h
 |.buildSlice ty n ps=>Gf cx o.dst st.h ty n st.t ps.toList K
 |.insert ty m k x=>Fi cx.T st.h ty (ev st.t m) (ev st.t k) (ev st.t x) K
 |.load ty x=>F4 cx.T st.h ty (ev st.t x) fun v=>K v st.h
 |.store ty p x=>Ky cx st.h ty (ev st.t p) (ev st.t x) K
 |.nilCheck x=>HZ (ev st.t x) fun v=>K v st.h
 |.binOp op ty x y _=>Sa cx.T op ty y (ev st.t x) (ev st.t y) fun v=>K v st.h
 |.unOp op _ x=>TG op (ev st.t x) fun v=>K v st.h
 |.convert s ty x=>match dr with
  |true=>PK cx.T s ty (ev st.t x) fun v=>K v st.h
  |false=>T8 cx o.dst st.h s ty (ev st.t x) K
 |.makeFunc fn first cap=>HU st.t st.h fn first.toList cap.toList fun v=>K v st.h
 |.makeMap ty none=>HX cx.T cx.pl.mku o.dst st.h ty K
 |.makeSlice ty n c=>G3 cx o.dst st.h ty (ev st.t n) (ev st.t c) K
 |.slice ty x lo hi mx=>match dr with
  |true=>match Ke cx.pl.tok o.dst with
   |none=>ER cx o.dst st.h ty (ev st.t x) (BJ st.t lo) (BJ st.t hi) (BJ st.t mx) K
   |some _=>Ln cx o.dst st.h ty (ev st.t x) lo (BJ st.t hi) mx K
  |false=>match Ke cx.pl.tok o.dst with
   |none=>ER cx o.dst st.h ty (ev st.t x) (BJ st.t lo) (BJ st.t hi) (BJ st.t mx) K
   |some _=>TB cx o.dst st.h ty (ev st.t x) st.t lo hi mx K
 |.fieldAddr s x f=>NM cx.T s f (ev st.t x) fun v=>K v st.h
 |.field s x f=>KY cx.T s f (ev st.t x) fun v=>K v st.h
 |.indexAddr ty x ix=>G2 cx.T ty (ev st.t x) (ev st.t ix) fun v=>K v st.h
 |.index ty x ix=>N8 cx.T ty (ev st.t x) (ev st.t ix) fun v=>K v st.h
 |.lookup ty x ix ok=>match dr with
  |true=>Jw cx.T st.h ty (ev st.t x) (ev st.t ix) ok fun v=>K v st.h
  |false=>Jx cx.T st.h ty (ev st.t x) (ev st.t ix) ok fun v=>K v st.h
 |.mapUpdate ty m k x=>Fi cx.T st.h ty (ev st.t m) (ev st.t k) (ev st.t x) K
 |.range ty x=>match(cx.T ty).d with |.map _ _=>UH o.dst st.h (ev st.t x) K |_=>False
 |.next it false=>ZK st.h (ev st.t it) K
 |.entry it=>Ud st.h (ev st.t it) fun v=>K v st.h
 |.extract x i=>IZ (ev st.t x) i fun v=>K v st.h
 |.call c=>match c.callee with
  |.builtin b=>Es cx o.dst st.h b c.argTypes.toList (c.args.toList.map (ev st.t)) K
  |.value f=>EL cx dr o.dst st (ev st.t f) (c.args.toList.map (ev st.t)) K
  |_=>False
 |_=>False
def Hu(ops:List Oper)(j:Nat):Option Nat:=match ops with | []=>none | o::r=>match j with | 0=>o.dst | j+1=>Hu r j
def ah(o:Oper)(st:St):St:=
 match o.dst with
 |none=>st
 |some d=>match jd cx.pl.tz d with
  |some (r,k,j,sz)=>⟨st.t,mr st.h r k j sz⟩
  |none=>match eT cx.pl.fz d with
   | []=>st
   |l=>⟨st.t,MN st.h l⟩
def mv(o:Oper)(st:St)(K:St->Prop):Prop:=
 match o.dst with
 |none=>K st
 |some d=>match M0 cx.pl.ak d with
  |none=>K st
  |some s=>match st.t s with
   |.msl r n=>match st.h r with
    |.arr sz es=>n=es.length/\K ⟨Gz st.t s (.slice (.id r sz) es),AH st.h r (.tok sz es.length)⟩
    |_=>K st
   |_=>K st
def XP(dr:Bool)(o:Oper)(st:St)(K:St->Prop):Prop:=
 match dr with
 |true=>Ek cx true o st fun v h=>K (st.put o.dst v h)
 |false=>mv cx o (ah cx o st) fun Eb=>Ek cx false o Eb fun v h=>K (Eb.put o.dst v h)
def Fl(dr:Bool)(all:List Oper)(o:Oper)(st:St)(K:St->Prop):Prop:=
 match o.guard with
 |none=>XP cx dr o st K
 |some (j,want)=>match Hu all j with
  |none=>False
  |some d=>match st.t d,want with
   |.v (.bool true),true=>XP cx dr o st K
   |.v (.bool false),false=>XP cx dr o st K
   |.v (.bool true),false=>K (st.put o.dst (.v undef) st.h)
   |.v (.bool false),true=>K (st.put o.dst (.v undef) st.h)
   |.v (.tuple _),_=>K (st.put o.dst (.v undef) st.h)
   |_,_=>False
def Oa(o2:Oper):Bool:=
 match o2.op with
 |.call c=>match c.callee with
  |.builtin .clear=>match o.op with
   |.slice ty _ (some _) none none=>match o.dst,o2.dst,c.args.toList,c.argTypes.toList,o.guard,o2.guard with
    |some d,none,[.tmp d'],[qr],none,none=>Nat.beq d d'&&Nat.beq ty qr
    |_,_,_,_,_,_=>false
   |_=>false
  |_=>false
 |_=>false
def jD(d:Nat)(st:St)(r i sz:Nat)(es:List (List AV))(z:List Value)(K:St->Prop):Prop:=
 match z.all Value.oneCell' with
 |true=>K ⟨Gz st.t d .junk,AH st.h r (.arr sz (es.take i++List.replicate (es.length-i) (z.map AV.v)))⟩
 |false=>False
def V9(o:Oper)(st:St)(K:St->Prop):Prop:=
 match o.op with
 |.slice ty x (some lo) none none=>match o.dst with
  |some d=>match(cx.T ty).d with
   |.slice e=>match ev st.t x with
    |.msl r n=>match ev st.t lo with
     |.v (.int .i64 i)=>match st.h r with
      |.arr sz es=>match Nat.beq sz (cx.T e).size with
       |true=>match(cx.T e).size with
        |0=>False
        |_+1=>match Nat.beq (cx.T e).zc.length sz with
         |true=>(n=es.length/\0<=i/\i<=es.length)/\jD d st r i.toNat sz es (cx.T e).zc K
         |false=>False
       |false=>False
      |_=>False
     |_=>False
    |_=>False
   |_=>False
  |none=>False
 |_=>False
def O0(cx:Cx)(all l:List Oper)(st:St)(K:St->Prop):Prop:=
 match l with
 | []=>K st
 | [o]=>Fl cx false all o st K
 |o::o2::r=>match Oa o o2 with
  |true=>V9 cx o st fun Eb=>O0 cx all r Eb K
  |false=>Fl cx false all o st fun Eb=>O0 cx all (o2::r) Eb K
def Ph:AV->List Nat
 |.ref r _=>[r]
 |.mref r=>[r]
 |_=>[]
def cz:List AV->List Nat
 | []=>[]
 |a::r=>Ph a++cz r
def Pi:AV->List Nat
 |.agg cs=>cz cs
 |.clo _ cs=>cz cs
 |a=>Ph a
def gv:List AV->List Nat
 | []=>[]
 |a::r=>Pi a++gv r
def RL:AV->List Nat
 |.agg cs=>gv cs
 |a=>Pi a
def N3:List AV->List Nat
 | []=>[]
 |a::r=>RL a++N3 r
abbrev D9:=List Nat×Option Nat
def Gg(d:Option Nat)(l:List Nat):Option D9:=match d with | some d=>some (d::l,some d) | none=>none
def WQ:AV->List Nat
 |.msl r _=>[r]
 |_=>[]
def Q8(d:Option Nat)(s x:AV):Option D9:=
 match s with
 |.v (.slice none 0 0)=>Gg (d.map (He cx)) (WQ x)
 |.slice (.full _) _=>Gg (d.map (He cx)) (WQ x)
 |.slice (.id r _) _=>Gg (some r) (WQ x)
 |.msl r _=>Gg (some r) (WQ x)
 |_=>none
def U6(d:Option Nat)(args:List AV):Option D9:=
 match d with
 |some d=>match args with
  |.msl r _::_=>some ([r,Bd d 0],some (r+10000000*Bd d 0))
  |_=>none
 |none=>none
theorem Uf{d:Option Nat}{args:List AV}{f:D9}(h:U6 d args=some f):∃d' r n l,d=some d'/\args=.msl r n::l/\f=([r,Bd d' 0],some (r+10000000*Bd d' 0)):=by
 unfold U6 at h;split at h
 .split at h
  .cases h;exact⟨_,_,_,_,rfl,rfl,rfl⟩
  .cases h
 .cases h
def YN(d:Option Nat)(x:AV):Option D9:=
 match d with
 |some d=>match x with
  |.msl r _=>some ([r,d],some (r+10000000*d))
  |_=>none
 |none=>none
theorem Ug{d:Option Nat}{x:AV}{f:D9}(h:YN d x=some f):∃d' r n,d=some d'/\x=.msl r n/\f=([r,d'],some (r+10000000*d')):=by
 unfold YN at h;split at h
 .split at h
  .cases h;exact⟨_,_,_,rfl,rfl,rfl⟩
  .cases h
 .cases h
def YO(args:List AV):Option D9:=match Qz args with | some _=>some ([1000,1001],some 10010001000) | none=>none
def QL:Nat:=99999999999999
def YM(k:Nat)(d:Option Nat)(args:List AV):Option D9:=
 match Nat.beq k 3 with
 |true=>some (bW,some QL)
 |false=>U6 d args
def E5(d:Option Nat)(c:Callee)(t:Nat->AV)(args:List AV):Option D9:=
 match c,args with
 |.builtin .len,[.mref r]=>some ([r],none)
 |.builtin .len,[_]=>some ([],none)
 |.builtin .max,_=>some ([],none)
 |.builtin .min,_=>some ([],none)
 |.builtin .append,[s,x]=>Q8 cx d s x
 |.value f,args=>match Ke cx.pl.dc d with
  |none=>some (RL (ev t f)++N3 args,none)
  |some 0=>Gg (d.map fun d=>Bd d 0) (RL (ev t f)++N3 args)
  |some 1=>match args with |.msl r _::_=>some ([r],some r) |_=>none
  |some (k+2)=>match Nat.beq k 1 with
   |true=>Gg (d.map fun d=>Bd d 0) (RL (ev t f)++N3 args)
   |false=>match Nat.beq k 2 with
    |true=>YO args
    |false=>YM k d args
 |_,_=>none
def DV(o:Oper)(st:St):Option D9:=
 match o.op with
 |.move _ |.pick .. |.nilCheck _ |.unOp .. |.convert .. |.fieldAddr .. |.field .. |.indexAddr .. |.index .. |.extract .. |.build ..=>some ([],none)
 |.binOp _ _ x _ _=>match ev st.t x with |.slice ..=>none |_=>some ([],none)
 |.assign x=>match ev st.t x with |.v (.slice ..)=>none |_=>some ([],none)
 |.load _ p=>match ev st.t p with |.cptr _=>some ([],none) |.ref r _=>some ([r],none) |.eref r ..=>some ([r],none) |_=>none
 |.call c=>E5 cx o.dst c.callee st.t (c.args.toList.map (ev st.t))
 |.alloc e=>match Nat.beq e QT with |true=>none |false=>Gg o.dst []
 |.box _ x=>Gg o.dst (RL (ev st.t x))
 |.buildSlice _ _ ps=>Gg (o.dst.map (He cx)) (N3 (ps.toList.map fun p=>ev st.t p.2))
 |.store _ p x=>match ev st.t p with
  |.ref r _=>match Gw cx.pl.frz r with |true=>none |false=>Gg (some r) []
  |.eref r ..=>Gg (some r) (RL (ev st.t x))
  |_=>none
 |.slice _ x _ _ mx=>match Ke cx.pl.tok o.dst with
  |some _=>YN (o.dst.map (He cx)) (ev st.t x)
  |none=>match mx,ev st.t x with
   |none,.msl ..=>none
   |none,_=>some ([],none)
   |some _,.slice ..=>Gg o.dst []
   |_,_=>none
 |.makeFunc _ _ cap=>some (N3 (cap.toList.map (ev st.t)),none)
 |.mapUpdate _ m _ x=>match ev st.t m with |.mref r=>Gg (some r) (RL (ev st.t x)) |_=>none
 |.makeSlice ..=>Gg (o.dst.map (He cx)) []
 |.lookup _ m _ _=>match ev st.t m with |.cmap ..=>some ([],none) |.mref r=>some ([r],none) |_=>none
 |.makeMap ..=>Gg o.dst []
 |_=>none
def JZ(all:List Oper)(o:Oper)(st:St):Option D9:=
 match o.guard with
 |none=>DV cx o st
 |some (j,want)=>match Hu all j with
  |none=>none
  |some d=>match st.t d,want with
   |.v (.bool true),true=>DV cx o st
   |.v (.bool false),false=>DV cx o st
   |_,_=>some ([],none)
def kQ(l:List Nat):Bool:=match l with | []=>true | _=>false
def Tl(l:List Nat)(r:Nat):Bool:=bif Nat.beq r QL then kQ l else !Gw l r&&(Nat.blt r 10000000||(!Gw l (r % 10000000)&&!Gw l (r / 10000000)))
def NF(a b:D9):Bool:=
 (match a.2 with | some r=>Tl b.1 r | none=>true)&&(match b.2 with | some r=>Tl a.1 r | none=>true)
def K5(i:Nat)(D:List Nat):Bool:=o.after.toList.any fun e=>Region.binds .any e&&(Nat.beq e.on i||Gw D e.on)
def LJ(i:Nat)(D:List Nat)(k:Nat):List Oper->List Nat
 | []=>D
 |o::r=>match K5 o i D with
  |true=>LJ i (k::D) (k+1) r
  |false=>LJ i D (k+1) r
def OK(i:Nat)(D:List Nat)(k:Nat):List Oper->Bool
 | []=>true
 |o::r=>(K5 o i D||!Gw D k)&&OK i D (k+1) r
def Gd(ops:Array Oper)(oi:Oper)(fi:D9)(D:List Nat)(k:Nat):List Oper->List D9->Bool
 |o::r,f::fs=>(Gw D k||(oi.apart ops o&&NF fi f))&&Gd ops oi fi D (k+1) r fs
 | [],[]=>true
 |_,_=>false
def IX(ops:Array Oper)(all:List Oper)(k:Nat):List Oper->List D9->Bool
 |o::r,f::fs=>
  let D:=LJ k [] 0 all
  (o.after.toList.all fun e=>!Region.binds .any e||Nat.blt e.on k)&&OK k D 0 all&&(D.all fun j=>Nat.blt k j&&Nat.blt j all.length)&&Gd ops o f D (k+1) r fs&&IX ops all (k+1) r fs
 | [],[]=>true
 |_,_=>false
def NG(ops:Array Oper)(fs:List D9):Bool:=Region.noSelect ops&&IX ops ops.toList 0 ops.toList fs
def RU(cx:Cx)(ops:Array Oper)(l:List Oper)(fs:List D9)(st:St)(K:St->Prop):Prop:=
 match l with
 | []=>NG ops fs.reverse=true/\K st
 |o::r=>match JZ cx ops.toList o st with
  |some f=>Fl cx true ops.toList o st fun Eb=>RU cx ops r (f::fs) Eb K
  |none=>False
def NJ(l:List (Nat×AV))(i:Nat):AV:=match l with | []=>.junk | (j,v)::r=>bif Nat.beq i j then v else NJ r i
structure LS where
 t:List (Nat×AV)
 h:List (Nat×HO)
 hb:Nat->HO
def LS.st(s:LS):St:=⟨NJ s.t,AC s.h s.hb⟩
def Pg(h:Nat->HO)(r:Nat):Bool:=match h r with | .free=>false | _=>true
def ids0(h:Nat->HO):AV->Bool
 |.slice (.id r _) _=>Pg h r
 |.slice (.ver r _ _) _=>Pg h r
 |.msl r _=>Pg h r
 |.ref r _=>Pg h r
 |.eref r _ _ _ _=>Pg h r
 |.mref r=>Pg h r
 |.agg _ |.tup _ |.clo ..=>false
 |_=>true
def SI(h:Nat->HO):List AV->Bool
 | []=>true
 |a::r=>match ids0 h a with |true=>SI h r |false=>false
def Pj(h:Nat->HO):AV->Bool
 |.agg cs=>SI h cs
 |.tup cs=>SI h cs
 |.clo _ cs=>SI h cs
 |a=>ids0 h a
def N5(h:Nat->HO):List (Value×AV)->Bool
 | []=>true
 |p::r=>match Pj h p.2 with |true=>N5 h r |false=>false
def Re(h:Nat->HO):List AV->Bool
 | []=>true
 |a::r=>match Pj h a with |true=>Re h r |false=>false
def N4(h:Nat->HO):HO->Bool
 |.cells cs=>Re h cs
 |.mapU _ BK=>N5 h BK
 |.hol _ _ _ _ a=>Pj h a
 |.bld x=>Pj h x
 |_=>true
def mg(st:St)(h:Nat->HO):List (Nat×AV)->Prop
 | []=>True
 |(j,a)::r=>(st.t j=a/\Pj h a=true)/\mg st h r
def mf(st:St)(h:Nat->HO):List (Nat×HO)->Prop
 | []=>True
 |(j,o)::r=>(st.h j=o/\N4 h o=true)/\mf st h r
def St.le(st:St)(s:LS):Prop:=
 mg st s.st.h s.t/\mf st s.st.h s.h/\(∀j,s.hb j=.free\/(st.h j=s.hb j/\N4 s.st.h (s.hb j)=true)) /\
 match cx.ext with
 |false=>True
 |true=>∀j,1000<=j->j<2000->st.h j≠.free->s.st.h j≠.free
def Jn(ops:Array Oper)(dr:Bool)(st:St)(K:St->Prop):Prop:=
 match dr with
 |false=>O0 cx ops.toList ops.toList st K
 |true=>RU cx ops ops.toList [] st K
inductive Ex | normal | exit (id:Nat) | ret
def mz(h:Nat->HO)(o k:Nat)(K:(Nat->HO)->Prop):Prop:=
 match h o with
 |.cells cs=>match H1 cs k with
  |.msl r n=>match h r with
   |.arr sz es=>n=es.length/\K (AH (AH h r (.tok sz es.length)) o (.cells (EF cs k (.slice (.id r sz) es))))
   |_=>K h
  |_=>K h
 |_=>K h
def mw(h:Nat->HO)(o k j:Nat)(K:(Nat->HO)->Prop):Prop:=
 match h o with
 |.cells cs=>match H1 cs k with
  |.msl r n=>match h r with
   |.arr sz es=>match h j with
    |.free=>n=es.length/\K (AH (AH (AH h r .dead) j (.arr sz es)) o (.cells (EF cs k (.msl j n))))
    |_=>False
   |_=>False
  |_=>False
 |_=>False
def pm(h:Nat->HO)(o k d:Nat)(K:(Nat->HO)->Prop):Prop:=
 match h o with
 |.cells cs=>match H1 cs k with
  |.slice (.ver r sz v) es=>match h r with
   |.var ES v' _=>match h d with
    |.free=>(v=v'/\sz=ES)/\K (AH (AH (AH h r (.vox v)) d (.tok sz es.length)) o (.cells (EF cs k (.slice (.id d sz) es))))
    |_=>False
   |_=>False
  |_=>K h
 |_=>False
def ph(h:Nat->HO)(o k r:Nat)(K:(Nat->HO)->Prop):Prop:=
 match h o with
 |.cells cs=>match H1 cs k with
  |.slice (.id d sz) es=>match h d with
   |.tok ES n=>match h r with
    |.vox v=>(es.length=n/\sz=ES)/\K (AH (AH (AH h d .dead) r (.var sz (v+1) n)) o (.cells (EF cs k (.slice (.ver r sz (v+1)) es))))
    |_=>False
   |_=>False
  |_=>K h
 |_=>False
def oX(h:Nat->HO)(r:Nat)(K:(Nat->HO)->Prop):Prop:=
 match h r with
 |.free=>K (AH h r (.vox 0))
 |_=>False
def mp(h:Nat->HO)(o k:Nat)(K:(Nat->HO)->Prop):Prop:=
 match h o with
 |.cells cs=>match H1 cs k with
  |.mref r=>match h r with
   |.rom sh BK=>K (AH h o (.cells (EF cs k (.cmap sh BK))))
   |_=>False
  |_=>False
 |_=>False
def pq(h:Nat->HO)(o k j sz:Nat)(K:(Nat->HO)->Prop):Prop:=
 match h o with
 |.cells cs=>match H1 cs k with
  |.v (.slice none 0 0)=>match h j with
   |.free=>K (AH (AH h j (.arr sz [])) o (.cells (EF cs k (.msl j 0))))
   |_=>False
  |_=>False
 |_=>False
def nE(id:Nat)(h:Nat->HO)(K:(Nat->HO)->Prop):Prop:=
 match M0 cx.pl.ak (850000+id)with
 |some v=>K (YP h v)
 |none=>K h
def mo(id:Nat)(h:Nat->HO)(K:(Nat->HO)->Prop):Prop:=
 match M0 cx.pl.ak (800000+id)with
 |some v=>mp h (v % 10000) (v / 10000 % 100) K
 |none=>K h
def k8(id:Nat)(h:Nat->HO)(K:(Nat->HO)->Prop):Prop:=
 match M0 cx.pl.ak (810000+id)with
 |some v=>mp h (v % 10000) (v / 10000 % 100) K
 |none=>K h
def iX(id:Nat)(h:Nat->HO)(K:(Nat->HO)->Prop):Prop:=
 match M0 cx.pl.ak (900000+id)with
 |some v=>pq h (v % 10000) (v / 10000 % 100) (v / 1000000 % 10000) (v / 10000000000) K
 |none=>K h
def oy(h:Nat->HO)(r:Nat)(K:(Nat->HO)->Prop):Prop:=
 match h r with
 |.hol sz es i c (.msl j m)=>match Nat.beq r j with
  |true=>False
  |false=>match h j with
   |.arr VH qs=>m=qs.length/\∃cs,es[i]?=some cs/\c<sz/\K (AH (AH (AH h j (.tok VH qs.length)) j .dead) r (.arr sz (es.set i (over cs c [.slice .none qs]))))
   |_=>False
 |_=>False
def hJ(id:Nat)(h:Nat->HO)(K:(Nat->HO)->Prop):Prop:=
 match M0 cx.pl.ak (500000+id)with
 |some v=>pm h (v % 10000) (v / 10000 % 100) (v / 1000000) K
 |none=>match M0 cx.pl.ak (600000+id)with
  |some v=>ph h (v % 10000) (v / 10000 % 100) (v / 1000000) K
  |none=>match M0 cx.pl.ak (700000+id)with
   |some v=>oX h v K
   |none=>match M0 cx.pl.ak (950000+id)with
    |some v=>oy h v K
    |none=>nE cx id h fun h=>mo cx id h fun h=>k8 cx id h fun h=>iX cx id h K
def my(st:St)(s k:Nat)(K:St->Prop):Prop:=
 match st.t s with
 |.msl r n=>match st.h r with
  |.arr sz es=>match k with
   |0=>n=es.length/\K ⟨Gz st.t s (.slice .none es),AH (AH st.h r (.tok sz es.length)) r .dead⟩
   |k+1=>match Nat.beq r (k+1)with
    |true=>K st
    |false=>match st.h (k+1)with
     |.free=>n=es.length/\K ⟨Gz st.t s (.msl (k+1) n),AH (AH st.h r .dead) (k+1) (.arr sz es)⟩
     |_=>False
  |_=>K st
 |_=>K st
def jE(id:Nat)(st:St)(K:St->Prop):Prop:=
 match Gw cx.pl.cut id with
 |true=>match M0 cx.pl.ak (100000+id)with
  |none=>match M0 cx.pl.ak (200000+id)with
   |none=>match M0 cx.pl.ak (300000+id)with
    |none=>hJ cx id st.h fun h'=>∃s:LS,St.le cx ⟨st.t,h'⟩ s/\K s.st
    |some v=>mw st.h (v % 10000) (v / 10000 % 100) (v / 1000000) fun h'=>∃s:LS,St.le cx ⟨st.t,h'⟩ s/\K s.st
   |some v=>my st (v % 1000) (v / 1000) fun Eb=>∃s:LS,St.le cx Eb s/\K s.st
  |some v=>mz st.h (v % 1000) (v / 1000) fun h'=>∃s:LS,St.le cx ⟨st.t,h'⟩ s/\K s.st
 |false=>K st
def RH(cx:Cx)(c:Code)(Q:Ex->St->Prop)(st:St):Prop:=
 match c with
 |.skip=>Q .normal st
 |.label _=>Q .normal st
 |.region id ops dr=>jE cx id st fun st=>match cx.pl.dyn with
  | []=>Jn cx ops dr st (Q .normal)
  |_=>∃n,Jn { cx with nid:=n } ops dr st (Q .normal)
 |.seq a b=>RH cx a (fun e Eb=>match e with |.normal=>RH cx b Q Eb |e=>Q e Eb) st
 |.cond c a b=>match ev st.t c with
  |.v (.bool true)=>RH cx a Q st
  |.v (.bool false)=>RH cx b Q st
  |_=>False
 |.block id c=>RH cx c (fun e Eb=>match e with |.exit j=>(bif Nat.beq j id then Q .normal Eb else Q (.exit j) Eb) |e=>Q e Eb) st
 |.loop c=>∃(α:Type) (I:α->LS) (μ:α->Nat),(∃x,St.le cx st (I x)) /\
   ∀x,RH cx c (fun e Eb=>match e with | .normal=>∃y,μ y<μ x/\St.le cx Eb (I y) | e=>Q e Eb) (I x).st
 |.exit id=>Q (.exit id) st
 |.ret=>Q .ret st
 |_=>False
def NH:List AV->Nat->AV
 | [],_=>.v undef
 |a::r,n=>match n with |0=>a |n+1=>NH r n
def cT(T:EU)(st:St):List ResultVar->(List AV->Prop)->Prop
 | [],K=>K []
 |.tmp i::r,K=>cT T st r fun l=>K (str st.h (st.t i)::l)
 |.cell a t::r,K=>F4 T st.h t (st.t a) fun v=>cT T st r fun l=>K (str st.h v::l)
def cR(st:St)(rs:List ResultVar)(K:AV->Prop):Prop:=
 cT cx.T ⟨st.t,MN st.h cx.pl.fin⟩ rs fun
  | [v]=>K v
  |vs=>K (.tup vs)
def fE(rs:List ResultVar)(K:AV->Prop)(e:Ex)(st:St):Prop:=
 match e with
 |.normal=>cR cx st rs K
 |.ret=>cR cx st rs K
 |.exit _=>False
def cV(T:EU)(st:St):List ResultVar->(List AV->Prop)->Prop
 | [],K=>K []
 |.tmp i::r,K=>cV T st r fun l=>K (st.t i::l)
 |.cell a t::r,K=>F4 T st.h t (st.t a) fun v=>cV T st r fun l=>K (v::l)
def gU(st:St)(rs:List ResultVar)(σ:Ren)(Q:AV->(Nat->HO)->Prop):Prop:=
 cV cx.T ⟨st.t,MN st.h cx.pl.fin⟩ rs fun
  | [v]=>Q (ren (B5 σ) (MN st.h cx.pl.fin) v) (EV σ (MN st.h cx.pl.fin))
  |vs=>Q (ren (B5 σ) (MN st.h cx.pl.fin) (.tup vs)) (EV σ (MN st.h cx.pl.fin))
def fD(rs:List ResultVar)(σ:Ren)(Q:AV->(Nat->HO)->Prop)(e:Ex)(st:St):Prop:=
 match e with
 |.normal=>gU cx st rs σ Q
 |.ret=>gU cx st rs σ Q
 |.exit _=>False
def NL(σ:Ren):List (Nat×HO)->Bool
 | []=>true
 |(i,_)::r=>Nat.ble 1000 i&&Nat.blt i 2000&&(match B5 σ i with |some j=>Nat.beq j i |none=>false)&&NL σ r
theorem yN{n m:Nat}{b:Prop}(k:b)(h:n <= m := by exact DQ rfl):n <= m /\ b := ⟨h,k⟩
abbrev nzA:AV := .v (.slice none 0 0)
abbrev pC(a c:List Nat):VN := ⟨a,[],[],[],[],[],[],[],[],[],c⟩
abbrev pT(a:List Nat)(b:List (Nat×Nat))(c:List Nat):VN := ⟨a,b,[],[],[],[],[],[],[],[],c⟩
end Go.Eng
