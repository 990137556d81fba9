/- Lemmas 4. -/
import Derived.Test.YtkjhcikodmiceaaGreatDoorVA00
import Derived.WalkKit
import Derived.Still
import Derived.RangeFuncSeq
import Derived.OrdersIn
import Derived.TacticsIn
namespace Go.Eng
variable {vs:Array Value}{E:TypeId}(op:BinOp)(f:Nat->Option Nat)(o:Oper)
theorem aa2{p:Prop}(h:p:=by kernel_rfl):p:=h
abbrev CS:=ByteArray
theorem A0a{A:Type}{x:Option A}{a b:A}(h:x=some a)(k:a=b:=by kernel_rfl):x=some b:=h.trans (congrArg some k)
inductive Tk | none | full (sz:Nat) | id (r sz:Nat) | ver (r sz v:Nat)
inductive KS | int (k:IntKind) | str | bool
structure ES where
 agg:Bool
 l:List KS
variable (sh:ES)
inductive AV
 |v (x:Value)
 |slice (tk:Tk) (es:List (List AV))
 |msl (r n:Nat)
 |agg (cs:List AV)
 |tup (vs:List AV)
 |cptr (cs:List AV)
 |ref (r off:Nat)
 |eref (r n sz i off:Nat)
 |mref (r:Nat)
 |cmap (sh:ES) (BY:List (Value×AV))
 |clo (f:Nat) (caps:List AV)
 |junk
abbrev C0:=List (List AV)
variable (x:AV)(K:AV->Prop)
inductive HO
 |free
 |dead
 |cells (cs:List AV)
 |ro (cs:List AV)
 |tok (sz n:Nat)
 |var (sz v n:Nat)
 |vox (v:Nat)
 |arr (sz:Nat) (es:C0)
 |map (sh:ES) (BY:List (Value×AV))
 |mapU (sh:ES) (BY:List (Value×AV))
 |rom (sh:ES) (BY:List (Value×AV))
 |iter (all rem:List (Value×AV)) (Ef:Option (Value×AV))
 |raw (b:Nat) (ob:Obj)
 |hol (sz:Nat) (es:C0) (i c:Nat) (a:AV)
 |bld (x:AV)
 |bbf (n:Nat)
structure St where
 t:Nat->AV
 h:Nat->HO
def Af:Nat->HO:=fun _=>.free
def AK(h:Nat->HO)(r:Nat)(o:HO):Nat->HO:=fun i=>bif Nat.beq i r then o else h i
def JY(t:Nat->AV)(d:Nat)(v:AV):Nat->AV:=fun i=>bif Nat.beq i d then v else t i
def St.put(st:St)(d:Option Nat)(v:AV)(h:Nat->HO):St:=
 match d with
 |none=>⟨st.t,h⟩
 |some d=>⟨JY st.t d v,h⟩
def ev(t:Nat->AV):Operand->AV
 |.tmp i=>t i
 |.const v=>.v v
 |.global g=>.v (.pointer (some ⟨g,0,none⟩))
 |.func f=>.v (.func (.func f) #[] #[])
inductive TD
 |int (k:IntKind) |bool |string |slice (e:Nat) |array (n e:Nat) |struct (fs:List (Nat×Nat)) |ptr (e:Nat) |map (k e:Nat) |func |iface |other
structure TI where
 d:TD
 size:Nat
 bytes:Nat
 zero:Value
 eqok:Bool
def TI.zc(i:TI):List Value:=match i.zero with | .agg cs=>cs.toList | v=>[v]
abbrev GW:=Nat->TI
structure M5 where
 frz:List Nat
 tok:List (Nat×Nat)
 arr:List (Nat×Nat)
 fz:List (Nat×List Nat)
 fin:List Nat
 mku:List Nat
 dyn:List Nat
 tz:List (Nat×(Nat×Nat×Nat×Nat))
 dc:List (Nat×Nat)
 ak:List (Nat×Nat)
 cut:List Nat
def I1(l:List Nat)(n:Nat):Bool:=
 match l with
 | []=>false
 |x::r=>bif Nat.beq x n then true else I1 r n
def G7(l:List (Nat×Nat))(n:Nat):Option Nat:=
 match l with
 | []=>none
 |(x,y)::r=>bif Nat.beq x n then some y else G7 r n
def str0(h:Nat->HO):AV->AV
 |.slice _ es=>.slice .none es
 |.ref r off=>match h r with |.ro cs=>.cptr (cs.drop off) |_=>.junk
 |.mref r=>match h r with |.rom sh BY=>.cmap sh BY |_=>.junk
 |.v x=>.v x
 |.cptr cs=>.cptr cs
 |.cmap s m=>.cmap s m
 |_=>.junk
def str(h:Nat->HO):AV->AV
 |.agg cs=>.agg (cs.map (str0 h))
 |.clo f cs=>.clo f (cs.map (str0 h))
 |a=>str0 h a
def SC(h:Nat->HO)(BY:List (Value×AV)):List (Value×AV):=BY.map fun p=>(p.1,str h p.2)
def lG(h:Nat->HO)(r:Nat):Nat->HO:=
 match h r with
 |.cells cs=>AK h r (.ro (cs.map (str h)))
 |.map sh BY=>AK h r (.rom sh BY)
 |.mapU sh BY=>AK h r (.rom sh (SC h BY))
 |_=>h
def PF(h:Nat->HO):List Nat->Nat->HO
 | []=>h
 |r::l=>PF (lG h r) l
def tj(l:List (Nat×List Nat))(n:Nat):List Nat:=
 match l with
 | []=>[]
 |(x,y)::r=>bif Nat.beq x n then y else tj r n
def wQ(l:List (Nat×(Nat×Nat×Nat×Nat)))(n:Nat):Option (Nat×Nat×Nat×Nat):=
 match l with
 | []=>none
 |(x,y)::r=>bif Nat.beq x n then some y else wQ r n
def JR(l:List AV)(n:Nat):AV:=
 match l with
 | []=>.junk
 |x::r=>match n with |0=>x |n+1=>JR r n
def EW(cs:List AV)(o:Nat)(v:AV):List AV:=
 match cs with
 | []=>[]
 |c::cs=>match o with |0=>v::cs |o+1=>c::EW cs o v
def tz1(h:Nat->HO)(r k j sz:Nat):Nat->HO:=
 match h r with
 |.cells cs=>match JR cs k with
  |.v (.slice none 0 0)=>match h j with
   |.free=>AK (AK h j (.tok sz 0)) r (.cells (EW cs k (.slice (.id j sz) [])))
   |_=>h
  |_=>h
 |_=>h
def rsv(h:Nat->HO):AV->AV
 |.ref r off=>match h r with |.ro cs=>.cptr (cs.drop off) |_=>.ref r off
 |.mref r=>match h r with |.rom sh BY=>.cmap sh BY |_=>.mref r
 |a=>a
def one:AV->Bool
 |.v x=>x.oneCell'
 |.agg _ |.tup _ |.junk=>false
 |_=>true
def G6:List AV->Bool
 | []=>true
 |a::r=>match one a with |true=>G6 r |false=>false
def Aaa:AV->List AV
 |.agg cs=>cs
 |a=>[a]
def Au(a:Int):Prop:=-9223372036854775808<=a/\a<9223372036854775808
def MC(cs:List AV)(K:AV->Prop):Prop:=
 match cs with
 |a::_=>K a
 | []=>False
def I8(p:Prop)(K:AV->Prop):Prop:=(p->K (.v (.bool true)))/\(¬p->K (.v (.bool false)))
def L3(T:GW)(t:Nat)(cs:List AV)(K:AV->Prop):Prop:=
 match(T t).d with
 |.struct _=>(T t).size<=cs.length/\K (.agg (cs.take (T t).size))
 |.array _ _=>(T t).size<=cs.length/\K (.agg (cs.take (T t).size))
 |.bool=>MC cs fun |.v (.bool b)=>(b=true->K (.v (.bool true)))/\(b=false->K (.v (.bool false))) |_=>False
 |.other=>False
 |_=>MC cs K
def Zt:List AV->List AV->Prop
 | [],[]=>True
 |.v (.int _ a)::r,.v (.int _ b)::s=>a=b/\Zt r s
 |.v (.string a)::r,.v (.string b)::s=>a=b/\Zt r s
 |.v (.bool a)::r,.v (.bool b)::s=>a=b/\Zt r s
 |_,_=>False
def wE:IntKind->IntKind->Bool
 |.i64,.i64 |.u8,.u8 |.u32,.u32 |.i32,.i32 |.u64,.u64 |.u16,.u16 |.i16,.i16 |.i8,.i8=>true
 |_,_=>false
def Oj(f:Nat->Option (List KS)):Nat->List (Nat×Nat)->Option (List KS)
 |_,[]=>some []
 |n,(t,o)::r=>match Nat.beq o n with
  |true=>match f t with
   |some a=>match Oj f (n+a.length) r with
    |some b=>some (a++b)
    |none=>none
   |none=>none
  |false=>none
def H4(T:GW):Nat->Nat->Option (List KS)
 |0,_=>none
 |n+1,t=>match(T t).d with
  |.int k=>match(T t).size with |1=>some [.int k] |_=>none
  |.string=>match(T t).size with |1=>some [.str] |_=>none
  |.bool=>match(T t).size with |1=>some [.bool] |_=>none
  |.struct fs=>match(T t).eqok with
   |true=>match Oj (H4 T n) 0 fs with
    |some l=>match Nat.beq l.length (T t).size with |true=>some l |false=>none
    |none=>none
   |false=>none
  |_=>none
def N0:KS->Value->Bool
 |.int k,.int k' _=>wE k k'
 |.str,.string _=>true
 |.bool,.bool _=>true
 |_,_=>false
def am:List KS->List AV->Bool
 | [],[]=>true
 |k::r,.v x::s=>match N0 k x with |true=>am r s |false=>false
 |_,_=>false
def wg(T:GW)(t:Nat)(x y:AV)(K:AV->Prop):Prop:=
 match(T t).d with
 |.bool=>match x,y with
  |.v (.bool a),.v (.bool b)=>K (.v (.bool (a == b)))
  |_,_=>False
 |.struct _=>match x,y with
  |.agg xs,.agg ys=>match H4 T 8 t with
   |some l=>match am l xs with
    |true=>match am l ys with
     |true=>I8 (Zt xs ys) K
     |false=>False
    |false=>False
   |none=>False
  |_,_=>False
 |.slice _=>match x,y with
  |.slice _ es,.v (.slice none 0 0)=>(es≠[]->K (.v (.bool false)))/\(es=[]->K (.v (.bool true))/\K (.v (.bool false)))
  |.v (.slice none 0 0),.v (.slice none 0 0)=>K (.v (.bool true))
  |_,_=>False
 |.ptr _=>match x,y with
  |.v (.pointer none),.v (.pointer none)=>K (.v (.bool true))
  |.cptr _,.v (.pointer none)=>K (.v (.bool false))
  |.ref _ _,.v (.pointer none)=>K (.v (.bool false))
  |.eref _ _ _ _ _,.v (.pointer none)=>K (.v (.bool false))
  |_,_=>False
 |_=>False
def jp:AV->Prop
 |.v (.bool true)=>K (.v (.bool false))
 |.v (.bool false)=>K (.v (.bool true))
 |_=>False
def We(k:IntKind)(a b:Int):Int:=
 match op with
 |.and=>k.wrap (BitVec.ofInt k.bits a &&& BitVec.ofInt k.bits b).toNat
 |.or=>k.wrap (BitVec.ofInt k.bits a |||BitVec.ofInt k.bits b).toNat
 |_=>k.wrap (BitVec.ofInt k.bits a ^^^ BitVec.ofInt k.bits b).toNat
def rK(k:IntKind)(a b:Int):Int:=
 match op with
 |.shl=>k.wrap (a*2 ^ min b.toNat k.bits)
 |_=>a.fdiv (2 ^ min b.toNat k.bits)
def Vd(k:IntKind)(a b:Int)(K:AV->Prop):Prop:=
 match op with
 |.shl=>0<=b/\K (.v (.int k (rK .shl k a b)))
 |.shr=>0<=b/\K (.v (.int k (rK .shr k a b)))
 |_=>False
def Xw(k:IntKind)(a b:Int)(K:AV->Prop):Prop:=
 match op with
 |.quo=>(0<=a/\0<b/\k.wrap (a / b)=a / b)/\K (.v (.int k (a / b)))
 |.rem=>(0<=a/\0<b)/\K (.v (.int k (a % b)))
 |.and=>K (.v (.int k (We .and k a b)))
 |.or=>K (.v (.int k (We .or k a b)))
 |.xor=>K (.v (.int k (We .xor k a b)))
 |.add=>K (.v (.int k (k.wrap (a+b))))
 |.sub=>K (.v (.int k (k.wrap (a-b))))
 |.mul=>K (.v (.int k (k.wrap (a*b))))
 |op=>Vd op k a b K
def Tj(k:IntKind)(a b:Int)(K:AV->Prop):Prop:=
 match k with
 |.i64=>match op with
  |.add=>Au (a+b)/\K (.v (.int .i64 (a+b)))
  |.sub=>Au (a-b)/\K (.v (.int .i64 (a-b)))
  |.mul=>Au (a*b)/\K (.v (.int .i64 (a*b)))
  |.quo=>(0<=a/\0<b/\Au a)/\K (.v (.int .i64 (a / b)))
  |.rem=>(0<=a/\0<b)/\K (.v (.int .i64 (a % b)))
  |op=>Xw op .i64 a b K
 |k=>Xw op k a b K
def Tn(T:GW)(op:BinOp)(t:Nat)(x y:AV)(K:AV->Prop):Prop:=
 match x,y with
 |.v (.int k a),.v (.int k' b)=>match wE k k' with
  |false=>Vd op k a b K
  |true=>match op with
   |.eql=>I8 (a=b) K
   |.neq=>I8 (a≠b) K
   |.lss=>I8 (a<b) K
   |.leq=>I8 (a<=b) K
   |.gtr=>I8 (b<a) K
   |.geq=>I8 (b<=a) K
   |op=>Tj op k a b K
 |.v (.string a),.v (.string b)=>match op with
   |.eql=>I8 (a=b) K
   |.neq=>I8 (a≠b) K
   |.lss=>I8 (Op.bytesLess a.toList b.toList=true) K
   |.geq=>I8 (Op.bytesLess a.toList b.toList=false) K
   |.gtr=>I8 (Op.bytesLess b.toList a.toList=true) K
   |.leq=>I8 (Op.bytesLess b.toList a.toList=false) K
   |.add=>((a.size+b.size:Nat):Int)<=9223372036854775807/\K (.v (.string (a++b)))
   |_=>False
 |x,y=>match op with
  |.eql=>wg T t x y K
  |.neq=>wg T t x y (jp K)
  |_=>False
def YY(T:GW)(op:BinOp)(t:Nat)(Y:Operand)(x y:AV)(K:AV->Prop):Prop:=
 match Y with
 |.const .nilIface=>match x with
  |.v .nilIface=>match(T t).d with
   |.iface=>match op with
    |.eql=>K (.v (.bool true))
    |.neq=>K (.v (.bool false))
    |_=>False
   |_=>False
  |_=>False
 |_=>Tn T op t x y K
def Wp(T:GW)(s t:Nat)(x:AV)(K:AV->Prop):Prop:=
 match(T s).d,(T t).d,x with
 |.int _,.int .i64,.v (.int _ n)=>Au n/\K (.v (.int .i64 n))
 |.int _,.int k,.v (.int _ n)=>K (.v (.int k (k.wrap n)))
 |.string,.string,.v (.string s)=>K (.v (.string s))
 |.slice e,.string,.slice _ es=>match(T e).d with
  |.int .u8=>∃l:List UInt8,es=l.map (fun b=>[AV.v (.int .u8 b.toNat)])/\K (.v (.string ⟨l.toArray⟩))
  |_=>False
 |_,_,_=>False
def XR(fs:List (Nat×Nat))(n:Nat):Option (Nat×Nat):=
 match fs with
 | []=>none
 |x::r=>match n with |0=>some x |n+1=>XR r n
def TN(T:GW)(s f:Nat)(x:AV)(K:AV->Prop):Prop:=
 match(T s).d with
 |.struct fs=>match XR fs f with
  |some (t,o)=>match(T t).size with
   |0=>False
   |_+1=>match x with
    |.cptr cs=>K (.cptr (cs.drop o))
    |.ref r off=>K (.ref r (off+o))
    |.eref r n z i off=>K (.eref r n z i (off+o))
    |_=>False
  |none=>False
 |_=>False
def aU(T:GW)(t:Nat)(cs:List AV)(K:AV->Prop):Prop:=L3 T t cs K
def Pw(T:GW)(s f:Nat)(x:AV)(K:AV->Prop):Prop:=
 match(T s).d,x with
 |.struct fs,.agg cs=>match XR fs f with
  |some (t,o)=>aU T t (cs.drop o) K
  |none=>False
 |_,_=>False
def JM(T:GW)(t:Nat)(x ix:AV)(K:AV->Prop):Prop:=
 match(T t).d,ix with
 |.slice e,.v (.int .i64 i)=>match(T e).size with
  |0=>False
  |_+1=>match x with
   |.slice _ es=>∃cs,(0<=i/\es[i.toNat]?=some cs)/\cs.length=(T e).size/\K (.cptr cs)
   |.msl r n=>(0<=i/\i<n)/\K (.eref r n (T e).size i.toNat 0)
   |_=>False
 |.array n e,.v (.int .i64 i)=>match(T e).size with
  |0=>False
  |_+1=>match x with
   |.cptr cs=>(0<=i/\i<n)/\K (.cptr (cs.drop (i.toNat*(T e).size)))
   |.ref r off=>(0<=i/\i<n)/\K (.ref r (off+i.toNat*(T e).size))
   |_=>False
 |_,_=>False
def Un(T:GW)(t:Nat)(x ix:AV)(K:AV->Prop):Prop:=
 match(T t).d,x,ix with
 |.string,.v (.string s),.v (.int _ i)=>∃b:UInt8,(0<=i/\s.data[i.toNat]?=some b)/\K (.v (.int .u8 b.toNat))
 |.array n e,.agg cs,.v (.int .i64 i)=>(0<=i/\i<n)/\aU T e (cs.drop (i.toNat*(T e).size)) K
 |_,_,_=>False
def CN(t:Nat->AV):Option Operand->Option (Option Int)
 |none=>some none
 |some x=>match ev t x with |.v (.int .i64 i)=>some (some i) |_=>none
def over{α:Type}(cs:List α)(o:Nat)(vs:List α):List α:=
 match cs with
 | []=>[]
 |c::cs=>match o with
  |o+1=>c::over cs o vs
  |0=>match vs with
   | []=>c::cs
   |v::vs=>v::over cs 0 vs
structure Gh where
 ρ:Nat->Value
 ln:Nat->Nat
 tk:Nat->Bool
 own:Nat->Option Nat
 S:Nat->Nat->Prop
def J3:List KS->List Value->Bool
 | [],[]=>true
 |k::r,v::s=>match N0 k v with |true=>J3 r s |false=>false
 |_,_=>false
def Yu(v:Value):Bool:=
 match sh.agg,v with
 |true,.agg cs=>J3 sh.l cs.toList
 |false,v=>J3 sh.l [v]
 |_,_=>false
def HB(es:Array MapEntry)(ck:Nat)(BY:List (Value×AV)):Prop:=
 es.size=BY.length/\(∀(i:Nat) (kv:Value×AV) (e:MapEntry),BY[i]?=some kv->es[i]?=some e->e.key=kv.1) /\
 (∀kv∈BY,Yu sh kv.1=true)/\(BY.map (·.1)).Nodup/\(∀(i:Nat) (e:MapEntry),es[i]?=some e->e.born<ck) /\
 ∀(i j:Nat) (e e' : MapEntry),es[i]?=some e->es[j]?=some e'->e.born=e'.born->i=j
inductive Bc(g:Gh)(w:World):(Nat->Prop)->AV->Value->Prop
 |v (U:Nat->Prop) (x:Value):Bc g w U (.v x) x
 |junk (U:Nat->Prop) (x:Value):Bc g w U .junk x
 |snil (U:Nat->Prop) (a:Option Addr) (cap:Nat):Bc g w U (.slice .none []) (.slice a 0 cap)
 |slice (U:Nat->Prop) (es:C0) (b off sz cap:Nat) (val:Nat->Nat->Value) (hc:es.length<=cap)
   (hl:∀(i:Nat) (cs:List AV),es[i]?=some cs->cs.length=sz)
   (DK:∀(i:Nat) (cs:List AV) (j:Nat) (av:AV),es[i]?=some cs->cs[j]?=some av ->
    g.S b (off+i*sz+j)/\w.cell? ⟨b,off+i*sz+j,none⟩=some (val i j)/\(val i j).oneCell'=true)
   (El:∀(i:Nat) (cs:List AV) (j:Nat) (av:AV),es[i]?=some cs->cs[j]?=some av->Bc g w (fun _=>False) av (val i j)) :
   Bc g w U (.slice .none es) (.slice (some ⟨b,off,none⟩) es.length cap)
 |tok (U:Nat->Prop) (r sz:Nat) (es:C0) (x:Value) (h:Bc g w U (.slice .none es) x) (hl:∀c∈es,c.length=sz) (hu:U r) (ht:g.tk r=true) (hn:es.length<=g.ln r)
   (hx:es.length=g.ln r->x=g.ρ r):Bc g w U (.slice (.id r sz) es) x
 |ver (U:Nat->Prop) (r sz v:Nat) (es:C0) (x:Value) (h:Bc g w U (.slice .none es) x) (hl:∀c∈es,c.length=sz) (hu:U r) (ht:g.tk r=true) (hn:v<=g.ln r)
   (hx:v=g.ln r->x=g.ρ r):Bc g w U (.slice (.ver r sz v) es) x
 |full (U:Nat->Prop) (sz:Nat) (es:C0) (x:Value) (h:Bc g w U (.slice .none es) x) (hl:∀c∈es,c.length=sz) (hx:∃a,x=.slice a es.length es.length):Bc g w U (.slice (.full sz) es) x
 |msl (U:Nat->Prop) (r n:Nat) (a:Option Addr) (cap:Nat) (hu:U r) (ht:g.tk r=true) (hn:n<=g.ln r) (ha:n=0\/∃b,a=some ⟨b,0,none⟩) (hx:n=g.ln r->.slice a n cap=g.ρ r) :
   Bc g w U (.msl r n) (.slice a n cap)
 |agg (U:Nat->Prop) (cs:List AV) (vs:Array Value) (hs:vs.size=cs.length) (h1:∀(i:Nat) (x:Value),vs[i]?=some x->x.oneCell'=true)
   (h:∀(i:Nat) (av:AV) (x:Value),cs[i]?=some av->vs[i]?=some x->Bc g w U av x):Bc g w U (.agg cs) (.agg vs)
 |tup (U:Nat->Prop) (cs:List AV) (vs:Array Value) (hs:vs.size=cs.length)
   (h:∀(i:Nat) (av:AV) (x:Value),cs[i]?=some av->vs[i]?=some x->Bc g w U av x):Bc g w U (.tup cs) (.tuple vs)
 |cptr (U:Nat->Prop) (cs:List AV) (b off:Nat) (val:Nat->Value)
   (DK:∀(j:Nat) (av:AV),cs[j]?=some av->g.S b (off+j)/\w.cell? ⟨b,off+j,none⟩=some (val j)/\(val j).oneCell'=true)
   (El:∀(j:Nat) (av:AV),cs[j]?=some av->Bc g w (fun _=>False) av (val j)) :
   Bc g w U (.cptr cs) (.pointer (some ⟨b,off,none⟩))
 |ref (U:Nat->Prop) (r off b:Nat) (hu:U r) (ht:g.tk r=false) (hx:g.ρ r=.pointer (some ⟨b,0,none⟩)):Bc g w U (.ref r off) (.pointer (some ⟨b,off,none⟩))
 |eref (U:Nat->Prop) (r n sz i off b cap:Nat) (hu:U r) (ht:g.tk r=true) (hn:i<n/\n<=g.ln r) (hx:n=g.ln r->g.ρ r=.slice (some ⟨b,0,none⟩) n cap) :
   Bc g w U (.eref r n sz i off) (.pointer (some ⟨b,i*sz+off,none⟩))
 |mref (U:Nat->Prop) (r b:Nat) (hu:U r) (ht:g.tk r=false) (hx:g.ρ r=.map (some b)):Bc g w U (.mref r) (.map (some b))
 |cmap (U:Nat->Prop) (sh:ES) (BY:List (Value×AV)) (b:Nat) (es:Array MapEntry) (ck:Nat) (hS:g.S b 0) (hb:w.heap[b]?=some (.map es ck)) (hm:HB sh es ck BY)
   (h:∀(i:Nat) (kv:Value×AV) (e:MapEntry),BY[i]?=some kv->es[i]?=some e->Bc g w (fun _=>False) kv.2 e.val):Bc g w U (.cmap sh BY) (.map (some b))
 |clo (U:Nat->Prop) (f:Nat) (cs:List AV) (vs:Array Value) (hs:vs.size=cs.length)
   (h:∀(i:Nat) (av:AV) (x:Value),cs[i]?=some av->vs[i]?=some x->Bc g w U av x):Bc g w U (.clo f cs) (.func (.func f) #[] vs)
def HO.live:HO->Prop
 |.free |.dead |.vox _ |.ro _ |.rom _ _=>False
 |_=>True
def AC(h:Nat->HO)(r:Nat):Prop:=h r≠.free
def FN:Nat->Prop:=fun _=>False
def Cg(g:Gh)(w:World)(U:Nat->Prop)(cs:List AV)(vs:List Value):Prop:=
 vs.length=cs.length/\(∀x∈vs,x.oneCell'=true)/\∀(i:Nat) (av:AV) (x:Value),cs[i]?=some av->vs[i]?=some x->Bc g w U av x
def Pf:List Nat->Code->Bool
 |bs,.block id c=>Pf (id::bs) c
 |bs,.seq a b=>Pf bs a||Pf bs b
 |bs,.cond _ a b=>Pf bs a||Pf bs b
 |bs,.loop c=>Pf bs c
 |bs,.exit id=>!(bs.any fun i=>Nat.beq i id)
 |_,_=>false
def wU:Obj->Bool
 |.loop r=>Pf [] r.body
 |_=>false
def RD(w:World)(b:Nat)(vs:Array Value)(E:TypeId):Prop:=∃f:Nat×Nat,w.heap[b]?=some (.cells vs E f)/\(f=(0,0)\/vs.size<=f.1)
theorem RD.eq{w w' : World}{b:Nat}(h:RD w b vs E)(e:w'.heap[b]?=w.heap[b]?):RD w' b vs E:=by
 obtain⟨f,h1,h2⟩:=h;exact⟨f,e.trans h1,h2⟩
theorem RD.of{w:World}{b:Nat}(h:w.heap[b]?=some (.cells vs E (0,0))):RD w b vs E:=⟨_,h,.inl rfl⟩
def YZ:Nat:=104
def u8T:Nat:=5
def DV(g:Gh)(w:World)(U:Nat->Prop)(r:Nat):HO->Prop
  |.free |.dead=>True
  |.cells cs=>g.tk r=false/\∃b E vs,g.own r=some b/\g.ρ r=.pointer (some ⟨b,0,none⟩)/\w.heap[b]?=some (.cells vs E (0,0))/\Cg g w U cs vs.toList/\∀o,¬g.S b o
  |.ro cs=>g.tk r=false/\∃b,g.ρ r=.pointer (some ⟨b,0,none⟩)/\Bc g w FN (.cptr cs) (.pointer (some ⟨b,0,none⟩))
  |.tok sz n=>g.tk r=true/\g.ln r=n/\∃a cap,g.ρ r=.slice a n cap/\(n=cap/\g.own r=none \/
      n<=cap/\∃b E vs off,a=some ⟨b,off,none⟩/\g.own r=some b/\RD w b vs E/\vs.size=off+cap*sz/\∀o,g.S b o->o<off+n*sz)
  |.var sz v n=>g.tk r=true/\g.ln r=v/\∃a cap,g.ρ r=.slice a n cap/\(n=cap/\g.own r=none \/
      n<=cap/\∃b E vs off,a=some ⟨b,off,none⟩/\g.own r=some b/\RD w b vs E/\vs.size=off+cap*sz/\∀o,g.S b o->o<off+n*sz)
  |.vox v=>g.tk r=true/\g.ln r=v
  |.arr sz es=>g.tk r=true/\g.ln r=es.length/\(∀cs∈es,cs.length=sz)/\(es=[]/\g.ρ r=.slice none 0 0/\g.own r=none \/
      ∃b cap E vs,g.ρ r=.slice (some ⟨b,0,none⟩) es.length cap/\g.own r=some b/\es.length<=cap/\w.heap[b]?=some (.cells vs E (0,0))/\vs.size=cap*sz /\
        Cg g w FN es.flatten (vs.toList.take (es.length*sz))/\∀o,¬g.S b o)
  |.map sh BY=>g.tk r=false/\∃b es ck,g.own r=some b/\g.ρ r=.map (some b)/\w.heap[b]?=some (.map es ck)/\HB sh es ck BY /\
      (∀(i:Nat) (kv:Value×AV) (e:MapEntry),BY[i]?=some kv->es[i]?=some e->Bc g w FN kv.2 e.val)/\∀o,¬g.S b o
  |.mapU sh BY=>g.tk r=false/\∃b es ck,g.own r=some b/\g.ρ r=.map (some b)/\w.heap[b]?=some (.map es ck)/\HB sh es ck BY /\
      (∀(i:Nat) (kv:Value×AV) (e:MapEntry),BY[i]?=some kv->es[i]?=some e->Bc g w U kv.2 e.val)/\∀o,¬g.S b o
  |.rom sh BY=>g.tk r=false/\∃b,g.ρ r=.map (some b)/\Bc g w FN (.cmap sh BY) (.map (some b))
  |.iter all rem Ef=>g.tk r=false/\∃b mb Kl seen st es ck,g.own r=some b/\g.ρ r=.pointer (some ⟨b,0,none⟩)/\w.heap[b]?=some (.mapIter (some mb) Kl seen st) /\
      g.S mb 0/\w.heap[mb]?=some (.map es ck)/\(∃sh,HB sh es ck all)/\Kl=ck/\st=ck /\
      (∀(i:Nat) (kv:Value×AV) (e:MapEntry),all[i]?=some kv->es[i]?=some e->Bc g w FN kv.2 e.val) /\
      (rem.Nodup/\∀kv∈rem,kv∈all)/\(∀(i:Nat) (kv:Value×AV) (e:MapEntry),all[i]?=some kv->es[i]?=some e->(kv∈rem↔e.born∉seen)) /\
      (match Ef with | none=>True | some kv=>∃(i:Nat) (e:MapEntry),all[i]?=some kv/\es[i]?=some e/\seen.back?=some e.born)/\∀o,¬g.S b o
  |.hol sz es i c a=>g.tk r=true/\g.ln r=es.length/\(∀cs∈es,cs.length=sz)/\∃b cap E vs,g.ρ r=.slice (some ⟨b,0,none⟩) es.length cap/\g.own r=some b/\es.length<=cap/\w.heap[b]?=some (.cells vs E (0,0))/\vs.size=cap*sz /\
        Cg g w FN es.flatten (vs.toList.take (es.length*sz))/\(∀o,¬g.S b o)/\i*sz+c<es.length*sz/\∃x,vs[i*sz+c]?=some x/\Bc g w U a x
  |.raw b ob=>g.tk r=false/\g.own r=some b/\w.heap[b]?=some ob/\wU ob=true/\∀o,¬g.S b o
  |.bld x=>g.tk r=false/\∃b p v,g.own r=some b/\g.ρ r=.pointer (some ⟨b,0,none⟩)/\w.heap[b]?=some (.cells #[p,v] YZ (0,0))/\(p=.pointer none\/p=.pointer (some ⟨b,0,none⟩))/\Bc g w U x v/\∀o,¬g.S b o
  |.bbf n=>g.tk r=true/\g.ln r=n/\(n=0/\g.ρ r=.slice none 0 0/\g.own r=none\/∃b cap Ef,g.ρ r=.slice (some ⟨b,0,none⟩) n cap/\g.own r=some b/\(0<n/\n<=cap)/\cap<=maxLen/\w.heap[b]?=some (.cells Ef u8T (0,0))/\Ef.size=cap/\∀o,g.S b o->o<n)
def gB:Nat:=0
def xH:List (Nat×Nat×Option Value):=[]
def Xn(g:Gh)(w:World):Prop:=(g.S gB 0/\∃m,w.cell? ⟨gB,0,none⟩=some (.int .i64 m))/\∀x∈xH,g.S x.1 x.2.1/\w.cell? ⟨x.1,x.2.1,none⟩=x.2.2
structure CT(w0:World)(g0:Gh)(h0:Nat->HO)(h:Nat->HO)(g:Gh)(w:World):Prop where
 os:w.os=w0.os
 tape:w.tape=w0.tape
 output:w.output=w0.output
 size:w0.heap.size<=w.heap.size
 frame:∀b,b<w0.heap.size->(∀r,(h0 r).live->g0.own r≠some b)->w.heap[b]?=w0.heap[b]?
 slt:∀b o,g.S b o->b<w.heap.size
 objs:∀r,DV g w (AC h) r (h r)
 inj:∀r r' b,(h r).live->(h r').live->g.own r=some b->g.own r'=some b->r=r'
 loc:∀r b,(h r).live->g.own r=some b->b<w.heap.size/\(w0.heap.size<=b\/∃r',(h0 r').live/\g0.own r'=some b)
 sg:∀b o,g.S b o->g0.S b o\/w0.heap.size<=b\/∃r',(h0 r').live/\g0.own r'=some b
 glob:Xn g w
def Fa(g:Gh)(w:World)(g' : Gh)(w' : World):Prop:=
 ∀b o,g.S b o->g'.S b o/\w'.cell? ⟨b,o,none⟩=w.cell? ⟨b,o,none⟩/\∀es ck,w.heap[b]?=some (.map es ck)->w'.heap[b]?=some (.map es ck)
def Kn(g g' : Gh)(U:Nat->Prop):Prop:=
 ∀i,U i->g'.tk i=g.tk i/\g.ln i<=g'.ln i/\(g.tk i=false->g'.ρ i=g.ρ i)/\(g'.ln i=g.ln i->g'.ρ i=g.ρ i)
structure Le(h:Nat->HO)(g:Gh)(w:World)(h' : Nat->HO)(g' : Gh)(w' : World):Prop where
 gh:Kn g g' (AC h)
 us:∀i,AC h i->AC h' i
 keeps:Fa g w g' w'
def Gl (P : Program) (f : Nat) : Prop := ∃ fn, P.funcs[f]? = some fn /\ (fn.name == "runtime.NumGoroutine") = false /\ fn.body.isNone = false
def Bg(P:Program)(f:Nat)(args:List AV)(h0:Nat->HO)(Q:AV->(Nat->HO)->Prop):Prop:=
 Gl P f/\∀(g:Gh) (w:World) (vals:Array Value),vals.size=args.length->(∀(i:Nat) (av:AV) (x:Value),args[i]?=some av->vals[i]?=some x->Bc g w (AC h0) av x) ->
  CT w g h0 h0 g w ->
  Calls P f vals w fun e w'=>∃v r h' g',e=.returned v/\Q r h'/\Bc g' w' (AC h') r v/\CT w g h0 h' g' w'/\Le h0 g w h' g' w'
def Mk(P:Program)(f:Nat)(args:List AV)(res:AV):Prop:=Bg P f args Af fun r h'=>r=res/\h'=Af
def I6(P:Program)(Y:Gh->World->Prop)(l:Nat)(args:List AV)(h0:Nat->HO)(Q:AV->(Nat->HO)->Prop):Prop:=
 ∀(g:Gh) (w:World) (vals:Array Value),vals.size=args.length->(∀(i:Nat) (av:AV) (x:Value),args[i]?=some av->vals[i]?=some x->Bc g w (AC h0) av x) ->
  CT w g h0 h0 g w->Y g w ->
  YieldAt Fence.wide 0 P l vals w fun e w'=>∃v r h' g',e=.returned v/\Q r h'/\Bc g' w' (AC h') r v/\CT w g h0 h' g' w'/\Le h0 g w h' g' w'
def s7(P:Program)(Y:Gh->World->Prop)(f:Nat)(args:List AV)(h0:Nat->HO)(Q:AV->(Nat->HO)->Prop):Prop:=
 Gl P f/\∀(g:Gh) (w:World) (vals:Array Value),vals.size=args.length->(∀(i:Nat) (av:AV) (x:Value),args[i]?=some av->vals[i]?=some x->Bc g w (AC h0) av x) ->
  CT w g h0 h0 g w->Y g w ->
  Calls P f vals w fun e w'=>∃v r h' g',e=.returned v/\Q r h'/\Bc g' w' (AC h') r v/\CT w g h0 h' g' w'/\Le h0 g w h' g' w'
def Gk(P:Program)(Y:Nat->Gh->World->Prop)(F:AV)(args:List AV)(h:Nat->HO)(Q:AV->(Nat->HO)->Prop):Prop:=
 match F with
 |.v (.func (.func f) ⟨[]⟩ ⟨[]⟩)=>Bg P f args h Q
 |.clo f caps=>Bg P f (args++caps) h Q
 |.v (.func (.yield l) ⟨[]⟩ ⟨[]⟩)=>I6 P (Y l) l args h Q
 |_=>False
def Qz(P:Program)(F:AV)(args:List AV)(res:AV):Prop:=
 match F with
 |.v (.func (.func f) ⟨[]⟩ ⟨[]⟩)=>Mk P f args res
 |.clo f caps=>Mk P f (args++caps) res
 |_=>False
structure Cx where
 P:Program
 T:GW
 pl:M5
 ext:Bool
 nid:Nat
 yp:Nat->List (Nat×Nat)->Gh->World->Prop
variable (cx:Cx)
def Kq(d:Nat):Nat:=bif I1 cx.pl.dyn d then cx.nid else d
abbrev HK:=AV->(Nat->HO)->Prop
def Th(T:GW)(d:Option Nat)(h:Nat->HO)(e:Nat)(K:HK):Prop:=
 match d with
 |none=>False
 |some d=>match h d with
  |.free=>match(T e).d with
   |.other=>False
   |_=>match Nat.beq e YZ with
    |true=>match h 1001,Nat.beq d 1001,(T e).zc with
     |.free,false,[.pointer none,.slice none 0 0]=>K (.ref d 0) (AK (AK h 1001 (.bbf 0)) d (.bld (.slice (.id 1001 1) [])))
     |_,_,_=>False
    |false=>match G6 ((T e).zc.map .v)with
     |true=>K (.ref d 0) (AK h d (.cells ((T e).zc.map .v)))
     |false=>False
  |_=>False
def Hv(n:Nat)(a:AV)(K:List AV->Prop):Prop:=
 match a with
 |.agg cs=>match Nat.beq cs.length n with
  |true=>K cs
  |false=>False
 |a=>match one a with
  |true=>match n with
   |1=>K [a]
   |_=>False
  |false=>False
def gQ(d:Option Nat)(h:Nat->HO)(e:Nat)(x:AV)(K:HK):Prop:=
 match d with
 |none=>False
 |some d=>match h d with
  |.free=>match(cx.T e).d with
   |.other=>False
   |_=>Hv (cx.T e).size x fun cs=>match I1 cx.pl.frz d with
    |true=>K (.ref d 0) (AK h d (.ro (cs.map (str h))))
    |false=>K (.ref d 0) (AK h d (.cells cs))
  |_=>False
def OS(h:Nat->HO)(t:Nat)(p x:AV)(K:HK):Prop:=
 match(cx.T t).d with
 |.other=>False
 |_=>Hv (cx.T t).size x fun vs=>match p with
  |.ref r off=>match h r with
   |.cells cs=>off+vs.length<=cs.length/\(match I1 cx.pl.frz r with
    |true=>K (.v undef) (AK h r (.ro ((over cs off vs).map (str h))))
    |false=>K (.v undef) (AK h r (.cells (over cs off vs))))
   |_=>False
  |.eref r n sz i off=>match h r with
   |.arr HS es=>match Nat.beq sz HS with
    |true=>n=es.length/\∃cs,es[i]?=some cs/\off+vs.length<=sz/\(match vs with
     | [.msl j m]=>K (.v undef) (AK h r (.hol sz (es.set i (over cs off [.junk])) i off (.msl j m)))
     |_=>K (.v undef) (AK h r (.arr sz (es.set i (over cs off (vs.map (str h)))))))
    |false=>False
   |_=>False
  |_=>False
def JN(T:GW)(h:Nat->HO)(t:Nat)(p:AV)(K:AV->Prop):Prop:=
 match p with
 |.cptr cs=>L3 T t cs K
 |.ref r off=>match h r with
  |.cells cs=>L3 T t (cs.drop off) K
  |.ro cs=>L3 T t (cs.drop off) K
  |_=>False
 |.eref r n sz i off=>match h r with
  |.arr HS es=>match Nat.beq sz HS with
   |true=>n=es.length/\∃cs,es[i]?=some cs/\L3 T t (cs.drop off) K
   |false=>False
  |.hol HS es i' c a=>match Nat.beq sz HS with
   |true=>(n=es.length/\i=i'/\off=c)/\L3 T t [a] K
   |false=>False
  |_=>False
 |_=>False
def KJ(pl:Nat->Option (Nat×Nat))(cs:List AV)(t:Nat->AV)(ps:List (Nat×Operand))(K:List AV->Prop):Prop:=
 match ps with
 | []=>K cs
 |(i,x)::r=>match pl i with
  |none=>False
  |some (o,n)=>Hv n (ev t x) fun vs=>match Nat.ble (o+n) cs.length with
   |true=>KJ pl (over cs o vs) t r K
   |false=>False
def Pa(T:GW):List (Nat×Nat)->Bool
 | []=>true
 |(t,_)::r=>match(T t).size with |0=>false |_+1=>Pa T r
def QE(T:GW)(ty:Nat)(t:Nat->AV)(ps:List (Nat×Operand))(K:AV->Prop):Prop:=
 match G6 ((T ty).zc.map .v)with
 |false=>False
 |true=>match(T ty).d with
  |.struct fs=>match Pa T fs with
   |false=>False
   |true=>KJ (fun i=>match XR fs i with |some (t,o)=>some (o,(T t).size) |none=>none) ((T ty).zc.map .v) t ps fun cs=>K (.agg cs)
  |.array _ e=>match(T e).size with
   |0=>False
   |_+1=>KJ (fun i=>some (i*(T e).size,(T e).size)) ((T ty).zc.map .v) t ps fun cs=>K (.agg cs)
  |_=>False
def RN(n sz:Nat)(h:Nat->HO)(es:C0)(t:Nat->AV)(ps:List (Nat×Operand))(K:C0->Prop):Prop:=
 match ps with
 | []=>K es
 |(i,x)::r=>match Nat.blt i n with
  |true=>Hv sz (ev t x) fun vs=>RN n sz h (es.set i (vs.map (str h))) t r K
  |false=>False
abbrev K8(b:CS):C0:=b.data.toList.map fun c=>[AV.v (.int .u8 c.toNat)]
def cr(d:Option Nat)(h:Nat->HO)(s t:Nat)(x:AV)(K:HK):Prop:=
 match(cx.T s).d,(cx.T t).d,x with
 |.string,.slice e,.v (.string b)=>match(cx.T e).d,d with
  |.int .u8,some d=>match h (Kq cx d)with
   |.free=>K (.slice (.id (Kq cx d) 1) (K8 b)) (AK h (Kq cx d) (.tok 1 (K8 b).length))
   |_=>False
  |_,_=>False
 |_,_,_=>Wp cx.T s t x fun v=>K v h
def E8(d:Option Nat)(h:Nat->HO)(sz:Nat)(es:C0)(K:HK):Prop:=
 match d with
 |none=>False
 |some d=>match h (Kq cx d)with
  |.free=>match G7 cx.pl.arr d with
   |some _=>K (.msl (Kq cx d) es.length) (AK h (Kq cx d) (.arr sz es))
   |none=>K (.slice (.id (Kq cx d) sz) es) (AK h (Kq cx d) (.tok sz es.length))
  |_=>False
def II(d:Option Nat)(h:Nat->HO)(ty n:Nat)(t:Nat->AV)(ps:List (Nat×Operand))(K:HK):Prop:=
 match(cx.T ty).d with
 |.slice e=>match G6 ((cx.T e).zc.map .v),Nat.beq (cx.T e).zc.length (cx.T e).size with
  |true,true=>match(cx.T e).size with
   |0=>False
   |_+1=>match Nat.ble (n*(cx.T e).size) 16777216 with
    |true=>RN n (cx.T e).size h (List.replicate n ((cx.T e).zc.map .v)) t ps fun es=>E8 cx d h (cx.T e).size es K
    |false=>False
  |_,_=>False
 |_=>False
def KO(t:Nat->AV)(h:Nat->HO)(fn:Fn)(first captured:List Operand)(K:AV->Prop):Prop:=
 match fn,first with
 |.func f,[]=>K (.clo f (captured.map fun x=>rsv h (ev t x)))
 |_,_=>False
def Bh(sz:Nat):C0->Prop
 | []=>True
 |c::r=>c.length=sz/\Bh sz r
def Lh(h:Nat->HO)(x:AV)(K:C0->Prop):Prop:=
 match x with
 |.slice _ es=>K es
 |.v (.slice none 0 0)=>K []
 |.msl r n=>match h r with
  |.arr _ es=>n=es.length/\K es
  |_=>False
 |_=>False
def Ix(d:Option Nat)(h:Nat->HO)(ty:Nat)(s x:AV)(K:HK):Prop:=
 match(cx.T ty).d with
 |.slice e=>match Nat.beq (cx.T e).zc.length (cx.T e).size with
  |false=>False
  |true=>match(cx.T e).size with
   |0=>False
   |_+1=>Lh h x fun es2=>match s with
    |.v (.slice none 0 0)=>(Bh (cx.T e).size es2/\es2.length*(cx.T e).bytes<=140737488355328/\es2.length<=9223372036854775807)/\E8 cx d h (cx.T e).size es2 K
    |.slice (.full HS) es=>match Nat.beq HS (cx.T e).size with
     |true=>(Bh (cx.T e).size es2/\0<es2.length/\(es.length+es2.length)*(cx.T e).bytes<=140737488355328/\es.length+es2.length<=9223372036854775807)/\E8 cx d h (cx.T e).size (es++es2) K
     |false=>False
    |.slice (.id r HS) es=>match h r with
     |.tok sz n=>match Nat.beq sz (cx.T e).size,Nat.beq HS sz with
      |true,true=>(Bh sz es2/\es.length=n/\(es.length+es2.length)*(cx.T e).bytes<=140737488355328/\es.length+es2.length<=9223372036854775807) /\
        K (.slice (.id r sz) (es++es2)) (AK h r (.tok sz (es.length+es2.length)))
      |_,_=>False
     |_=>False
    |.msl r n=>match h r with
     |.arr sz es=>match Nat.beq sz (cx.T e).size with
      |true=>(Bh sz es2/\es.length=n/\(es.length+es2.length)*(cx.T e).bytes<=140737488355328/\es.length+es2.length<=9223372036854775807) /\
        K (.msl r (es.length+es2.length)) (AK h r (.arr sz (es++es2)))
      |false=>False
     |_=>False
    |_=>False
 |_=>False
abbrev Jj:=List (Nat×Nat)
variable (σ:Jj)
inductive wI | pure | rel | gen (σ:Jj) (nn:Nat) | geny (σ:Jj) (nn:Nat)
def Cq(σ:Jj)(n:Nat):Option Nat:=
 match σ with
 | []=>none
 |(i,j)::r=>bif Nat.beq i n then some j else Cq r n
def Ik(σ:Jj)(n:Nat):Option Nat:=
 match σ with
 | []=>none
 |(i,j)::r=>bif Nat.beq j n then some i else Ik r n
def Er:Jj->Bool
 | []=>true
 |(i,j)::r=>(match Cq r i,Ik r j with |none,none=>true |_,_=>false)&&Nat.ble 1000 j&&Nat.blt j 2000&&Er r
def Hc:Jj->Bool
 | []=>true
 |(i,j)::r=>(match Cq r i,Ik r j with |none,none=>true |_,_=>false)&&Hc r
def ren0(h:Nat->HO):AV->AV
 |.slice (.id r sz) es=>match f r with |some r'=>.slice (.id r' sz) es |none=>.slice .none es
 |.slice (.ver r sz v) es=>match f r with |some r'=>.slice (.ver r' sz v) es |none=>.slice .none es
 |.msl r n=>match f r with |some r'=>.msl r' n |none=>.junk
 |.ref r off=>match f r with |some r'=>.ref r' off |none=>str0 h (.ref r off)
 |.eref r n sz i off=>match f r with |some r'=>.eref r' n sz i off |none=>.junk
 |.mref r=>match f r with |some r'=>.mref r' |none=>str0 h (.mref r)
 |a=>str0 h a
def ren1(h:Nat->HO):AV->AV
 |.agg cs=>.agg (cs.map (ren0 f h))
 |.clo g cs=>.clo g (cs.map (ren0 f h))
 |a=>ren0 f h a
def ren(h:Nat->HO):AV->AV
 |.tup cs=>.tup (cs.map (ren1 f h))
 |a=>ren1 f h a
def HO.ren(h:Nat->HO):HO->HO
 |.cells cs=>.cells (cs.map (ren1 f h))
 |.mapU sh BY=>.mapU sh (BY.map fun p=>(p.1,ren1 f h p.2))
 |.hol sz es i c a=>.hol sz es i c (ren1 f h a)
 |.bld x=>.bld (ren1 f h x)
 |o=>o
def Ai(l:List (Nat×HO))(hb:Nat->HO)(i:Nat):HO:=match l with | []=>hb i | (j,v)::r=>bif Nat.beq i j then v else Ai r hb i
def Yo(f:Nat->Option Nat)(h:Nat->HO):Jj->List (Nat×HO)
 | []=>[]
 |(i,j)::r=>(j,(h i).ren f h)::Yo f h r
def FJ(h:Nat->HO):Nat->HO:=Ai (Yo (Cq σ) h σ) Af
def Bz(d k:Nat):Nat:=10000+100*d+k
def Fr(d nn:Nat)(j:Nat):Option Nat:=
 match Ik σ j with
 |some i=>some i
 |none=>match Nat.ble 2000 j&&Nat.blt j (2000+nn)with |true=>some (Bz d (j-2000)) |false=>none
def Eb(d nn:Nat)(h h' : Nat->HO):Nat->HO:=fun i=>
 match Cq σ i with
 |some j=>(h' j).ren (Fr σ d nn) h'
 |none=>match Nat.ble (Bz d 0) i&&Nat.blt i (Bz d nn)with |true=>(h' (2000+(i-Bz d 0))).ren (Fr σ d nn) h' |false=>h i
def D6(h:Nat->HO)(d:Nat):Nat->Bool
 |0=>true
 |k+1=>(match h (Bz d k)with |.free=>true |_=>false)&&D6 h d k
def Dc(σ:Jj)(d nn:Nat):Bool:=
 match σ with
 | []=>true
 |(i,_)::r=>!(Nat.ble (Bz d 0) i&&Nat.blt i (Bz d nn))&&Dc r d nn
def Tl(l:List (Nat×Nat))(d:Option Nat):Option Nat:=match d with | none=>none | some d=>G7 l d
def fL:AV->Bool | .tup _=>false | _=>true
def UJ:List AV->Bool
 | []=>true
 |a::r=>match fL a with |true=>UJ r |false=>false
def Xg:List AV->Option (List Value)
 | []=>some []
 |.v x::r=>match Xg r with |some l=>some (x::l) |none=>none
 |_=>none
def Sm(k:Nat)(d:Option Nat)(h:Nat->HO)(F:AV)(args:List AV)(K:HK):Prop:=
 match d,F,args with
 |some d,.v (.func (.func f) ⟨[]⟩ ⟨[]⟩),.msl r n::l=>match Xg l with
  |some vs=>match h r with
   |.arr sz es=>match k with
    |0=>∃n' FU,Bg cx.P f (.msl 1000 n::vs.map .v) (Ai [(1000,.arr sz es)] Af) (fun r' h'=>r'=.msl 1000 n'/\h'=Ai [(1000,.arr sz FU)] Af)/\K (.msl r n') (AK h r (.arr sz FU))
    |_+1=>∃n' FU,(D6 h d 1&&Nat.blt r 10000000&&!Nat.beq r (Bz d 0))=true/\Bg cx.P f (.msl 1000 n::vs.map .v) (Ai [(1000,.arr sz es)] Af) (fun r' h'=>r'=.msl 2000 n'/\h'=Ai [(1000,.dead),(2000,.arr sz FU)] Af) /\
      K (.msl (Bz d 0) n') (AK (AK h r .dead) (Bz d 0) (.arr sz FU))
   |_=>False
  |none=>False
 |_,_,_=>False
def Yx(d:Option Nat)(st:St)(F:AV)(args:List AV)(K:HK):Prop:=
 match d with
 |none=>False
 |some d=>∃sz es,(D6 st.h d 1&&fL F&&UJ args)=true/\Gk cx.P (fun l=>cx.yp l []) (str st.h F) (args.map (str st.h)) Af (fun r h'=>r=.slice (.id 2000 sz) es/\h'=Ai [(2000,.tok sz es.length)] Af) /\
   K (.slice (.id (Bz d 0) sz) es) (AK st.h (Bz d 0) (.tok sz es.length))
def Vq(d:Option Nat)(st:St)(F:AV)(args:List AV)(K:HK):Prop:=
  match d,F,Xg args with
  |some _,.v (.func (.yield l) ⟨[]⟩ ⟨[]⟩),some vs=>match st.h 1000,st.h 1001 with
    |.cells [.slice (.id r sz) es],.tok gm n=>(r=1001/\gm=sz)/\∃v FU n',I6 cx.P (cx.yp l [(1000,1000),(1001,1001)]) l (vs.map .v) (Ai [(1000,.cells [.slice (.id 1001 sz) es]),(1001,.tok sz n)] Af)
          (fun r h'=>r=.v v/\h'=Ai [(1000,.cells [.slice (.id 1001 sz) FU]),(1001,.tok sz n')] Af) /\
        K (.v v) (AK (AK st.h 1001 (.tok sz n')) 1000 (.cells [.slice (.id 1001 sz) FU]))
    |_,_=>False
  |_,_,_=>False
def pW:List Nat:=[1000,1001,1002,1003,1004,1005,1006,1007,10900,5]
def lH:AV->Option (Nat×List AV)
 |.v (.func (.func f) ⟨[]⟩ ⟨[]⟩)=>some (f,[])
 |.clo f caps=>some (f,caps)
 |_=>none
def ZH(d:Option Nat)(st:St)(F:AV)(args:List AV)(K:HK):Prop:=
 match d,lH F with
 |some d,some (f,caps)=>∃(σ:Jj) (H0 Hn:List (Nat×HO)) (args' : List AV) (res:AV),
   (∀h2:Nat->HO,(∀r∈pW,h2 r=st.h r)->FJ σ h2=Ai H0 Af/\args.map (ren (Cq σ) h2)++caps.map (ren0 (Cq σ) h2)=args')/\(Er σ&&Dc σ d 0&&σ.all fun p=>I1 pW p.1)=true /\
   Bg cx.P f args' (Ai H0 Af) (fun r h'=>r=res/\h'=Ai Hn Af)/\K (ren (Fr σ d 0) (Ai Hn Af) res) (Eb σ d 0 st.h (Ai Hn Af))
 |_,_=>False
def Sg(k:Nat)(d:Option Nat)(st:St)(F:AV)(args:List AV)(K:HK):Prop:=
 match Nat.beq k 4 with
 |true=>ZH cx d st F args K
 |false=>Sm cx k d st.h F args K
def GJ(dr:Bool)(d:Option Nat)(st:St)(F:AV)(args:List AV)(K:HK):Prop:=
 match dr with
 |true=>match Tl cx.pl.dc d with
  |none=>∃res,Qz cx.P (str st.h F) (args.map (str st.h)) res/\K res st.h
  |some 0=>match d with
   |none=>False
   |some d=>∃n sz es,(D6 st.h d 1&&fL F&&UJ args)=true/\Gk cx.P (fun l=>cx.yp l []) (str st.h F) (args.map (str st.h)) Af (fun r h'=>r=.msl 2000 n/\h'=Ai [(2000,.arr sz es)] Af) /\
     K (.msl (Bz d 0) n) (AK st.h (Bz d 0) (.arr sz es))
  |some (k+1)=>match Nat.beq k 2 with
   |true=>Yx cx d st F args K
   |false=>match Nat.beq k 3 with
    |true=>Vq cx d st F args K
    |false=>Sg cx k d st F args K
 |false=>∃m:wI,match m with
  |.pure=>∃res,Qz cx.P (str st.h F) (args.map (str st.h)) res/\K res st.h
  |.rel=>Gk cx.P (fun _ _ _=>True) (str st.h F) (args.map (str st.h)) Af fun r h'=>h'=Af/\K r st.h
  |.gen σ nn=>match d with
   |none=>False
   |some d=>(Er σ&&D6 st.h d nn&&Dc σ d nn)=true /\
     Gk cx.P (fun l=>cx.yp l σ) (ren (Cq σ) st.h F) (args.map (ren (Cq σ) st.h)) (FJ σ st.h) fun r h'=>K (ren (Fr σ d nn) h' r) (Eb σ d nn st.h h')
  |.geny σ nn=>match d with
   |none=>False
   |some d=>(Er σ&&D6 st.h d nn&&Dc σ d nn)=true /\
     match ren (Cq σ) st.h F with
     |.clo f caps=>s7 cx.P (fun g w=>∀l,cx.yp l σ g w) f (args.map (ren (Cq σ) st.h)++caps) (FJ σ st.h) fun r h'=>K (ren (Fr σ d nn) h' r) (Eb σ d nn st.h h')
     |_=>False
def Yy:List AV->Option (List Value)
 | []=>some []
 |.v x::r=>match Yy r with |some l=>some (x::l) |none=>none
 |_=>none
def uW:AV->Option Value
 |.v x=>some x
 |.agg cs=>match Yy cs with |some l=>some (.agg l.toArray) |none=>none
 |_=>none
def Ig(T:GW)(t:Nat):Option ES:=
 match(T t).d with
 |.struct _=>match H4 T 8 t with |some l=>some ⟨true,l⟩ |none=>none
 |_=>match H4 T 1 t with |some l=>some ⟨false,l⟩ |none=>none
def qK:KS->KS->Bool
 |.int k,.int k'=>wE k k'
 |.str,.str=>true
 |.bool,.bool=>true
 |_,_=>false
def Uu:List KS->List KS->Bool
 | [],[]=>true
 |a::r,b::s=>match qK a b with |true=>Uu r s |false=>false
 |_,_=>false
def vJ(a b:ES):Bool:=
 match a.agg,b.agg with
 |true,true=>Uu a.l b.l
 |false,false=>Uu a.l b.l
 |_,_=>false
def Kr(T:GW)(ty:Nat)(sh:ES)(k:AV)(K:Value->Prop):Prop:=
 match(T ty).d with
 |.map kt _=>match Ig T kt with
  |some sh'=>match vJ sh sh' with
   |true=>match uW k with
    |some kx=>match Yu sh kx with
     |true=>K kx
     |false=>False
    |none=>False
   |false=>False
  |none=>False
 |_=>False
open Classical in
noncomputable def E7(BY:List (Value×AV))(k:Value)(a:AV):List (Value×AV):=
 if ∃a',(k,a')∈BY then BY.map fun p=>if p.1=k then(k,a)else p else BY++[(k,a)]
def KP(T:GW)(mku:List Nat)(d:Option Nat)(h:Nat->HO)(ty:Nat)(K:HK):Prop:=
 match d with
 |none=>False
 |some d=>match h d with
  |.free=>match(T ty).d with
   |.map kt _=>match Ig T kt with
    |some sh=>match I1 mku d with
     |true=>K (.mref d) (AK h d (.mapU sh []))
     |false=>K (.mref d) (AK h d (.map sh []))
    |none=>False
   |_=>False
  |_=>False
def Hx(T:GW)(h:Nat->HO)(ty:Nat)(m k x:AV)(K:HK):Prop:=
 match m with
 |.mref r=>match h r with
  |.map sh BY=>Kr T ty sh k fun kx=>K (.v undef) (AK h r (.map sh (E7 BY kx (str h x))))
  |.mapU sh BY=>Kr T ty sh k fun kx=>K (.v undef) (AK h r (.mapU sh (E7 BY kx x)))
  |_=>False
 |_=>False
def Kt(T:GW)(t:Nat)(K:AV->Prop):Prop:=
 match(T t).d with
 |.other=>False
 |_=>match(T t).zero with
  |.agg cs=>match G6 (cs.toList.map .v)with |true=>K (.agg (cs.toList.map .v)) |false=>False
  |z=>K (.v z)
def Mw(T:GW)(ty:Nat)(ok:Bool)(BY:List (Value×AV))(kx:Value)(K:AV->Prop):Prop:=
 match(T ty).d with
 |.map _ e=>match ok with
  |true=>(∀a,(kx,a)∈BY->K (.tup [a,.v (.bool true)]))/\((∀a,(kx,a)∉BY)->Kt T e fun z=>K (.tup [z,.v (.bool false)]))
  |false=>(∀a,(kx,a)∈BY->K a)/\((∀a,(kx,a)∉BY)->Kt T e K)
 |_=>False
def Mu(T:GW)(ty:Nat)(ok:Bool)(BY:List (Value×AV))(kx:Value)(K:AV->Prop):Prop:=
 match(T ty).d with
 |.map _ e=>match ok with
  |true=>(∃a,((kx,a)∈BY/\∀b,(kx,b)∈BY->b=a)/\K (.tup [a,.v (.bool true)]))\/((∀a,(kx,a)∉BY)/\Kt T e fun z=>K (.tup [z,.v (.bool false)]))
  |false=>(∃a,((kx,a)∈BY/\∀b,(kx,b)∈BY->b=a)/\K a)\/((∀a,(kx,a)∉BY)/\Kt T e K)
 |_=>False
def Np(T:GW)(h:Nat->HO)(ty:Nat)(m k:AV)(ok:Bool)(K:AV->Prop):Prop:=
 match m with
 |.cmap sh BY=>Kr T ty sh k fun kx=>Mu T ty ok BY kx K
 |.mref r=>match h r with
  |.map sh BY=>Kr T ty sh k fun kx=>Mu T ty ok BY kx K
  |.mapU sh BY=>Kr T ty sh k fun kx=>Mu T ty ok BY kx K
  |.rom sh BY=>Kr T ty sh k fun kx=>Mu T ty ok BY kx K
  |_=>False
 |_=>False
def Nq(T:GW)(h:Nat->HO)(ty:Nat)(m k:AV)(ok:Bool)(K:AV->Prop):Prop:=
 match m with
 |.cmap sh BY=>Kr T ty sh k fun kx=>Mw T ty ok BY kx K
 |.mref r=>match h r with
  |.map sh BY=>Kr T ty sh k fun kx=>Mw T ty ok BY kx K
  |.mapU sh BY=>Kr T ty sh k fun kx=>Mw T ty ok BY kx K
  |.rom sh BY=>Kr T ty sh k fun kx=>Mw T ty ok BY kx K
  |_=>False
 |_=>False
def dD(d:Option Nat)(h:Nat->HO)(x:AV)(K:HK):Prop:=
 match d with
 |none=>False
 |some d=>match h d with
  |.free=>match x with
   |.cmap _ BY=>K (.ref d 0) (AK h d (.iter BY BY none))
   |.mref r=>match h r with
    |.rom _ BY=>K (.ref d 0) (AK h d (.iter BY BY none))
    |.map sh BY=>K (.ref d 0) (AK (AK h r (.rom sh BY)) d (.iter BY BY none))
    |_=>False
   |_=>False
  |_=>False
def m0(h:Nat->HO)(x:AV)(K:HK):Prop:=
 match x with
 |.ref r 0=>match h r with
  |.iter all rem _=>(rem=[]->K (.tup [.v (.bool false)]) h) /\
    (∀kv Ql,rem.Perm (kv::Ql)->K (.tup [.v (.bool true),.v kv.1,kv.2]) (AK h r (.iter all Ql (some kv))))
  |_=>False
 |_=>False
def cy(h:Nat->HO)(x:AV)(K:AV->Prop):Prop:=
 match x with
 |.ref r 0=>match h r with
  |.iter _ _ (some kv)=>K (.tup [.v kv.1,kv.2])
  |_=>False
 |_=>False
def RV(T:GW)(t:Nat)(h:Nat->HO)(x:AV)(K:AV->Prop):Prop:=
 match(T t).d with
 |.slice _=>match x with
  |.slice _ es=>K (.v (.int .i64 es.length))
  |.msl _ n=>K (.v (.int .i64 n))
  |.v (.slice none 0 0)=>K (.v (.int .i64 0))
  |_=>False
 |.string=>match x with
  |.v (.string s)=>K (.v (.int .i64 s.size))
  |_=>False
 |.map _ _=>match x with
  |.cmap _ BY=>K (.v (.int .i64 BY.length))
  |.mref r=>match h r with
   |.map _ BY=>K (.v (.int .i64 BY.length))
   |.mapU _ BY=>K (.v (.int .i64 BY.length))
   |.rom _ BY=>K (.v (.int .i64 BY.length))
   |_=>False
  |_=>False
 |_=>False
def Iv(d:Option Nat)(h:Nat->HO)(ty:Nat)(x:AV)(lo hi mx:Option (Option Int))(K:HK):Prop:=
 match lo,hi,mx with
 |some lo,some hi,some mx=>match(cx.T ty).d with
  |.string=>match mx,x with
   |none,.v (.string s)=>(0<=lo.getD 0/\lo.getD 0<=hi.getD s.size/\hi.getD s.size<=s.size)/\K (.v (.string (s.extract (lo.getD 0).toNat (hi.getD s.size).toNat))) h
   |_,_=>False
  |.slice e=>match(cx.T e).size with
   |0=>False
   |_+1=>match x with
    |.slice _ es=>match mx with
     |none=>(0<=lo.getD 0/\lo.getD 0<=hi.getD es.length/\hi.getD es.length<=es.length) /\
       (∀cs∈es,cs.length=(cx.T e).size)/\K (.slice .none ((es.take (hi.getD es.length).toNat).drop (lo.getD 0).toNat)) h
     |some m=>match d,hi with
      |some d,some hi=>match G7 cx.pl.arr d with
       |some _=>(0<=lo.getD 0/\lo.getD 0<=hi/\m=hi/\hi<=es.length)/\(∀cs∈es,cs.length=(cx.T e).size) /\
         K (.slice (.full (cx.T e).size) ((es.take hi.toNat).drop (lo.getD 0).toNat)) h
       |none=>match h d with
        |.free=>(0<=lo.getD 0/\lo.getD 0<=hi/\m=hi/\hi<=es.length)/\(∀cs∈es,cs.length=(cx.T e).size) /\
          K (.slice (.id d (cx.T e).size) ((es.take hi.toNat).drop (lo.getD 0).toNat)) (AK h d (.tok (cx.T e).size (hi.toNat-(lo.getD 0).toNat)))
        |_=>False
      |_,_=>False
    |.v (.slice none 0 0)=>(lo.getD 0=0/\hi.getD 0=0/\mx.getD 0=0)/\(mx=none\/hi≠none)/\K (.v (.slice none 0 0)) h
    |.msl r n=>match h r with
     |.arr sz es=>match Nat.beq sz (cx.T e).size with
      |true=>(n=es.length/\0<=lo.getD 0/\lo.getD 0<=hi.getD es.length/\hi.getD es.length<=es.length/\(mx=none\/(mx=hi/\hi≠none))) /\
        K (.slice .none ((es.take (hi.getD es.length).toNat).drop (lo.getD 0).toNat)) (AK h r .dead)
      |false=>False
     |_=>False
    |_=>False
  |_=>False
 |_,_,_=>False
def U5(d:Option Nat)(h:Nat->HO)(ty:Nat)(x:AV)(lo:Option (Option Int))(hi mx:Option Operand)(K:HK):Prop:=
 match d,lo,hi,mx with
 |some d,some (some lo),none,none=>match(cx.T ty).d with
  |.slice e=>match(cx.T e).size with
   |0=>False
   |_+1=>match x with
    |.slice (.id r sz) es=>match h r with
     |.tok HS n=>match h (Kq cx d)with
      |.free=>match Nat.beq HS sz,Nat.beq sz (cx.T e).size with
       |true,true=>(es.length=n/\0<=lo/\lo<=es.length)/\K (.slice (.id (Kq cx d) sz) (es.drop lo.toNat)) (AK (AK h r .dead) (Kq cx d) (.tok sz (es.drop lo.toNat).length))
       |_,_=>False
      |_=>False
     |_=>False
    |_=>False
  |_=>False
 |_,_,_,_=>False
def nJ(d:Option Nat)(h:Nat->HO)(ty:Nat)(x:AV)(hi:Option (Option Int))(K:HK):Prop:=
 match d,hi with
 |some d,some (some hi)=>match(cx.T ty).d with
  |.slice e=>match(cx.T e).size with
   |0=>False
   |_+1=>match x with
    |.msl r n=>match h r with
     |.arr sz es=>match h (Kq cx d)with
      |.free=>match Nat.beq sz (cx.T e).size,Nat.blt r 10000000&&Nat.blt 0 (Kq cx d)with
       |true,true=>(n=es.length/\0<=hi/\hi<=es.length)/\K (.msl (Kq cx d) hi.toNat) (AK (AK h r .dead) (Kq cx d) (.arr sz (es.take hi.toNat)))
       |_,_=>False
      |_=>False
     |_=>False
    |_=>False
  |_=>False
 |_,_=>False
def UV(d:Option Nat)(h:Nat->HO)(ty:Nat)(x:AV)(lo:Option Operand)(hi:Option (Option Int))(mx:Option Operand)(K:HK):Prop:=
 match lo,mx with
 |none,none=>nJ cx d h ty x hi K
 |_,_=>False
def bV(T:GW)(h:Nat->HO)(ty:Nat)(x:AV)(hi mx:Option Operand)(K:AV->Prop):Prop:=
 match hi,mx,(T ty).d,x with
 |none,none,.array n e,.ref r 0=>match(T e).size,h r with
  |1,.ro cs=>n=cs.length/\K (.slice .none (cs.map fun c=>[c]))
  |_,_=>False
 |_,_,_,_=>False
def nS(d:Option Nat)(h:Nat->HO)(ty:Nat)(x:AV)(t:Nat->AV)(lo hi mx:Option Operand)(K:HK):Prop:=
 match lo with
 |none=>match(cx.T ty).d with
  |.array _ _=>bV cx.T h ty x hi mx fun v=>K v h
  |_=>UV cx d h ty x none (CN t hi) mx K
 |some lo=>U5 cx d h ty x (CN t (some lo)) hi mx K
def unT:AV->AV
 |.slice _ es=>.slice .none es
 |a=>a
def Pd(d:Option Nat)(h:Nat->HO)(x:AV)(K:HK):Prop:=
 match d with
 |none=>K x h
 |some d=>match G7 cx.pl.tok d with
  |some sz=>match Nat.beq sz 0 with
   |true=>K (unT x) h
   |false=>match x with
    |.v (.slice none 0 0)=>match h d with
     |.free=>K (.slice (.id d sz) []) (AK h d (.tok sz 0))
     |_=>False
    |x=>K x h
  |none=>match G7 cx.pl.arr d with
   |some sz=>match x with
    |.v (.slice none 0 0)=>match h d with
     |.free=>K (.msl d 0) (AK h d (.arr sz []))
     |_=>False
    |x=>K x h
   |none=>K x h
def qX(l:List AV)(n:Nat):Option AV:=
 match l with
 | []=>none
 |x::r=>match n with |0=>some x |n+1=>qX r n
def Ms(i:Nat)(K:AV->Prop):Prop:=
 match x with
 |.tup vs=>match qX vs i with
  |some a=>K a
  |none=>False
 |_=>False
def KR:Prop:=
 match x with
 |.ref r o=>K (.ref r o)
 |.eref r n z i o=>K (.eref r n z i o)
 |.cptr cs=>K (.cptr cs)
 |.clo f cs=>K (.clo f cs)
 |.v (.func (.func f) a b)=>K (.v (.func (.func f) a b))
 |_=>False
def aW(c a b:AV)(K:AV->Prop):Prop:=
 match c with
 |.v (.bool true)=>K a
 |.v (.bool false)=>K b
 |_=>False
def qQ(f:Int->Int->Int)(x y:AV)(K:AV->Prop):Prop:=
 match x,y with
 |.v (.int k a),.v (.int k' b)=>match wE k k' with
  |true=>K (.v (.int k (f a b)))
  |false=>False
 |_,_=>False
def JO(d:Option Nat)(h:Nat->HO)(ty:Nat)(len cap:AV)(K:HK):Prop:=
 match(cx.T ty).d,len,cap with
 |.slice e,.v (.int .i64 n),.v (.int .i64 c)=>match G6 ((cx.T e).zc.map .v)with
  |true=>match Nat.beq (cx.T e).zc.length (cx.T e).size with
   |true=>match(cx.T e).size with
    |0=>False
    |_+1=>(0<=n/\n<=c/\c*(cx.T e).bytes<=140737488355328/\c<=9223372036854775807)/\E8 cx d h (cx.T e).size (List.replicate n.toNat ((cx.T e).zc.map .v)) K
   |false=>False
  |false=>False
 |_,_,_=>False
def bv(op:UnOp)(x:AV)(K:AV->Prop):Prop:=
 match op,x with
 |.not,x=>jp K x
 |.neg,.v (.int .i64 a)=>Au (-a)/\K (.v (.int .i64 (-a)))
 |.xor,.v (.int k a)=>K (.v (.int k (We .xor k (if k.signed then -1 else k.max) a)))
 |_,_=>False
def Ga(d:Option Nat)(h:Nat->HO)(b:Builtin)(Hp:List Nat)(args:List AV)(K:HK):Prop:=
 match b,args,Hp with
 |.len,[x],[t]=>RV cx.T t h x fun v=>K v h
 |.append,[s,x],[t,t']=>match Nat.beq t t' with
  |true=>Ix cx d h t s x K
  |false=>False
 |.max,[x,y],_=>qQ max x y fun v=>K v h
 |.min,[x,y],_=>qQ min x y fun v=>K v h
 |_,_,_=>False
def F6(dr:Bool)(o:Oper)(st:St)(K:HK):Prop:=
 match o.op with
 |.move x=>K (ev st.t x) st.h
 |.assign x=>Pd cx o.dst st.h (ev st.t x) K
 |.pick c a b=>aW (ev st.t c) (ev st.t a) (ev st.t b) fun v=>K v st.h
 |.alloc e=>Th cx.T o.dst st.h e K
 |.box e x=>gQ cx o.dst st.h e (ev st.t x) K
 |.build ty ps=>QE cx.T ty st.t ps.toList fun v=>K v st.h
 |.buildSlice ty n ps=>II cx o.dst st.h ty n st.t ps.toList K
 |.insert ty m k x=>Hx cx.T st.h ty (ev st.t m) (ev st.t k) (ev st.t x) K
 |.load ty x=>JN cx.T st.h ty (ev st.t x) fun v=>K v st.h
 |.store ty p x=>OS cx st.h ty (ev st.t p) (ev st.t x) K
 |.nilCheck x=>KR (ev st.t x) fun v=>K v st.h
 |.binOp op ty x y _=>YY cx.T op ty y (ev st.t x) (ev st.t y) fun v=>K v st.h
 |.unOp op _ x=>bv op (ev st.t x) fun v=>K v st.h
 |.convert s ty x=>match dr with
  |true=>Wp cx.T s ty (ev st.t x) fun v=>K v st.h
  |false=>cr cx o.dst st.h s ty (ev st.t x) K
 |.makeFunc fn first cap=>KO st.t st.h fn first.toList cap.toList fun v=>K v st.h
 |.makeMap ty none=>KP cx.T cx.pl.mku o.dst st.h ty K
 |.makeSlice ty n c=>JO cx o.dst st.h ty (ev st.t n) (ev st.t c) K
 |.slice ty x lo hi mx=>match dr with
  |true=>match Tl cx.pl.tok o.dst with
   |none=>Iv cx o.dst st.h ty (ev st.t x) (CN st.t lo) (CN st.t hi) (CN st.t mx) K
   |some _=>UV cx o.dst st.h ty (ev st.t x) lo (CN st.t hi) mx K
  |false=>match Tl cx.pl.tok o.dst with
   |none=>Iv cx o.dst st.h ty (ev st.t x) (CN st.t lo) (CN st.t hi) (CN st.t mx) K
   |some _=>nS cx o.dst st.h ty (ev st.t x) st.t lo hi mx K
 |.fieldAddr s x f=>TN cx.T s f (ev st.t x) fun v=>K v st.h
 |.field s x f=>Pw cx.T s f (ev st.t x) fun v=>K v st.h
 |.indexAddr ty x ix=>JM cx.T ty (ev st.t x) (ev st.t ix) fun v=>K v st.h
 |.index ty x ix=>Un cx.T ty (ev st.t x) (ev st.t ix) fun v=>K v st.h
 |.lookup ty x ix ok=>match dr with
  |true=>Np cx.T st.h ty (ev st.t x) (ev st.t ix) ok fun v=>K v st.h
  |false=>Nq cx.T st.h ty (ev st.t x) (ev st.t ix) ok fun v=>K v st.h
 |.mapUpdate ty m k x=>Hx cx.T st.h ty (ev st.t m) (ev st.t k) (ev st.t x) K
 |.range ty x=>match(cx.T ty).d with |.map _ _=>dD o.dst st.h (ev st.t x) K |_=>False
 |.next it false=>m0 st.h (ev st.t it) K
 |.entry it=>cy st.h (ev st.t it) fun v=>K v st.h
 |.extract x i=>Ms (ev st.t x) i fun v=>K v st.h
 |.call c=>match c.callee with
  |.builtin b=>Ga cx o.dst st.h b c.argTypes.toList (c.args.toList.map (ev st.t)) K
  |.value f=>GJ cx dr o.dst st (ev st.t f) (c.args.toList.map (ev st.t)) K
  |_=>False
 |_=>False
def LB(ops:List Oper)(j:Nat):Option Nat:=match ops with | []=>none | o::r=>match j with | 0=>o.dst | j+1=>LB r j
def nK(o:Oper)(st:St):St:=
 match o.dst with
 |none=>st
 |some d=>match wQ cx.pl.tz d with
  |some (r,k,j,sz)=>⟨st.t,tz1 st.h r k j sz⟩
  |none=>match tj cx.pl.fz d with
   | []=>st
   |l=>⟨st.t,PF st.h l⟩
def akK(o:Oper)(st:St)(K:St->Prop):Prop:=
 match o.dst with
 |none=>K st
 |some d=>match G7 cx.pl.ak d with
  |none=>K st
  |some s=>match st.t s with
   |.msl r n=>match st.h r with
    |.arr sz es=>n=es.length/\K ⟨JY st.t s (.slice (.id r sz) es),AK st.h r (.tok sz es.length)⟩
    |_=>K st
   |_=>K st
def kE(dr:Bool)(o:Oper)(st:St)(K:St->Prop):Prop:=
 match dr with
 |true=>F6 cx true o st fun v h=>K (st.put o.dst v h)
 |false=>akK cx o (nK cx o st) fun EF=>F6 cx false o EF fun v h=>K (EF.put o.dst v h)
def I7(dr:Bool)(all:List Oper)(o:Oper)(st:St)(K:St->Prop):Prop:=
 match o.guard with
 |none=>kE cx dr o st K
 |some (j,want)=>match LB all j with
  |none=>False
  |some d=>match st.t d,want with
   |.v (.bool true),true=>kE cx dr o st K
   |.v (.bool false),false=>kE cx dr o st K
   |.v (.bool true),false=>K (st.put o.dst (.v undef) st.h)
   |.v (.bool false),true=>K (st.put o.dst (.v undef) st.h)
   |.v (.tuple _),_=>K (st.put o.dst (.v undef) st.h)
   |_,_=>False
def ai(o2:Oper):Bool:=
 match o2.op with
 |.call c=>match c.callee with
  |.builtin .clear=>match o.op with
   |.slice ty _ (some _) none none=>match o.dst,o2.dst,c.args.toList,c.argTypes.toList,o.guard,o2.guard with
    |some d,none,[.tmp d'],[ty'],none,none=>Nat.beq d d'&&Nat.beq ty ty'
    |_,_,_,_,_,_=>false
   |_=>false
  |_=>false
 |_=>false
def xz(d:Nat)(st:St)(r i sz:Nat)(es:C0)(z:List Value)(K:St->Prop):Prop:=
 match z.all Value.oneCell' with
 |true=>K ⟨JY st.t d .junk,AK st.h r (.arr sz (es.take i++List.replicate (es.length-i) (z.map AV.v)))⟩
 |false=>False
def pE(o:Oper)(st:St)(K:St->Prop):Prop:=
 match o.op with
 |.slice ty x (some lo) none none=>match o.dst with
  |some d=>match(cx.T ty).d with
   |.slice e=>match ev st.t x with
    |.msl r n=>match ev st.t lo with
     |.v (.int .i64 i)=>match st.h r with
      |.arr sz es=>match Nat.beq sz (cx.T e).size with
       |true=>match(cx.T e).size with
        |0=>False
        |_+1=>match Nat.beq (cx.T e).zc.length sz with
         |true=>(n=es.length/\0<=i/\i<=es.length)/\xz d st r i.toNat sz es (cx.T e).zc K
         |false=>False
       |false=>False
      |_=>False
     |_=>False
    |_=>False
   |_=>False
  |none=>False
 |_=>False
def YV(cx:Cx)(all l:List Oper)(st:St)(K:St->Prop):Prop:=
 match l with
 | []=>K st
 | [o]=>I7 cx false all o st K
 |o::o2::r=>match ai o o2 with
  |true=>pE cx o st fun EF=>YV cx all r EF K
  |false=>I7 cx false all o st fun EF=>YV cx all (o2::r) EF K
def ZV:AV->List Nat
 |.ref r _=>[r]
 |.mref r=>[r]
 |_=>[]
def qB:List AV->List Nat
 | []=>[]
 |a::r=>ZV a++qB r
def X8:AV->List Nat
 |.agg cs=>qB cs
 |.clo _ cs=>qB cs
 |a=>ZV a
def uQ:List AV->List Nat
 | []=>[]
 |a::r=>X8 a++uQ r
def ZU:AV->List Nat
 |.agg cs=>uQ cs
 |a=>X8 a
def Uj:List AV->List Nat
 | []=>[]
 |a::r=>ZU a++Uj r
abbrev FF:=List Nat×Option Nat
def IL(d:Option Nat)(l:List Nat):Option FF:=match d with | some d=>some (d::l,some d) | none=>none
def jg:AV->List Nat
 |.msl r _=>[r]
 |_=>[]
def XS(d:Option Nat)(s x:AV):Option FF:=
 match s with
 |.v (.slice none 0 0)=>IL (d.map (Kq cx)) (jg x)
 |.slice (.full _) _=>IL (d.map (Kq cx)) (jg x)
 |.slice (.id r _) _=>IL (some r) (jg x)
 |.msl r _=>IL (some r) (jg x)
 |_=>none
def eX(d:Option Nat)(args:List AV):Option FF:=
 match d with
 |some d=>match args with
  |.msl r _::_=>some ([r,Bz d 0],some (r+10000000*Bz d 0))
  |_=>none
 |none=>none
theorem cC{d:Option Nat}{args:List AV}{f:FF}(h:eX d args=some f):∃d' r n l,d=some d'/\args=.msl r n::l/\f=([r,Bz d' 0],some (r+10000000*Bz d' 0)):=by
 unfold eX at h;split at h
 .split at h
  .cases h;exact⟨_,_,_,_,rfl,rfl,rfl⟩
  .cases h
 .cases h
def lB(d:Option Nat)(x:AV):Option FF:=
 match d with
 |some d=>match x with
  |.msl r _=>some ([r,d],some (r+10000000*d))
  |_=>none
 |none=>none
theorem cD{d:Option Nat}{x:AV}{f:FF}(h:lB d x=some f):∃d' r n,d=some d'/\x=.msl r n/\f=([r,d'],some (r+10000000*d')):=by
 unfold lB at h;split at h
 .split at h
  .cases h;exact⟨_,_,_,rfl,rfl,rfl⟩
  .cases h
 .cases h
def lC(args:List AV):Option FF:=match Xg args with | some _=>some ([1000,1001],some 10010001000) | none=>none
def Xt:Nat:=99999999999999
def lA(k:Nat)(d:Option Nat)(args:List AV):Option FF:=
 match Nat.beq k 3 with
 |true=>some (pW,some Xt)
 |false=>eX d args
def Hg(d:Option Nat)(c:Callee)(t:Nat->AV)(args:List AV):Option FF:=
 match c,args with
 |.builtin .len,[.mref r]=>some ([r],none)
 |.builtin .len,[_]=>some ([],none)
 |.builtin .max,_=>some ([],none)
 |.builtin .min,_=>some ([],none)
 |.builtin .append,[s,x]=>XS cx d s x
 |.value f,args=>match Tl cx.pl.dc d with
  |none=>some (ZU (ev t f)++Uj args,none)
  |some 0=>IL (d.map fun d=>Bz d 0) (ZU (ev t f)++Uj args)
  |some 1=>match args with |.msl r _::_=>some ([r],some r) |_=>none
  |some (k+2)=>match Nat.beq k 1 with
   |true=>IL (d.map fun d=>Bz d 0) (ZU (ev t f)++Uj args)
   |false=>match Nat.beq k 2 with
    |true=>lC args
    |false=>lA k d args
 |_,_=>none
def Fo(o:Oper)(st:St):Option FF:=
 match o.op with
 |.move _ |.pick .. |.nilCheck _ |.unOp .. |.convert .. |.fieldAddr .. |.field .. |.indexAddr .. |.index .. |.extract .. |.build ..=>some ([],none)
 |.binOp _ _ x _ _=>match ev st.t x with |.slice ..=>none |_=>some ([],none)
 |.assign x=>match ev st.t x with |.v (.slice ..)=>none |_=>some ([],none)
 |.load _ p=>match ev st.t p with |.cptr _=>some ([],none) |.ref r _=>some ([r],none) |.eref r ..=>some ([r],none) |_=>none
 |.call c=>Hg cx o.dst c.callee st.t (c.args.toList.map (ev st.t))
 |.alloc e=>match Nat.beq e YZ with |true=>none |false=>IL o.dst []
 |.box _ x=>IL o.dst (ZU (ev st.t x))
 |.buildSlice _ _ ps=>IL (o.dst.map (Kq cx)) (Uj (ps.toList.map fun p=>ev st.t p.2))
 |.store _ p x=>match ev st.t p with
  |.ref r _=>match I1 cx.pl.frz r with |true=>none |false=>IL (some r) []
  |.eref r ..=>IL (some r) (ZU (ev st.t x))
  |_=>none
 |.slice _ x _ _ mx=>match Tl cx.pl.tok o.dst with
  |some _=>lB (o.dst.map (Kq cx)) (ev st.t x)
  |none=>match mx,ev st.t x with
   |none,.msl ..=>none
   |none,_=>some ([],none)
   |some _,.slice ..=>IL o.dst []
   |_,_=>none
 |.makeFunc _ _ cap=>some (Uj (cap.toList.map (ev st.t)),none)
 |.mapUpdate _ m _ x=>match ev st.t m with |.mref r=>IL (some r) (ZU (ev st.t x)) |_=>none
 |.makeSlice ..=>IL (o.dst.map (Kq cx)) []
 |.lookup _ m _ _=>match ev st.t m with |.cmap ..=>some ([],none) |.mref r=>some ([r],none) |_=>none
 |.makeMap ..=>IL o.dst []
 |_=>none
def NY(all:List Oper)(o:Oper)(st:St):Option FF:=
 match o.guard with
 |none=>Fo cx o st
 |some (j,want)=>match LB all j with
  |none=>none
  |some d=>match st.t d,want with
   |.v (.bool true),true=>Fo cx o st
   |.v (.bool false),false=>Fo cx o st
   |_,_=>some ([],none)
def y9(l:List Nat):Bool:=match l with | []=>true | _=>false
def aQ(l:List Nat)(r:Nat):Bool:=bif Nat.beq r Xt then y9 l else !I1 l r&&(Nat.blt r 10000000||(!I1 l (r % 10000000)&&!I1 l (r / 10000000)))
def TF(a b:FF):Bool:=
 (match a.2 with | some r=>aQ b.1 r | none=>true)&&(match b.2 with | some r=>aQ a.1 r | none=>true)
def PG(i:Nat)(D:List Nat):Bool:=o.after.toList.any fun e=>Region.binds .any e&&(Nat.beq e.on i||I1 D e.on)
def QK(i:Nat)(D:List Nat)(k:Nat):List Oper->List Nat
 | []=>D
 |o::r=>match PG o i D with
  |true=>QK i (k::D) (k+1) r
  |false=>QK i D (k+1) r
def Vk(i:Nat)(D:List Nat)(k:Nat):List Oper->Bool
 | []=>true
 |o::r=>(PG o i D||!I1 D k)&&Vk i D (k+1) r
def IH(ops:Array Oper)(oi:Oper)(fi:FF)(D:List Nat)(k:Nat):List Oper->List FF->Bool
 |o::r,f::fs=>(I1 D k||(oi.apart ops o&&TF fi f))&&IH ops oi fi D (k+1) r fs
 | [],[]=>true
 |_,_=>false
def Mr(ops:Array Oper)(all:List Oper)(k:Nat):List Oper->List FF->Bool
 |o::r,f::fs=>
  let D:=QK k [] 0 all
  (o.after.toList.all fun e=>!Region.binds .any e||Nat.blt e.on k)&&Vk k D 0 all&&(D.all fun j=>Nat.blt k j&&Nat.blt j all.length)&&IH ops o f D (k+1) r fs&&Mr ops all (k+1) r fs
 | [],[]=>true
 |_,_=>false
def TG(ops:Array Oper)(fs:List FF):Bool:=Region.noSelect ops&&Mr ops ops.toList 0 ops.toList fs
def YT(cx:Cx)(ops:Array Oper)(l:List Oper)(fs:List FF)(st:St)(K:St->Prop):Prop:=
 match l with
 | []=>TG ops fs.reverse=true/\K st
 |o::r=>match NY cx ops.toList o st with
  |some f=>I7 cx true ops.toList o st fun EF=>YT cx ops r (f::fs) EF K
  |none=>False
def TL(l:List (Nat×AV))(i:Nat):AV:=match l with | []=>.junk | (j,v)::r=>bif Nat.beq i j then v else TL r i
structure LS where
 t:List (Nat×AV)
 h:List (Nat×HO)
 hb:Nat->HO
def LS.st(s:LS):St:=⟨TL s.t,Ai s.h s.hb⟩
def Sy(h:Nat->HO)(r:Nat):Bool:=match h r with | .free=>false | _=>true
def ids0(h:Nat->HO):AV->Bool
 |.slice (.id r _) _=>Sy h r
 |.slice (.ver r _ _) _=>Sy h r
 |.msl r _=>Sy h r
 |.ref r _=>Sy h r
 |.eref r _ _ _ _=>Sy h r
 |.mref r=>Sy h r
 |.agg _ |.tup _ |.clo ..=>false
 |_=>true
def ZX(h:Nat->HO):List AV->Bool
 | []=>true
 |a::r=>match ids0 h a with |true=>ZX h r |false=>false
def Uk(h:Nat->HO):AV->Bool
 |.agg cs=>ZX h cs
 |.tup cs=>ZX h cs
 |.clo _ cs=>ZX h cs
 |a=>ids0 h a
def RU(h:Nat->HO):List (Value×AV)->Bool
 | []=>true
 |p::r=>match Uk h p.2 with |true=>RU h r |false=>false
def qC(h:Nat->HO):List AV->Bool
 | []=>true
 |a::r=>match Uk h a with |true=>qC h r |false=>false
def ZW(h:Nat->HO):HO->Bool
 |.cells cs=>qC h cs
 |.mapU _ BY=>RU h BY
 |.hol _ _ _ _ a=>Uk h a
 |.bld x=>Uk h x
 |_=>true
def leT(st:St)(h:Nat->HO):List (Nat×AV)->Prop
 | []=>True
 |(j,a)::r=>(st.t j=a/\Uk h a=true)/\leT st h r
def leH(st:St)(h:Nat->HO):List (Nat×HO)->Prop
 | []=>True
 |(j,o)::r=>(st.h j=o/\ZW h o=true)/\leH st h r
def St.le(st:St)(s:LS):Prop:=
 leT st s.st.h s.t/\leH st s.st.h s.h/\(∀j,s.hb j=.free\/(st.h j=s.hb j/\ZW s.st.h (s.hb j)=true)) /\
 match cx.ext with
 |false=>True
 |true=>∀j,1000<=j->j<2000->st.h j≠.free->s.st.h j≠.free
def M8(ops:Array Oper)(dr:Bool)(st:St)(K:St->Prop):Prop:=
 match dr with
 |false=>YV cx ops.toList ops.toList st K
 |true=>YT cx ops ops.toList [] st K
inductive Ex | normal | exit (id:Nat) | ret
def azK(h:Nat->HO)(o k:Nat)(K:(Nat->HO)->Prop):Prop:=
 match h o with
 |.cells cs=>match JR cs k with
  |.msl r n=>match h r with
   |.arr sz es=>n=es.length/\K (AK (AK h r (.tok sz es.length)) o (.cells (EW cs k (.slice (.id r sz) es))))
   |_=>K h
  |_=>K h
 |_=>K h
def amK(h:Nat->HO)(o k j:Nat)(K:(Nat->HO)->Prop):Prop:=
 match h o with
 |.cells cs=>match JR cs k with
  |.msl r n=>match h r with
   |.arr sz es=>match h j with
    |.free=>n=es.length/\K (AK (AK (AK h r .dead) j (.arr sz es)) o (.cells (EW cs k (.msl j n))))
    |_=>False
   |_=>False
  |_=>False
 |_=>False
def uvK(h:Nat->HO)(o k d:Nat)(K:(Nat->HO)->Prop):Prop:=
 match h o with
 |.cells cs=>match JR cs k with
  |.slice (.ver r sz v) es=>match h r with
   |.var HS v' _=>match h d with
    |.free=>(v=v'/\sz=HS)/\K (AK (AK (AK h r (.vox v)) d (.tok sz es.length)) o (.cells (EW cs k (.slice (.id d sz) es))))
    |_=>False
   |_=>False
  |_=>K h
 |_=>False
def rvK(h:Nat->HO)(o k r:Nat)(K:(Nat->HO)->Prop):Prop:=
 match h o with
 |.cells cs=>match JR cs k with
  |.slice (.id d sz) es=>match h d with
   |.tok HS n=>match h r with
    |.vox v=>(es.length=n/\sz=HS)/\K (AK (AK (AK h d .dead) r (.var sz (v+1) n)) o (.cells (EW cs k (.slice (.ver r sz (v+1)) es))))
    |_=>False
   |_=>False
  |_=>K h
 |_=>False
def nvK(h:Nat->HO)(r:Nat)(K:(Nat->HO)->Prop):Prop:=
 match h r with
 |.free=>K (AK h r (.vox 0))
 |_=>False
def rmK(h:Nat->HO)(o k:Nat)(K:(Nat->HO)->Prop):Prop:=
 match h o with
 |.cells cs=>match JR cs k with
  |.mref r=>match h r with
   |.rom sh BY=>K (AK h o (.cells (EW cs k (.cmap sh BY))))
   |_=>False
  |_=>False
 |_=>False
def zaK(h:Nat->HO)(o k j sz:Nat)(K:(Nat->HO)->Prop):Prop:=
 match h o with
 |.cells cs=>match JR cs k with
  |.v (.slice none 0 0)=>match h j with
   |.free=>K (AK (AK h j (.arr sz [])) o (.cells (EW cs k (.msl j 0))))
   |_=>False
  |_=>False
 |_=>False
def fz0(id:Nat)(h:Nat->HO)(K:(Nat->HO)->Prop):Prop:=
 match G7 cx.pl.ak (850000+id)with
 |some v=>K (lG h v)
 |none=>K h
def rm0(id:Nat)(h:Nat->HO)(K:(Nat->HO)->Prop):Prop:=
 match G7 cx.pl.ak (800000+id)with
 |some v=>rmK h (v % 10000) (v / 10000 % 100) K
 |none=>K h
def zx(id:Nat)(h:Nat->HO)(K:(Nat->HO)->Prop):Prop:=
 match G7 cx.pl.ak (810000+id)with
 |some v=>rmK h (v % 10000) (v / 10000 % 100) K
 |none=>K h
def wH(id:Nat)(h:Nat->HO)(K:(Nat->HO)->Prop):Prop:=
 match G7 cx.pl.ak (900000+id)with
 |some v=>zaK h (v % 10000) (v / 10000 % 100) (v / 1000000 % 10000) (v / 10000000000) K
 |none=>K h
def hoK(h:Nat->HO)(r:Nat)(K:(Nat->HO)->Prop):Prop:=
 match h r with
 |.hol sz es i c (.msl j m)=>match Nat.beq r j with
  |true=>False
  |false=>match h j with
   |.arr gm qs=>m=qs.length/\∃cs,es[i]?=some cs/\c<sz/\K (AK (AK (AK h j (.tok gm qs.length)) j .dead) r (.arr sz (es.set i (over cs c [.slice .none qs]))))
   |_=>False
 |_=>False
def vQ(id:Nat)(h:Nat->HO)(K:(Nat->HO)->Prop):Prop:=
 match G7 cx.pl.ak (500000+id)with
 |some v=>uvK h (v % 10000) (v / 10000 % 100) (v / 1000000) K
 |none=>match G7 cx.pl.ak (600000+id)with
  |some v=>rvK h (v % 10000) (v / 10000 % 100) (v / 1000000) K
  |none=>match G7 cx.pl.ak (700000+id)with
   |some v=>nvK h v K
   |none=>match G7 cx.pl.ak (950000+id)with
    |some v=>hoK h v K
    |none=>fz0 cx id h fun h=>rm0 cx id h fun h=>zx cx id h fun h=>wH cx id h K
def asK(st:St)(s k:Nat)(K:St->Prop):Prop:=
 match st.t s with
 |.msl r n=>match st.h r with
  |.arr sz es=>match k with
   |0=>n=es.length/\K ⟨JY st.t s (.slice .none es),AK (AK st.h r (.tok sz es.length)) r .dead⟩
   |k+1=>match Nat.beq r (k+1)with
    |true=>K st
    |false=>match st.h (k+1)with
     |.free=>n=es.length/\K ⟨JY st.t s (.msl (k+1) n),AK (AK st.h r .dead) (k+1) (.arr sz es)⟩
     |_=>False
  |_=>K st
 |_=>K st
def xA(id:Nat)(st:St)(K:St->Prop):Prop:=
 match I1 cx.pl.cut id with
 |true=>match G7 cx.pl.ak (100000+id)with
  |none=>match G7 cx.pl.ak (200000+id)with
   |none=>match G7 cx.pl.ak (300000+id)with
    |none=>vQ cx id st.h fun h'=>∃s:LS,St.le cx ⟨st.t,h'⟩ s/\K s.st
    |some v=>amK st.h (v % 10000) (v / 10000 % 100) (v / 1000000) fun h'=>∃s:LS,St.le cx ⟨st.t,h'⟩ s/\K s.st
   |some v=>asK st (v % 1000) (v / 1000) fun EF=>∃s:LS,St.le cx EF s/\K s.st
  |some v=>azK st.h (v % 1000) (v / 1000) fun h'=>∃s:LS,St.le cx ⟨st.t,h'⟩ s/\K s.st
 |false=>K st
def QD(cx:Cx)(c:Code)(Q:Ex->St->Prop)(st:St):Prop:=
 match c with
 |.skip=>Q .normal st
 |.label _=>Q .normal st
 |.region id ops dr=>xA cx id st fun st=>match cx.pl.dyn with
  | []=>M8 cx ops dr st (Q .normal)
  |_=>∃n,M8 { cx with nid:=n } ops dr st (Q .normal)
 |.seq a b=>QD cx a (fun e EF=>match e with |.normal=>QD cx b Q EF |e=>Q e EF) st
 |.cond c a b=>match ev st.t c with
  |.v (.bool true)=>QD cx a Q st
  |.v (.bool false)=>QD cx b Q st
  |_=>False
 |.block id c=>QD cx c (fun e EF=>match e with |.exit j=>(bif Nat.beq j id then Q .normal EF else Q (.exit j) EF) |e=>Q e EF) st
 |.loop c=>∃(α:Type) (I:α->LS) (μ:α->Nat),(∃x,St.le cx st (I x)) /\
   ∀x,QD cx c (fun e EF=>match e with | .normal=>∃y,μ y<μ x/\St.le cx EF (I y) | e=>Q e EF) (I x).st
 |.exit id=>Q (.exit id) st
 |.ret=>Q .ret st
 |_=>False
def Pt:List AV->Nat->AV
 | [],_=>.v undef
 |a::r,n=>match n with |0=>a |n+1=>Pt r n
def rd(T:GW)(st:St):List ResultVar->(List AV->Prop)->Prop
 | [],K=>K []
 |.tmp i::r,K=>rd T st r fun l=>K (str st.h (st.t i)::l)
 |.cell a t::r,K=>JN T st.h t (st.t a) fun v=>rd T st r fun l=>K (str st.h v::l)
def rb(st:St)(rs:List ResultVar)(K:AV->Prop):Prop:=
 rd cx.T ⟨st.t,PF st.h cx.pl.fin⟩ rs fun
  | [v]=>K v
  |vs=>K (.tup vs)
def ud(rs:List ResultVar)(K:AV->Prop)(e:Ex)(st:St):Prop:=
 match e with
 |.normal=>rb cx st rs K
 |.ret=>rb cx st rs K
 |.exit _=>False
def re(T:GW)(st:St):List ResultVar->(List AV->Prop)->Prop
 | [],K=>K []
 |.tmp i::r,K=>re T st r fun l=>K (st.t i::l)
 |.cell a t::r,K=>JN T st.h t (st.t a) fun v=>re T st r fun l=>K (v::l)
def jv(st:St)(rs:List ResultVar)(σ:Jj)(Q:AV->(Nat->HO)->Prop):Prop:=
 re cx.T ⟨st.t,PF st.h cx.pl.fin⟩ rs fun
  | [v]=>Q (ren (Cq σ) (PF st.h cx.pl.fin) v) (FJ σ (PF st.h cx.pl.fin))
  |vs=>Q (ren (Cq σ) (PF st.h cx.pl.fin) (.tup vs)) (FJ σ (PF st.h cx.pl.fin))
def Zo(rs:List ResultVar)(σ:Jj)(Q:AV->(Nat->HO)->Prop)(e:Ex)(st:St):Prop:=
 match e with
 |.normal=>jv cx st rs σ Q
 |.ret=>jv cx st rs σ Q
 |.exit _=>False
def IK(σ:Jj):List (Nat×HO)->Bool
 | []=>true
 |(i,_)::r=>Nat.ble 1000 i&&Nat.blt i 2000&&(match Cq σ i with |some j=>Nat.beq j i |none=>false)&&IK σ r
theorem yN{n m:Nat}{b:Prop}(k:b)(h:n <= m := by exact Ee rfl):n <= m /\ b := ⟨h,k⟩
abbrev nzA:AV := .v (.slice none 0 0)
abbrev pC(a c:List Nat):M5 := ⟨a,[],[],[],[],[],[],[],[],[],c⟩
abbrev pT(a:List Nat)(b:List (Nat×Nat))(c:List Nat):M5 := ⟨a,b,[],[],[],[],[],[],[],[],c⟩
end Go.Eng
