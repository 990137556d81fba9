/- Lemmas 4. -/
import Derived.Test.YtkjhcikodmiceaaGreatDoorMA00
import Derived.WalkKit
import Derived.Still
import Derived.RangeFuncSeq
import Derived.OrdersIn
import Derived.TacticsIn
namespace Go.Eng
variable {vs:Array Value}{E:TypeId}(op:BinOp)(f:Nat->Option Nat)(o:Oper)
theorem aa4{p:Prop}(h:p:=by kernel_rfl):p:=h
abbrev CS:=ByteArray
theorem A0a{A:Type}{x:Option A}{a b:A}(h:x=some a)(k:a=b:=by kernel_rfl):x=some b:=h.trans (congrArg some k)
inductive Tk | none | full (sz:Nat) | id (r sz:Nat) | ver (r sz v:Nat)
inductive KS | int (k:IntKind) | str | bool
structure E0 where
 agg:Bool
 l:List KS
variable (sh:E0)
inductive AV
 |v (x:Value)
 |slice (tk:Tk) (es:List (List AV))
 |msl (r n:Nat)
 |agg (cs:List AV)
 |tup (vs:List AV)
 |cptr (cs:List AV)
 |ref (r off:Nat)
 |eref (r n sz i off:Nat)
 |mref (r:Nat)
 |cmap (sh:E0) (BZ:List (Value×AV))
 |clo (f:Nat) (caps:List AV)
 |junk
abbrev C0:=List (List AV)
variable (x:AV)(K:AV->Prop)
inductive HO
 |free
 |dead
 |cells (cs:List AV)
 |ro (cs:List AV)
 |tok (sz n:Nat)
 |var (sz v n:Nat)
 |vox (v:Nat)
 |arr (sz:Nat) (es:C0)
 |map (sh:E0) (BZ:List (Value×AV))
 |mapU (sh:E0) (BZ:List (Value×AV))
 |rom (sh:E0) (BZ:List (Value×AV))
 |iter (all rem:List (Value×AV)) (Ew:Option (Value×AV))
 |raw (b:Nat) (ob:Obj)
 |hol (sz:Nat) (es:C0) (i c:Nat) (a:AV)
 |bld (x:AV)
 |bbf (n:Nat)
structure St where
 t:Nat->AV
 h:Nat->HO
def Af:Nat->HO:=fun _=>.free
def AJ(h:Nat->HO)(r:Nat)(o:HO):Nat->HO:=fun i=>bif Nat.beq i r then o else h i
def Kl(t:Nat->AV)(d:Nat)(v:AV):Nat->AV:=fun i=>bif Nat.beq i d then v else t i
def St.put(st:St)(d:Option Nat)(v:AV)(h:Nat->HO):St:=
 match d with
 |none=>⟨st.t,h⟩
 |some d=>⟨Kl st.t d v,h⟩
def ev(t:Nat->AV):Operand->AV
 |.tmp i=>t i
 |.const v=>.v v
 |.global g=>.v (.pointer (some ⟨g,0,none⟩))
 |.func f=>.v (.func (.func f) #[] #[])
inductive TD
 |int (k:IntKind) |bool |string |slice (e:Nat) |array (n e:Nat) |struct (fs:List (Nat×Nat)) |ptr (e:Nat) |map (k e:Nat) |func |iface |other
structure TI where
 d:TD
 size:Nat
 bytes:Nat
 zero:Value
 eqok:Bool
def TI.zc(i:TI):List Value:=match i.zero with | .agg cs=>cs.toList | v=>[v]
abbrev G4:=Nat->TI
structure Ns where
 frz:List Nat
 tok:List (Nat×Nat)
 arr:List (Nat×Nat)
 fz:List (Nat×List Nat)
 fin:List Nat
 mku:List Nat
 dyn:List Nat
 tz:List (Nat×(Nat×Nat×Nat×Nat))
 dc:List (Nat×Nat)
 ak:List (Nat×Nat)
 cut:List Nat
def Jm(l:List Nat)(n:Nat):Bool:=
 match l with
 | []=>false
 |x::r=>bif Nat.beq x n then true else Jm r n
def Hk(l:List (Nat×Nat))(n:Nat):Option Nat:=
 match l with
 | []=>none
 |(x,y)::r=>bif Nat.beq x n then some y else Hk r n
def str0(h:Nat->HO):AV->AV
 |.slice _ es=>.slice .none es
 |.ref r off=>match h r with |.ro cs=>.cptr (cs.drop off) |_=>.junk
 |.mref r=>match h r with |.rom sh BZ=>.cmap sh BZ |_=>.junk
 |.v x=>.v x
 |.cptr cs=>.cptr cs
 |.cmap s m=>.cmap s m
 |_=>.junk
def str(h:Nat->HO):AV->AV
 |.agg cs=>.agg (cs.map (str0 h))
 |.clo f cs=>.clo f (cs.map (str0 h))
 |a=>str0 h a
def Tl(h:Nat->HO)(BZ:List (Value×AV)):List (Value×AV):=BZ.map fun p=>(p.1,str h p.2)
def ne(h:Nat->HO)(r:Nat):Nat->HO:=
 match h r with
 |.cells cs=>AJ h r (.ro (cs.map (str h)))
 |.map sh BZ=>AJ h r (.rom sh BZ)
 |.mapU sh BZ=>AJ h r (.rom sh (Tl h BZ))
 |_=>h
def Ql(h:Nat->HO):List Nat->Nat->HO
 | []=>h
 |r::l=>Ql (ne h r) l
def vA(l:List (Nat×List Nat))(n:Nat):List Nat:=
 match l with
 | []=>[]
 |(x,y)::r=>bif Nat.beq x n then y else vA r n
def yO(l:List (Nat×(Nat×Nat×Nat×Nat)))(n:Nat):Option (Nat×Nat×Nat×Nat):=
 match l with
 | []=>none
 |(x,y)::r=>bif Nat.beq x n then some y else yO r n
def Ke(l:List AV)(n:Nat):AV:=
 match l with
 | []=>.junk
 |x::r=>match n with |0=>x |n+1=>Ke r n
def E2(cs:List AV)(o:Nat)(v:AV):List AV:=
 match cs with
 | []=>[]
 |c::cs=>match o with |0=>v::cs |o+1=>c::E2 cs o v
def tz1(h:Nat->HO)(r k j sz:Nat):Nat->HO:=
 match h r with
 |.cells cs=>match Ke cs k with
  |.v (.slice none 0 0)=>match h j with
   |.free=>AJ (AJ h j (.tok sz 0)) r (.cells (E2 cs k (.slice (.id j sz) [])))
   |_=>h
  |_=>h
 |_=>h
def rsv(h:Nat->HO):AV->AV
 |.ref r off=>match h r with |.ro cs=>.cptr (cs.drop off) |_=>.ref r off
 |.mref r=>match h r with |.rom sh BZ=>.cmap sh BZ |_=>.mref r
 |a=>a
def one:AV->Bool
 |.v x=>x.oneCell'
 |.agg _ |.tup _ |.junk=>false
 |_=>true
def Hj:List AV->Bool
 | []=>true
 |a::r=>match one a with |true=>Hj r |false=>false
def Aca:AV->List AV
 |.agg cs=>cs
 |a=>[a]
def Au(a:Int):Prop:=-9223372036854775808<=a/\a<9223372036854775808
def MV(cs:List AV)(K:AV->Prop):Prop:=
 match cs with
 |a::_=>K a
 | []=>False
def Jv(p:Prop)(K:AV->Prop):Prop:=(p->K (.v (.bool true)))/\(¬p->K (.v (.bool false)))
def Ml(T:G4)(t:Nat)(cs:List AV)(K:AV->Prop):Prop:=
 match(T t).d with
 |.struct _=>(T t).size<=cs.length/\K (.agg (cs.take (T t).size))
 |.array _ _=>(T t).size<=cs.length/\K (.agg (cs.take (T t).size))
 |.bool=>MV cs fun |.v (.bool b)=>(b=true->K (.v (.bool true)))/\(b=false->K (.v (.bool false))) |_=>False
 |.other=>False
 |_=>MV cs K
def aE:List AV->List AV->Prop
 | [],[]=>True
 |.v (.int _ a)::r,.v (.int _ b)::s=>a=b/\aE r s
 |.v (.string a)::r,.v (.string b)::s=>a=b/\aE r s
 |.v (.bool a)::r,.v (.bool b)::s=>a=b/\aE r s
 |_,_=>False
def yA:IntKind->IntKind->Bool
 |.i64,.i64 |.u8,.u8 |.u32,.u32 |.i32,.i32 |.u64,.u64 |.u16,.u16 |.i16,.i16 |.i8,.i8=>true
 |_,_=>false
def OO(f:Nat->Option (List KS)):Nat->List (Nat×Nat)->Option (List KS)
 |_,[]=>some []
 |n,(t,o)::r=>match Nat.beq o n with
  |true=>match f t with
   |some a=>match OO f (n+a.length) r with
    |some b=>some (a++b)
    |none=>none
   |none=>none
  |false=>none
def In(T:G4):Nat->Nat->Option (List KS)
 |0,_=>none
 |n+1,t=>match(T t).d with
  |.int k=>match(T t).size with |1=>some [.int k] |_=>none
  |.string=>match(T t).size with |1=>some [.str] |_=>none
  |.bool=>match(T t).size with |1=>some [.bool] |_=>none
  |.struct fs=>match(T t).eqok with
   |true=>match OO (In T n) 0 fs with
    |some l=>match Nat.beq l.length (T t).size with |true=>some l |false=>none
    |none=>none
   |false=>none
  |_=>none
def On:KS->Value->Bool
 |.int k,.int k' _=>yA k k'
 |.str,.string _=>true
 |.bool,.bool _=>true
 |_,_=>false
def bD:List KS->List AV->Bool
 | [],[]=>true
 |k::r,.v x::s=>match On k x with |true=>bD r s |false=>false
 |_,_=>false
def yc(T:G4)(t:Nat)(x y:AV)(K:AV->Prop):Prop:=
 match(T t).d with
 |.bool=>match x,y with
  |.v (.bool a),.v (.bool b)=>K (.v (.bool (a == b)))
  |_,_=>False
 |.struct _=>match x,y with
  |.agg xs,.agg ys=>match In T 8 t with
   |some l=>match bD l xs with
    |true=>match bD l ys with
     |true=>Jv (aE xs ys) K
     |false=>False
    |false=>False
   |none=>False
  |_,_=>False
 |.slice _=>match x,y with
  |.slice _ es,.v (.slice none 0 0)=>(es≠[]->K (.v (.bool false)))/\(es=[]->K (.v (.bool true))/\K (.v (.bool false)))
  |.v (.slice none 0 0),.v (.slice none 0 0)=>K (.v (.bool true))
  |_,_=>False
 |.ptr _=>match x,y with
  |.v (.pointer none),.v (.pointer none)=>K (.v (.bool true))
  |.cptr _,.v (.pointer none)=>K (.v (.bool false))
  |.ref _ _,.v (.pointer none)=>K (.v (.bool false))
  |.eref _ _ _ _ _,.v (.pointer none)=>K (.v (.bool false))
  |_,_=>False
 |_=>False
def kU:AV->Prop
 |.v (.bool true)=>K (.v (.bool false))
 |.v (.bool false)=>K (.v (.bool true))
 |_=>False
def WS(k:IntKind)(a b:Int):Int:=
 match op with
 |.and=>k.wrap (BitVec.ofInt k.bits a &&& BitVec.ofInt k.bits b).toNat
 |.or=>k.wrap (BitVec.ofInt k.bits a |||BitVec.ofInt k.bits b).toNat
 |_=>k.wrap (BitVec.ofInt k.bits a ^^^ BitVec.ofInt k.bits b).toNat
def tH(k:IntKind)(a b:Int):Int:=
 match op with
 |.shl=>k.wrap (a*2 ^ min b.toNat k.bits)
 |_=>a.fdiv (2 ^ min b.toNat k.bits)
def VT(k:IntKind)(a b:Int)(K:AV->Prop):Prop:=
 match op with
 |.shl=>0<=b/\K (.v (.int k (tH .shl k a b)))
 |.shr=>0<=b/\K (.v (.int k (tH .shr k a b)))
 |_=>False
def Ye(k:IntKind)(a b:Int)(K:AV->Prop):Prop:=
 match op with
 |.quo=>(0<=a/\0<b/\k.wrap (a / b)=a / b)/\K (.v (.int k (a / b)))
 |.rem=>(0<=a/\0<b)/\K (.v (.int k (a % b)))
 |.and=>K (.v (.int k (WS .and k a b)))
 |.or=>K (.v (.int k (WS .or k a b)))
 |.xor=>K (.v (.int k (WS .xor k a b)))
 |.add=>K (.v (.int k (k.wrap (a+b))))
 |.sub=>K (.v (.int k (k.wrap (a-b))))
 |.mul=>K (.v (.int k (k.wrap (a*b))))
 |op=>VT op k a b K
def T0(k:IntKind)(a b:Int)(K:AV->Prop):Prop:=
 match k with
 |.i64=>match op with
  |.add=>Au (a+b)/\K (.v (.int .i64 (a+b)))
  |.sub=>Au (a-b)/\K (.v (.int .i64 (a-b)))
  |.mul=>Au (a*b)/\K (.v (.int .i64 (a*b)))
  |.quo=>(0<=a/\0<b/\Au a)/\K (.v (.int .i64 (a / b)))
  |.rem=>(0<=a/\0<b)/\K (.v (.int .i64 (a % b)))
  |op=>Ye op .i64 a b K
 |k=>Ye op k a b K
def T2(T:G4)(op:BinOp)(t:Nat)(x y:AV)(K:AV->Prop):Prop:=
 match x,y with
 |.v (.int k a),.v (.int k' b)=>match yA k k' with
  |false=>VT op k a b K
  |true=>match op with
   |.eql=>Jv (a=b) K
   |.neq=>Jv (a≠b) K
   |.lss=>Jv (a<b) K
   |.leq=>Jv (a<=b) K
   |.gtr=>Jv (b<a) K
   |.geq=>Jv (b<=a) K
   |op=>T0 op k a b K
 |.v (.string a),.v (.string b)=>match op with
   |.eql=>Jv (a=b) K
   |.neq=>Jv (a≠b) K
   |.lss=>Jv (Op.bytesLess a.toList b.toList=true) K
   |.geq=>Jv (Op.bytesLess a.toList b.toList=false) K
   |.gtr=>Jv (Op.bytesLess b.toList a.toList=true) K
   |.leq=>Jv (Op.bytesLess b.toList a.toList=false) K
   |.add=>((a.size+b.size:Nat):Int)<=9223372036854775807/\K (.v (.string (a++b)))
   |_=>False
 |x,y=>match op with
  |.eql=>yc T t x y K
  |.neq=>yc T t x y (kU K)
  |_=>False
def ab(T:G4)(op:BinOp)(t:Nat)(Y:Operand)(x y:AV)(K:AV->Prop):Prop:=
 match Y with
 |.const .nilIface=>match x with
  |.v .nilIface=>match(T t).d with
   |.iface=>match op with
    |.eql=>K (.v (.bool true))
    |.neq=>K (.v (.bool false))
    |_=>False
   |_=>False
  |_=>False
 |_=>T2 T op t x y K
def W4(T:G4)(s t:Nat)(x:AV)(K:AV->Prop):Prop:=
 match(T s).d,(T t).d,x with
 |.int _,.int .i64,.v (.int _ n)=>Au n/\K (.v (.int .i64 n))
 |.int _,.int k,.v (.int _ n)=>K (.v (.int k (k.wrap n)))
 |.string,.string,.v (.string s)=>K (.v (.string s))
 |.slice e,.string,.slice _ es=>match(T e).d with
  |.int .u8=>∃l:List UInt8,es=l.map (fun b=>[AV.v (.int .u8 b.toNat)])/\K (.v (.string ⟨l.toArray⟩))
  |_=>False
 |_,_,_=>False
def YB(fs:List (Nat×Nat))(n:Nat):Option (Nat×Nat):=
 match fs with
 | []=>none
 |x::r=>match n with |0=>some x |n+1=>YB r n
def Ut(T:G4)(s f:Nat)(x:AV)(K:AV->Prop):Prop:=
 match(T s).d with
 |.struct fs=>match YB fs f with
  |some (t,o)=>match(T t).size with
   |0=>False
   |_+1=>match x with
    |.cptr cs=>K (.cptr (cs.drop o))
    |.ref r off=>K (.ref r (off+o))
    |.eref r n z i off=>K (.eref r n z i (off+o))
    |_=>False
  |none=>False
 |_=>False
def co(T:G4)(t:Nat)(cs:List AV)(K:AV->Prop):Prop:=Ml T t cs K
def Qd(T:G4)(s f:Nat)(x:AV)(K:AV->Prop):Prop:=
 match(T s).d,x with
 |.struct fs,.agg cs=>match YB fs f with
  |some (t,o)=>co T t (cs.drop o) K
  |none=>False
 |_,_=>False
def J8(T:G4)(t:Nat)(x ix:AV)(K:AV->Prop):Prop:=
 match(T t).d,ix with
 |.slice e,.v (.int .i64 i)=>match(T e).size with
  |0=>False
  |_+1=>match x with
   |.slice _ es=>∃cs,(0<=i/\es[i.toNat]?=some cs)/\cs.length=(T e).size/\K (.cptr cs)
   |.msl r n=>(0<=i/\i<n)/\K (.eref r n (T e).size i.toNat 0)
   |_=>False
 |.array n e,.v (.int .i64 i)=>match(T e).size with
  |0=>False
  |_+1=>match x with
   |.cptr cs=>(0<=i/\i<n)/\K (.cptr (cs.drop (i.toNat*(T e).size)))
   |.ref r off=>(0<=i/\i<n)/\K (.ref r (off+i.toNat*(T e).size))
   |_=>False
 |_,_=>False
def U0(T:G4)(t:Nat)(x ix:AV)(K:AV->Prop):Prop:=
 match(T t).d,x,ix with
 |.string,.v (.string s),.v (.int _ i)=>∃b:UInt8,(0<=i/\s.data[i.toNat]?=some b)/\K (.v (.int .u8 b.toNat))
 |.array n e,.agg cs,.v (.int .i64 i)=>(0<=i/\i<n)/\co T e (cs.drop (i.toNat*(T e).size)) K
 |_,_,_=>False
def CT(t:Nat->AV):Option Operand->Option (Option Int)
 |none=>some none
 |some x=>match ev t x with |.v (.int .i64 i)=>some (some i) |_=>none
def over{α:Type}(cs:List α)(o:Nat)(vs:List α):List α:=
 match cs with
 | []=>[]
 |c::cs=>match o with
  |o+1=>c::over cs o vs
  |0=>match vs with
   | []=>c::cs
   |v::vs=>v::over cs 0 vs
structure D where
 ρ:Nat->Value
 ln:Nat->Nat
 tk:Nat->Bool
 own:Nat->Option Nat
 S:Nat->Nat->Prop
def Kn:List KS->List Value->Bool
 | [],[]=>true
 |k::r,v::s=>match On k v with |true=>Kn r s |false=>false
 |_,_=>false
def Zw(v:Value):Bool:=
 match sh.agg,v with
 |true,.agg cs=>Kn sh.l cs.toList
 |false,v=>Kn sh.l [v]
 |_,_=>false
def HQ(es:Array MapEntry)(ck:Nat)(BZ:List (Value×AV)):Prop:=
 es.size=BZ.length/\(∀(i:Nat) (kv:Value×AV) (e:MapEntry),BZ[i]?=some kv->es[i]?=some e->e.key=kv.1) /\
 (∀kv∈BZ,Zw sh kv.1=true)/\(BZ.map (·.1)).Nodup/\(∀(i:Nat) (e:MapEntry),es[i]?=some e->e.born<ck) /\
 ∀(i j:Nat) (e e' : MapEntry),es[i]?=some e->es[j]?=some e'->e.born=e'.born->i=j
inductive O(g:D)(w:World):(Nat->Prop)->AV->Value->Prop
 |v (U:Nat->Prop) (x:Value):O g w U (.v x) x
 |junk (U:Nat->Prop) (x:Value):O g w U .junk x
 |snil (U:Nat->Prop) (a:Option Addr) (cap:Nat):O g w U (.slice .none []) (.slice a 0 cap)
 |slice (U:Nat->Prop) (es:C0) (b off sz cap:Nat) (val:Nat->Nat->Value) (hc:es.length<=cap)
   (hl:∀(i:Nat) (cs:List AV),es[i]?=some cs->cs.length=sz)
   (DS:∀(i:Nat) (cs:List AV) (j:Nat) (av:AV),es[i]?=some cs->cs[j]?=some av ->
    g.S b (off+i*sz+j)/\w.cell? ⟨b,off+i*sz+j,none⟩=some (val i j)/\(val i j).oneCell'=true)
   (EB:∀(i:Nat) (cs:List AV) (j:Nat) (av:AV),es[i]?=some cs->cs[j]?=some av->O g w (fun _=>False) av (val i j)) :
   O g w U (.slice .none es) (.slice (some ⟨b,off,none⟩) es.length cap)
 |tok (U:Nat->Prop) (r sz:Nat) (es:C0) (x:Value) (h:O g w U (.slice .none es) x) (hl:∀c∈es,c.length=sz) (hu:U r) (ht:g.tk r=true) (hn:es.length<=g.ln r)
   (hx:es.length=g.ln r->x=g.ρ r):O g w U (.slice (.id r sz) es) x
 |ver (U:Nat->Prop) (r sz v:Nat) (es:C0) (x:Value) (h:O g w U (.slice .none es) x) (hl:∀c∈es,c.length=sz) (hu:U r) (ht:g.tk r=true) (hn:v<=g.ln r)
   (hx:v=g.ln r->x=g.ρ r):O g w U (.slice (.ver r sz v) es) x
 |full (U:Nat->Prop) (sz:Nat) (es:C0) (x:Value) (h:O g w U (.slice .none es) x) (hl:∀c∈es,c.length=sz) (hx:∃a,x=.slice a es.length es.length):O g w U (.slice (.full sz) es) x
 |msl (U:Nat->Prop) (r n:Nat) (a:Option Addr) (cap:Nat) (hu:U r) (ht:g.tk r=true) (hn:n<=g.ln r) (ha:n=0\/∃b,a=some ⟨b,0,none⟩) (hx:n=g.ln r->.slice a n cap=g.ρ r) :
   O g w U (.msl r n) (.slice a n cap)
 |agg (U:Nat->Prop) (cs:List AV) (vs:Array Value) (hs:vs.size=cs.length) (h1:∀(i:Nat) (x:Value),vs[i]?=some x->x.oneCell'=true)
   (h:∀(i:Nat) (av:AV) (x:Value),cs[i]?=some av->vs[i]?=some x->O g w U av x):O g w U (.agg cs) (.agg vs)
 |tup (U:Nat->Prop) (cs:List AV) (vs:Array Value) (hs:vs.size=cs.length)
   (h:∀(i:Nat) (av:AV) (x:Value),cs[i]?=some av->vs[i]?=some x->O g w U av x):O g w U (.tup cs) (.tuple vs)
 |cptr (U:Nat->Prop) (cs:List AV) (b off:Nat) (val:Nat->Value)
   (DS:∀(j:Nat) (av:AV),cs[j]?=some av->g.S b (off+j)/\w.cell? ⟨b,off+j,none⟩=some (val j)/\(val j).oneCell'=true)
   (EB:∀(j:Nat) (av:AV),cs[j]?=some av->O g w (fun _=>False) av (val j)) :
   O g w U (.cptr cs) (.pointer (some ⟨b,off,none⟩))
 |ref (U:Nat->Prop) (r off b:Nat) (hu:U r) (ht:g.tk r=false) (hx:g.ρ r=.pointer (some ⟨b,0,none⟩)):O g w U (.ref r off) (.pointer (some ⟨b,off,none⟩))
 |eref (U:Nat->Prop) (r n sz i off b cap:Nat) (hu:U r) (ht:g.tk r=true) (hn:i<n/\n<=g.ln r) (hx:n=g.ln r->g.ρ r=.slice (some ⟨b,0,none⟩) n cap) :
   O g w U (.eref r n sz i off) (.pointer (some ⟨b,i*sz+off,none⟩))
 |mref (U:Nat->Prop) (r b:Nat) (hu:U r) (ht:g.tk r=false) (hx:g.ρ r=.map (some b)):O g w U (.mref r) (.map (some b))
 |cmap (U:Nat->Prop) (sh:E0) (BZ:List (Value×AV)) (b:Nat) (es:Array MapEntry) (ck:Nat) (hS:g.S b 0) (hb:w.heap[b]?=some (.map es ck)) (hm:HQ sh es ck BZ)
   (h:∀(i:Nat) (kv:Value×AV) (e:MapEntry),BZ[i]?=some kv->es[i]?=some e->O g w (fun _=>False) kv.2 e.val):O g w U (.cmap sh BZ) (.map (some b))
 |clo (U:Nat->Prop) (f:Nat) (cs:List AV) (vs:Array Value) (hs:vs.size=cs.length)
   (h:∀(i:Nat) (av:AV) (x:Value),cs[i]?=some av->vs[i]?=some x->O g w U av x):O g w U (.clo f cs) (.func (.func f) #[] vs)
def HO.live:HO->Prop
 |.free |.dead |.vox _ |.ro _ |.rom _ _=>False
 |_=>True
def L(h:Nat->HO)(r:Nat):Prop:=h r≠.free
def FK:Nat->Prop:=fun _=>False
def Ci(g:D)(w:World)(U:Nat->Prop)(cs:List AV)(vs:List Value):Prop:=
 vs.length=cs.length/\(∀x∈vs,x.oneCell'=true)/\∀(i:Nat) (av:AV) (x:Value),cs[i]?=some av->vs[i]?=some x->O g w U av x
def PM:List Nat->Code->Bool
 |bs,.block id c=>PM (id::bs) c
 |bs,.seq a b=>PM bs a||PM bs b
 |bs,.cond _ a b=>PM bs a||PM bs b
 |bs,.loop c=>PM bs c
 |bs,.exit id=>!(bs.any fun i=>Nat.beq i id)
 |_,_=>false
def yS:Obj->Bool
 |.loop r=>PM [] r.body
 |_=>false
def Sj(w:World)(b:Nat)(vs:Array Value)(E:TypeId):Prop:=∃f:Nat×Nat,w.heap[b]?=some (.cells vs E f)/\(f=(0,0)\/vs.size<=f.1)
theorem Sj.eq{w w' : World}{b:Nat}(h:Sj w b vs E)(e:w'.heap[b]?=w.heap[b]?):Sj w' b vs E:=by
 obtain⟨f,h1,h2⟩:=h;exact⟨f,e.trans h1,h2⟩
theorem Sj.of{w:World}{b:Nat}(h:w.heap[b]?=some (.cells vs E (0,0))):Sj w b vs E:=⟨_,h,.inl rfl⟩
def ac:Nat:=104
def u8T:Nat:=5
def D6(g:D)(w:World)(U:Nat->Prop)(r:Nat):HO->Prop
  |.free |.dead=>True
  |.cells cs=>g.tk r=false/\∃b E vs,g.own r=some b/\g.ρ r=.pointer (some ⟨b,0,none⟩)/\w.heap[b]?=some (.cells vs E (0,0))/\Ci g w U cs vs.toList/\∀o,¬g.S b o
  |.ro cs=>g.tk r=false/\∃b,g.ρ r=.pointer (some ⟨b,0,none⟩)/\O g w FK (.cptr cs) (.pointer (some ⟨b,0,none⟩))
  |.tok sz n=>g.tk r=true/\g.ln r=n/\∃a cap,g.ρ r=.slice a n cap/\(n=cap/\g.own r=none \/
      n<=cap/\∃b E vs off,a=some ⟨b,off,none⟩/\g.own r=some b/\Sj w b vs E/\vs.size=off+cap*sz/\∀o,g.S b o->o<off+n*sz)
  |.var sz v n=>g.tk r=true/\g.ln r=v/\∃a cap,g.ρ r=.slice a n cap/\(n=cap/\g.own r=none \/
      n<=cap/\∃b E vs off,a=some ⟨b,off,none⟩/\g.own r=some b/\Sj w b vs E/\vs.size=off+cap*sz/\∀o,g.S b o->o<off+n*sz)
  |.vox v=>g.tk r=true/\g.ln r=v
  |.arr sz es=>g.tk r=true/\g.ln r=es.length/\(∀cs∈es,cs.length=sz)/\(es=[]/\g.ρ r=.slice none 0 0/\g.own r=none \/
      ∃b cap E vs,g.ρ r=.slice (some ⟨b,0,none⟩) es.length cap/\g.own r=some b/\es.length<=cap/\w.heap[b]?=some (.cells vs E (0,0))/\vs.size=cap*sz /\
        Ci g w FK es.flatten (vs.toList.take (es.length*sz))/\∀o,¬g.S b o)
  |.map sh BZ=>g.tk r=false/\∃b es ck,g.own r=some b/\g.ρ r=.map (some b)/\w.heap[b]?=some (.map es ck)/\HQ sh es ck BZ /\
      (∀(i:Nat) (kv:Value×AV) (e:MapEntry),BZ[i]?=some kv->es[i]?=some e->O g w FK kv.2 e.val)/\∀o,¬g.S b o
  |.mapU sh BZ=>g.tk r=false/\∃b es ck,g.own r=some b/\g.ρ r=.map (some b)/\w.heap[b]?=some (.map es ck)/\HQ sh es ck BZ /\
      (∀(i:Nat) (kv:Value×AV) (e:MapEntry),BZ[i]?=some kv->es[i]?=some e->O g w U kv.2 e.val)/\∀o,¬g.S b o
  |.rom sh BZ=>g.tk r=false/\∃b,g.ρ r=.map (some b)/\O g w FK (.cmap sh BZ) (.map (some b))
  |.iter all rem Ew=>g.tk r=false/\∃b mb KI seen st es ck,g.own r=some b/\g.ρ r=.pointer (some ⟨b,0,none⟩)/\w.heap[b]?=some (.mapIter (some mb) KI seen st) /\
      g.S mb 0/\w.heap[mb]?=some (.map es ck)/\(∃sh,HQ sh es ck all)/\KI=ck/\st=ck /\
      (∀(i:Nat) (kv:Value×AV) (e:MapEntry),all[i]?=some kv->es[i]?=some e->O g w FK kv.2 e.val) /\
      (rem.Nodup/\∀kv∈rem,kv∈all)/\(∀(i:Nat) (kv:Value×AV) (e:MapEntry),all[i]?=some kv->es[i]?=some e->(kv∈rem↔e.born∉seen)) /\
      (match Ew with | none=>True | some kv=>∃(i:Nat) (e:MapEntry),all[i]?=some kv/\es[i]?=some e/\seen.back?=some e.born)/\∀o,¬g.S b o
  |.hol sz es i c a=>g.tk r=true/\g.ln r=es.length/\(∀cs∈es,cs.length=sz)/\∃b cap E vs,g.ρ r=.slice (some ⟨b,0,none⟩) es.length cap/\g.own r=some b/\es.length<=cap/\w.heap[b]?=some (.cells vs E (0,0))/\vs.size=cap*sz /\
        Ci g w FK es.flatten (vs.toList.take (es.length*sz))/\(∀o,¬g.S b o)/\i*sz+c<es.length*sz/\∃x,vs[i*sz+c]?=some x/\O g w U a x
  |.raw b ob=>g.tk r=false/\g.own r=some b/\w.heap[b]?=some ob/\yS ob=true/\∀o,¬g.S b o
  |.bld x=>g.tk r=false/\∃b p v,g.own r=some b/\g.ρ r=.pointer (some ⟨b,0,none⟩)/\w.heap[b]?=some (.cells #[p,v] ac (0,0))/\(p=.pointer none\/p=.pointer (some ⟨b,0,none⟩))/\O g w U x v/\∀o,¬g.S b o
  |.bbf n=>g.tk r=true/\g.ln r=n/\(n=0/\g.ρ r=.slice none 0 0/\g.own r=none\/∃b cap Ew,g.ρ r=.slice (some ⟨b,0,none⟩) n cap/\g.own r=some b/\(0<n/\n<=cap)/\cap<=maxLen/\w.heap[b]?=some (.cells Ew u8T (0,0))/\Ew.size=cap/\∀o,g.S b o->o<n)
def gB:Nat:=0
def zF:List (Nat×Nat×Option Value):=[]
def X4(g:D)(w:World):Prop:=(g.S gB 0/\∃m,w.cell? ⟨gB,0,none⟩=some (.int .i64 m))/\∀x∈zF,g.S x.1 x.2.1/\w.cell? ⟨x.1,x.2.1,none⟩=x.2.2
structure CZ(w0:World)(g0:D)(h0:Nat->HO)(h:Nat->HO)(g:D)(w:World):Prop where
 os:w.os=w0.os
 tape:w.tape=w0.tape
 output:w.output=w0.output
 size:w0.heap.size<=w.heap.size
 frame:∀b,b<w0.heap.size->(∀r,(h0 r).live->g0.own r≠some b)->w.heap[b]?=w0.heap[b]?
 slt:∀b o,g.S b o->b<w.heap.size
 objs:∀r,D6 g w (L h) r (h r)
 inj:∀r r' b,(h r).live->(h r').live->g.own r=some b->g.own r'=some b->r=r'
 loc:∀r b,(h r).live->g.own r=some b->b<w.heap.size/\(w0.heap.size<=b\/∃r',(h0 r').live/\g0.own r'=some b)
 sg:∀b o,g.S b o->g0.S b o\/w0.heap.size<=b\/∃r',(h0 r').live/\g0.own r'=some b
 glob:X4 g w
def Fg(g:D)(w:World)(g' : D)(w' : World):Prop:=
 ∀b o,g.S b o->g'.S b o/\w'.cell? ⟨b,o,none⟩=w.cell? ⟨b,o,none⟩/\∀es ck,w.heap[b]?=some (.map es ck)->w'.heap[b]?=some (.map es ck)
def KK(g g' : D)(U:Nat->Prop):Prop:=
 ∀i,U i->g'.tk i=g.tk i/\g.ln i<=g'.ln i/\(g.tk i=false->g'.ρ i=g.ρ i)/\(g'.ln i=g.ln i->g'.ρ i=g.ρ i)
structure Le(h:Nat->HO)(g:D)(w:World)(h' : Nat->HO)(g' : D)(w' : World):Prop where
 gh:KK g g' (L h)
 us:∀i,L h i->L h' i
 keeps:Fg g w g' w'
def Gt (P : Program) (f : Nat) : Prop:=∃ fn, P.funcs[f]?=some fn /\ (fn.name == "runtime.NumGoroutine")=false /\ fn.body.isNone=false
def A6(P:Program)(f:Nat)(args:List AV)(h0:Nat->HO)(Q:AV->(Nat->HO)->Prop):Prop:=
 Gt P f/\∀(g:D) (w:World) (vals:Array Value),vals.size=args.length->(∀(i:Nat) (av:AV) (x:Value),args[i]?=some av->vals[i]?=some x->O g w (L h0) av x) ->
  CZ w g h0 h0 g w ->
  Calls P f vals w fun e w'=>∃v r h' g',e=.returned v/\Q r h'/\O g' w' (L h') r v/\CZ w g h0 h' g' w'/\Le h0 g w h' g' w'
def MF(P:Program)(f:Nat)(args:List AV)(res:AV):Prop:=A6 P f args Af fun r h'=>r=res/\h'=Af
def Jt(P:Program)(Y:D->World->Prop)(l:Nat)(args:List AV)(h0:Nat->HO)(Q:AV->(Nat->HO)->Prop):Prop:=
 ∀(g:D) (w:World) (vals:Array Value),vals.size=args.length->(∀(i:Nat) (av:AV) (x:Value),args[i]?=some av->vals[i]?=some x->O g w (L h0) av x) ->
  CZ w g h0 h0 g w->Y g w ->
  YieldAt Fence.wide 0 P l vals w fun e w'=>∃v r h' g',e=.returned v/\Q r h'/\O g' w' (L h') r v/\CZ w g h0 h' g' w'/\Le h0 g w h' g' w'
def vl(P:Program)(Y:D->World->Prop)(f:Nat)(args:List AV)(h0:Nat->HO)(Q:AV->(Nat->HO)->Prop):Prop:=
 Gt P f/\∀(g:D) (w:World) (vals:Array Value),vals.size=args.length->(∀(i:Nat) (av:AV) (x:Value),args[i]?=some av->vals[i]?=some x->O g w (L h0) av x) ->
  CZ w g h0 h0 g w->Y g w ->
  Calls P f vals w fun e w'=>∃v r h' g',e=.returned v/\Q r h'/\O g' w' (L h') r v/\CZ w g h0 h' g' w'/\Le h0 g w h' g' w'
def Gs(P:Program)(Y:Nat->D->World->Prop)(F:AV)(args:List AV)(h:Nat->HO)(Q:AV->(Nat->HO)->Prop):Prop:=
 match F with
 |.v (.func (.func f) ⟨[]⟩ ⟨[]⟩)=>A6 P f args h Q
 |.clo f caps=>A6 P f (args++caps) h Q
 |.v (.func (.yield l) ⟨[]⟩ ⟨[]⟩)=>Jt P (Y l) l args h Q
 |_=>False
def Rc(P:Program)(F:AV)(args:List AV)(res:AV):Prop:=
 match F with
 |.v (.func (.func f) ⟨[]⟩ ⟨[]⟩)=>MF P f args res
 |.clo f caps=>MF P f (args++caps) res
 |_=>False
structure Cx where
 P:Program
 T:G4
 pl:Ns
 ext:Bool
 nid:Nat
 yp:Nat->List (Nat×Nat)->D->World->Prop
variable (cx:Cx)
def KO(d:Nat):Nat:=bif Jm cx.pl.dyn d then cx.nid else d
abbrev HK:=AV->(Nat->HO)->Prop
def TX(T:G4)(d:Option Nat)(h:Nat->HO)(e:Nat)(K:HK):Prop:=
 match d with
 |none=>False
 |some d=>match h d with
  |.free=>match(T e).d with
   |.other=>False
   |_=>match Nat.beq e ac with
    |true=>match h 1001,Nat.beq d 1001,(T e).zc with
     |.free,false,[.pointer none,.slice none 0 0]=>K (.ref d 0) (AJ (AJ h 1001 (.bbf 0)) d (.bld (.slice (.id 1001 1) [])))
     |_,_,_=>False
    |false=>match Hj ((T e).zc.map .v)with
     |true=>K (.ref d 0) (AJ h d (.cells ((T e).zc.map .v)))
     |false=>False
  |_=>False
def HH(n:Nat)(a:AV)(K:List AV->Prop):Prop:=
 match a with
 |.agg cs=>match Nat.beq cs.length n with
  |true=>K cs
  |false=>False
 |a=>match one a with
  |true=>match n with
   |1=>K [a]
   |_=>False
  |false=>False
def js(d:Option Nat)(h:Nat->HO)(e:Nat)(x:AV)(K:HK):Prop:=
 match d with
 |none=>False
 |some d=>match h d with
  |.free=>match(cx.T e).d with
   |.other=>False
   |_=>HH (cx.T e).size x fun cs=>match Jm cx.pl.frz d with
    |true=>K (.ref d 0) (AJ h d (.ro (cs.map (str h))))
    |false=>K (.ref d 0) (AJ h d (.cells cs))
  |_=>False
def Pu(h:Nat->HO)(t:Nat)(p x:AV)(K:HK):Prop:=
 match(cx.T t).d with
 |.other=>False
 |_=>HH (cx.T t).size x fun vs=>match p with
  |.ref r off=>match h r with
   |.cells cs=>off+vs.length<=cs.length/\(match Jm cx.pl.frz r with
    |true=>K (.v undef) (AJ h r (.ro ((over cs off vs).map (str h))))
    |false=>K (.v undef) (AJ h r (.cells (over cs off vs))))
   |_=>False
  |.eref r n sz i off=>match h r with
   |.arr H9 es=>match Nat.beq sz H9 with
    |true=>n=es.length/\∃cs,es[i]?=some cs/\off+vs.length<=sz/\(match vs with
     | [.msl j m]=>K (.v undef) (AJ h r (.hol sz (es.set i (over cs off [.junk])) i off (.msl j m)))
     |_=>K (.v undef) (AJ h r (.arr sz (es.set i (over cs off (vs.map (str h)))))))
    |false=>False
   |_=>False
  |_=>False
def Ka(T:G4)(h:Nat->HO)(t:Nat)(p:AV)(K:AV->Prop):Prop:=
 match p with
 |.cptr cs=>Ml T t cs K
 |.ref r off=>match h r with
  |.cells cs=>Ml T t (cs.drop off) K
  |.ro cs=>Ml T t (cs.drop off) K
  |_=>False
 |.eref r n sz i off=>match h r with
  |.arr H9 es=>match Nat.beq sz H9 with
   |true=>n=es.length/\∃cs,es[i]?=some cs/\Ml T t (cs.drop off) K
   |false=>False
  |.hol H9 es i' c a=>match Nat.beq sz H9 with
   |true=>(n=es.length/\i=i'/\off=c)/\Ml T t [a] K
   |false=>False
  |_=>False
 |_=>False
def K9(pl:Nat->Option (Nat×Nat))(cs:List AV)(t:Nat->AV)(ps:List (Nat×Operand))(K:List AV->Prop):Prop:=
 match ps with
 | []=>K cs
 |(i,x)::r=>match pl i with
  |none=>False
  |some (o,n)=>HH n (ev t x) fun vs=>match Nat.ble (o+n) cs.length with
   |true=>K9 pl (over cs o vs) t r K
   |false=>False
def PG(T:G4):List (Nat×Nat)->Bool
 | []=>true
 |(t,_)::r=>match(T t).size with |0=>false |_+1=>PG T r
def Rh(T:G4)(ty:Nat)(t:Nat->AV)(ps:List (Nat×Operand))(K:AV->Prop):Prop:=
 match Hj ((T ty).zc.map .v)with
 |false=>False
 |true=>match(T ty).d with
  |.struct fs=>match PG T fs with
   |false=>False
   |true=>K9 (fun i=>match YB fs i with |some (t,o)=>some (o,(T t).size) |none=>none) ((T ty).zc.map .v) t ps fun cs=>K (.agg cs)
  |.array _ e=>match(T e).size with
   |0=>False
   |_+1=>K9 (fun i=>some (i*(T e).size,(T e).size)) ((T ty).zc.map .v) t ps fun cs=>K (.agg cs)
  |_=>False
def Sw(n sz:Nat)(h:Nat->HO)(es:C0)(t:Nat->AV)(ps:List (Nat×Operand))(K:C0->Prop):Prop:=
 match ps with
 | []=>K es
 |(i,x)::r=>match Nat.blt i n with
  |true=>HH sz (ev t x) fun vs=>Sw n sz h (es.set i (vs.map (str h))) t r K
  |false=>False
abbrev LD(b:CS):C0:=b.data.toList.map fun c=>[AV.v (.int .u8 c.toNat)]
def dN(d:Option Nat)(h:Nat->HO)(s t:Nat)(x:AV)(K:HK):Prop:=
 match(cx.T s).d,(cx.T t).d,x with
 |.string,.slice e,.v (.string b)=>match(cx.T e).d,d with
  |.int .u8,some d=>match h (KO cx d)with
   |.free=>K (.slice (.id (KO cx d) 1) (LD b)) (AJ h (KO cx d) (.tok 1 (LD b).length))
   |_=>False
  |_,_=>False
 |_,_,_=>W4 cx.T s t x fun v=>K v h
def Fe(d:Option Nat)(h:Nat->HO)(sz:Nat)(es:C0)(K:HK):Prop:=
 match d with
 |none=>False
 |some d=>match h (KO cx d)with
  |.free=>match Hk cx.pl.arr d with
   |some _=>K (.msl (KO cx d) es.length) (AJ h (KO cx d) (.arr sz es))
   |none=>K (.slice (.id (KO cx d) sz) es) (AJ h (KO cx d) (.tok sz es.length))
  |_=>False
def I6(d:Option Nat)(h:Nat->HO)(ty n:Nat)(t:Nat->AV)(ps:List (Nat×Operand))(K:HK):Prop:=
 match(cx.T ty).d with
 |.slice e=>match Hj ((cx.T e).zc.map .v),Nat.beq (cx.T e).zc.length (cx.T e).size with
  |true,true=>match(cx.T e).size with
   |0=>False
   |_+1=>match Nat.ble (n*(cx.T e).size) 16777216 with
    |true=>Sw n (cx.T e).size h (List.replicate n ((cx.T e).zc.map .v)) t ps fun es=>Fe cx d h (cx.T e).size es K
    |false=>False
  |_,_=>False
 |_=>False
def Ld(t:Nat->AV)(h:Nat->HO)(fn:Fn)(first captured:List Operand)(K:AV->Prop):Prop:=
 match fn,first with
 |.func f,[]=>K (.clo f (captured.map fun x=>rsv h (ev t x)))
 |_,_=>False
def A7(sz:Nat):C0->Prop
 | []=>True
 |c::r=>c.length=sz/\A7 sz r
def LK(h:Nat->HO)(x:AV)(K:C0->Prop):Prop:=
 match x with
 |.slice _ es=>K es
 |.v (.slice none 0 0)=>K []
 |.msl r n=>match h r with
  |.arr _ es=>n=es.length/\K es
  |_=>False
 |_=>False
def IT(d:Option Nat)(h:Nat->HO)(ty:Nat)(s x:AV)(K:HK):Prop:=
 match(cx.T ty).d with
 |.slice e=>match Nat.beq (cx.T e).zc.length (cx.T e).size with
  |false=>False
  |true=>match(cx.T e).size with
   |0=>False
   |_+1=>LK h x fun es2=>match s with
    |.v (.slice none 0 0)=>(A7 (cx.T e).size es2/\es2.length*(cx.T e).bytes<=140737488355328/\es2.length<=9223372036854775807)/\Fe cx d h (cx.T e).size es2 K
    |.slice (.full H9) es=>match Nat.beq H9 (cx.T e).size with
     |true=>(A7 (cx.T e).size es2/\0<es2.length/\(es.length+es2.length)*(cx.T e).bytes<=140737488355328/\es.length+es2.length<=9223372036854775807)/\Fe cx d h (cx.T e).size (es++es2) K
     |false=>False
    |.slice (.id r H9) es=>match h r with
     |.tok sz n=>match Nat.beq sz (cx.T e).size,Nat.beq H9 sz with
      |true,true=>(A7 sz es2/\es.length=n/\(es.length+es2.length)*(cx.T e).bytes<=140737488355328/\es.length+es2.length<=9223372036854775807) /\
        K (.slice (.id r sz) (es++es2)) (AJ h r (.tok sz (es.length+es2.length)))
      |_,_=>False
     |_=>False
    |.msl r n=>match h r with
     |.arr sz es=>match Nat.beq sz (cx.T e).size with
      |true=>(A7 sz es2/\es.length=n/\(es.length+es2.length)*(cx.T e).bytes<=140737488355328/\es.length+es2.length<=9223372036854775807) /\
        K (.msl r (es.length+es2.length)) (AJ h r (.arr sz (es++es2)))
      |false=>False
     |_=>False
    |_=>False
 |_=>False
abbrev JD:=List (Nat×Nat)
variable (σ:JD)
inductive yF | pure | rel | gen (σ:JD) (nn:Nat) | geny (σ:JD) (nn:Nat)
def CB(σ:JD)(n:Nat):Option Nat:=
 match σ with
 | []=>none
 |(i,j)::r=>bif Nat.beq i n then some j else CB r n
def IB(σ:JD)(n:Nat):Option Nat:=
 match σ with
 | []=>none
 |(i,j)::r=>bif Nat.beq j n then some i else IB r n
def EE:JD->Bool
 | []=>true
 |(i,j)::r=>(match CB r i,IB r j with |none,none=>true |_,_=>false)&&Nat.ble 1000 j&&Nat.blt j 2000&&EE r
def Hp:JD->Bool
 | []=>true
 |(i,j)::r=>(match CB r i,IB r j with |none,none=>true |_,_=>false)&&Hp r
def ren0(h:Nat->HO):AV->AV
 |.slice (.id r sz) es=>match f r with |some r'=>.slice (.id r' sz) es |none=>.slice .none es
 |.slice (.ver r sz v) es=>match f r with |some r'=>.slice (.ver r' sz v) es |none=>.slice .none es
 |.msl r n=>match f r with |some r'=>.msl r' n |none=>.junk
 |.ref r off=>match f r with |some r'=>.ref r' off |none=>str0 h (.ref r off)
 |.eref r n sz i off=>match f r with |some r'=>.eref r' n sz i off |none=>.junk
 |.mref r=>match f r with |some r'=>.mref r' |none=>str0 h (.mref r)
 |a=>str0 h a
def ren1(h:Nat->HO):AV->AV
 |.agg cs=>.agg (cs.map (ren0 f h))
 |.clo g cs=>.clo g (cs.map (ren0 f h))
 |a=>ren0 f h a
def ren(h:Nat->HO):AV->AV
 |.tup cs=>.tup (cs.map (ren1 f h))
 |a=>ren1 f h a
def HO.ren(h:Nat->HO):HO->HO
 |.cells cs=>.cells (cs.map (ren1 f h))
 |.mapU sh BZ=>.mapU sh (BZ.map fun p=>(p.1,ren1 f h p.2))
 |.hol sz es i c a=>.hol sz es i c (ren1 f h a)
 |.bld x=>.bld (ren1 f h x)
 |o=>o
def Ai(l:List (Nat×HO))(hb:Nat->HO)(i:Nat):HO:=match l with | []=>hb i | (j,v)::r=>bif Nat.beq i j then v else Ai r hb i
def Zp(f:Nat->Option Nat)(h:Nat->HO):JD->List (Nat×HO)
 | []=>[]
 |(i,j)::r=>(j,(h i).ren f h)::Zp f h r
def FL(h:Nat->HO):Nat->HO:=Ai (Zp (CB σ) h σ) Af
def BJ(d k:Nat):Nat:=10000+100*d+k
def Fs(d nn:Nat)(j:Nat):Option Nat:=
 match IB σ j with
 |some i=>some i
 |none=>match Nat.ble 2000 j&&Nat.blt j (2000+nn)with |true=>some (BJ d (j-2000)) |false=>none
def Em(d nn:Nat)(h h' : Nat->HO):Nat->HO:=fun i=>
 match CB σ i with
 |some j=>(h' j).ren (Fs σ d nn) h'
 |none=>match Nat.ble (BJ d 0) i&&Nat.blt i (BJ d nn)with |true=>(h' (2000+(i-BJ d 0))).ren (Fs σ d nn) h' |false=>h i
def Eg(h:Nat->HO)(d:Nat):Nat->Bool
 |0=>true
 |k+1=>(match h (BJ d k)with |.free=>true |_=>false)&&Eg h d k
def Dk(σ:JD)(d nn:Nat):Bool:=
 match σ with
 | []=>true
 |(i,_)::r=>!(Nat.ble (BJ d 0) i&&Nat.blt i (BJ d nn))&&Dk r d nn
def T1(l:List (Nat×Nat))(d:Option Nat):Option Nat:=match d with | none=>none | some d=>Hk l d
def iv:AV->Bool | .tup _=>false | _=>true
def Vo:List AV->Bool
 | []=>true
 |a::r=>match iv a with |true=>Vo r |false=>false
def XX:List AV->Option (List Value)
 | []=>some []
 |.v x::r=>match XX r with |some l=>some (x::l) |none=>none
 |_=>none
def SZ(k:Nat)(d:Option Nat)(h:Nat->HO)(F:AV)(args:List AV)(K:HK):Prop:=
 match d,F,args with
 |some d,.v (.func (.func f) ⟨[]⟩ ⟨[]⟩),.msl r n::l=>match XX l with
  |some vs=>match h r with
   |.arr sz es=>match k with
    |0=>∃n' FX,A6 cx.P f (.msl 1000 n::vs.map .v) (Ai [(1000,.arr sz es)] Af) (fun r' h'=>r'=.msl 1000 n'/\h'=Ai [(1000,.arr sz FX)] Af)/\K (.msl r n') (AJ h r (.arr sz FX))
    |_+1=>∃n' FX,(Eg h d 1&&Nat.blt r 10000000&&!Nat.beq r (BJ d 0))=true/\A6 cx.P f (.msl 1000 n::vs.map .v) (Ai [(1000,.arr sz es)] Af) (fun r' h'=>r'=.msl 2000 n'/\h'=Ai [(1000,.dead),(2000,.arr sz FX)] Af) /\
      K (.msl (BJ d 0) n') (AJ (AJ h r .dead) (BJ d 0) (.arr sz FX))
   |_=>False
  |none=>False
 |_,_,_=>False
def ZB(d:Option Nat)(st:St)(F:AV)(args:List AV)(K:HK):Prop:=
 match d with
 |none=>False
 |some d=>∃sz es,(Eg st.h d 1&&iv F&&Vo args)=true/\Gs cx.P (fun l=>cx.yp l []) (str st.h F) (args.map (str st.h)) Af (fun r h'=>r=.slice (.id 2000 sz) es/\h'=Ai [(2000,.tok sz es.length)] Af) /\
   K (.slice (.id (BJ d 0) sz) es) (AJ st.h (BJ d 0) (.tok sz es.length))
def V7(d:Option Nat)(st:St)(F:AV)(args:List AV)(K:HK):Prop:=
  match d,F,XX args with
  |some _,.v (.func (.yield l) ⟨[]⟩ ⟨[]⟩),some vs=>match st.h 1000,st.h 1001 with
    |.cells [.slice (.id r sz) es],.tok iR n=>(r=1001/\iR=sz)/\∃v FX n',Jt cx.P (cx.yp l [(1000,1000),(1001,1001)]) l (vs.map .v) (Ai [(1000,.cells [.slice (.id 1001 sz) es]),(1001,.tok sz n)] Af)
          (fun r h'=>r=.v v/\h'=Ai [(1000,.cells [.slice (.id 1001 sz) FX]),(1001,.tok sz n')] Af) /\
        K (.v v) (AJ (AJ st.h 1001 (.tok sz n')) 1000 (.cells [.slice (.id 1001 sz) FX]))
    |_,_=>False
  |_,_,_=>False
def rI:List Nat:=[1000,1001,1002,1003,1004,1005,1006,1007,10900,5]
def ng:AV->Option (Nat×List AV)
 |.v (.func (.func f) ⟨[]⟩ ⟨[]⟩)=>some (f,[])
 |.clo f caps=>some (f,caps)
 |_=>none
def aS(d:Option Nat)(st:St)(F:AV)(args:List AV)(K:HK):Prop:=
 match d,ng F with
 |some d,some (f,caps)=>∃(σ:JD) (H0 Hn:List (Nat×HO)) (args' : List AV) (res:AV),
   (∀h2:Nat->HO,(∀r∈rI,h2 r=st.h r)->FL σ h2=Ai H0 Af/\args.map (ren (CB σ) h2)++caps.map (ren0 (CB σ) h2)=args')/\(EE σ&&Dk σ d 0&&σ.all fun p=>Jm rI p.1)=true /\
   A6 cx.P f args' (Ai H0 Af) (fun r h'=>r=res/\h'=Ai Hn Af)/\K (ren (Fs σ d 0) (Ai Hn Af) res) (Em σ d 0 st.h (Ai Hn Af))
 |_,_=>False
def SU(k:Nat)(d:Option Nat)(st:St)(F:AV)(args:List AV)(K:HK):Prop:=
 match Nat.beq k 4 with
 |true=>aS cx d st F args K
 |false=>SZ cx k d st.h F args K
def GR(dr:Bool)(d:Option Nat)(st:St)(F:AV)(args:List AV)(K:HK):Prop:=
 match dr with
 |true=>match T1 cx.pl.dc d with
  |none=>∃res,Rc cx.P (str st.h F) (args.map (str st.h)) res/\K res st.h
  |some 0=>match d with
   |none=>False
   |some d=>∃n sz es,(Eg st.h d 1&&iv F&&Vo args)=true/\Gs cx.P (fun l=>cx.yp l []) (str st.h F) (args.map (str st.h)) Af (fun r h'=>r=.msl 2000 n/\h'=Ai [(2000,.arr sz es)] Af) /\
     K (.msl (BJ d 0) n) (AJ st.h (BJ d 0) (.arr sz es))
  |some (k+1)=>match Nat.beq k 2 with
   |true=>ZB cx d st F args K
   |false=>match Nat.beq k 3 with
    |true=>V7 cx d st F args K
    |false=>SU cx k d st F args K
 |false=>∃m:yF,match m with
  |.pure=>∃res,Rc cx.P (str st.h F) (args.map (str st.h)) res/\K res st.h
  |.rel=>Gs cx.P (fun _ _ _=>True) (str st.h F) (args.map (str st.h)) Af fun r h'=>h'=Af/\K r st.h
  |.gen σ nn=>match d with
   |none=>False
   |some d=>(EE σ&&Eg st.h d nn&&Dk σ d nn)=true /\
     Gs cx.P (fun l=>cx.yp l σ) (ren (CB σ) st.h F) (args.map (ren (CB σ) st.h)) (FL σ st.h) fun r h'=>K (ren (Fs σ d nn) h' r) (Em σ d nn st.h h')
  |.geny σ nn=>match d with
   |none=>False
   |some d=>(EE σ&&Eg st.h d nn&&Dk σ d nn)=true /\
     match ren (CB σ) st.h F with
     |.clo f caps=>vl cx.P (fun g w=>∀l,cx.yp l σ g w) f (args.map (ren (CB σ) st.h)++caps) (FL σ st.h) fun r h'=>K (ren (Fs σ d nn) h' r) (Em σ d nn st.h h')
     |_=>False
def ZD:List AV->Option (List Value)
 | []=>some []
 |.v x::r=>match ZD r with |some l=>some (x::l) |none=>none
 |_=>none
def xb:AV->Option Value
 |.v x=>some x
 |.agg cs=>match ZD cs with |some l=>some (.agg l.toArray) |none=>none
 |_=>none
def Ix(T:G4)(t:Nat):Option E0:=
 match(T t).d with
 |.struct _=>match In T 8 t with |some l=>some ⟨true,l⟩ |none=>none
 |_=>match In T 1 t with |some l=>some ⟨false,l⟩ |none=>none
def sy:KS->KS->Bool
 |.int k,.int k'=>yA k k'
 |.str,.str=>true
 |.bool,.bool=>true
 |_,_=>false
def U8:List KS->List KS->Bool
 | [],[]=>true
 |a::r,b::s=>match sy a b with |true=>U8 r s |false=>false
 |_,_=>false
def xK(a b:E0):Bool:=
 match a.agg,b.agg with
 |true,true=>U8 a.l b.l
 |false,false=>U8 a.l b.l
 |_,_=>false
def KP(T:G4)(ty:Nat)(sh:E0)(k:AV)(K:Value->Prop):Prop:=
 match(T ty).d with
 |.map kt _=>match Ix T kt with
  |some sh'=>match xK sh sh' with
   |true=>match xb k with
    |some kx=>match Zw sh kx with
     |true=>K kx
     |false=>False
    |none=>False
   |false=>False
  |none=>False
 |_=>False
open Classical in
noncomputable def Fc(BZ:List (Value×AV))(k:Value)(a:AV):List (Value×AV):=
 if ∃a',(k,a')∈BZ then BZ.map fun p=>if p.1=k then(k,a)else p else BZ++[(k,a)]
def Lg(T:G4)(mku:List Nat)(d:Option Nat)(h:Nat->HO)(ty:Nat)(K:HK):Prop:=
 match d with
 |none=>False
 |some d=>match h d with
  |.free=>match(T ty).d with
   |.map kt _=>match Ix T kt with
    |some sh=>match Jm mku d with
     |true=>K (.mref d) (AJ h d (.mapU sh []))
     |false=>K (.mref d) (AJ h d (.map sh []))
    |none=>False
   |_=>False
  |_=>False
def HL(T:G4)(h:Nat->HO)(ty:Nat)(m k x:AV)(K:HK):Prop:=
 match m with
 |.mref r=>match h r with
  |.map sh BZ=>KP T ty sh k fun kx=>K (.v undef) (AJ h r (.map sh (Fc BZ kx (str h x))))
  |.mapU sh BZ=>KP T ty sh k fun kx=>K (.v undef) (AJ h r (.mapU sh (Fc BZ kx x)))
  |_=>False
 |_=>False
def KR(T:G4)(t:Nat)(K:AV->Prop):Prop:=
 match(T t).d with
 |.other=>False
 |_=>match(T t).zero with
  |.agg cs=>match Hj (cs.toList.map .v)with |true=>K (.agg (cs.toList.map .v)) |false=>False
  |z=>K (.v z)
def MP(T:G4)(ty:Nat)(ok:Bool)(BZ:List (Value×AV))(kx:Value)(K:AV->Prop):Prop:=
 match(T ty).d with
 |.map _ e=>match ok with
  |true=>(∀a,(kx,a)∈BZ->K (.tup [a,.v (.bool true)]))/\((∀a,(kx,a)∉BZ)->KR T e fun z=>K (.tup [z,.v (.bool false)]))
  |false=>(∀a,(kx,a)∈BZ->K a)/\((∀a,(kx,a)∉BZ)->KR T e K)
 |_=>False
def MO(T:G4)(ty:Nat)(ok:Bool)(BZ:List (Value×AV))(kx:Value)(K:AV->Prop):Prop:=
 match(T ty).d with
 |.map _ e=>match ok with
  |true=>(∃a,((kx,a)∈BZ/\∀b,(kx,b)∈BZ->b=a)/\K (.tup [a,.v (.bool true)]))\/((∀a,(kx,a)∉BZ)/\KR T e fun z=>K (.tup [z,.v (.bool false)]))
  |false=>(∃a,((kx,a)∈BZ/\∀b,(kx,b)∈BZ->b=a)/\K a)\/((∀a,(kx,a)∉BZ)/\KR T e K)
 |_=>False
def NL(T:G4)(h:Nat->HO)(ty:Nat)(m k:AV)(ok:Bool)(K:AV->Prop):Prop:=
 match m with
 |.cmap sh BZ=>KP T ty sh k fun kx=>MO T ty ok BZ kx K
 |.mref r=>match h r with
  |.map sh BZ=>KP T ty sh k fun kx=>MO T ty ok BZ kx K
  |.mapU sh BZ=>KP T ty sh k fun kx=>MO T ty ok BZ kx K
  |.rom sh BZ=>KP T ty sh k fun kx=>MO T ty ok BZ kx K
  |_=>False
 |_=>False
def NM(T:G4)(h:Nat->HO)(ty:Nat)(m k:AV)(ok:Bool)(K:AV->Prop):Prop:=
 match m with
 |.cmap sh BZ=>KP T ty sh k fun kx=>MP T ty ok BZ kx K
 |.mref r=>match h r with
  |.map sh BZ=>KP T ty sh k fun kx=>MP T ty ok BZ kx K
  |.mapU sh BZ=>KP T ty sh k fun kx=>MP T ty ok BZ kx K
  |.rom sh BZ=>KP T ty sh k fun kx=>MP T ty ok BZ kx K
  |_=>False
 |_=>False
def fP(d:Option Nat)(h:Nat->HO)(x:AV)(K:HK):Prop:=
 match d with
 |none=>False
 |some d=>match h d with
  |.free=>match x with
   |.cmap _ BZ=>K (.ref d 0) (AJ h d (.iter BZ BZ none))
   |.mref r=>match h r with
    |.rom _ BZ=>K (.ref d 0) (AJ h d (.iter BZ BZ none))
    |.map sh BZ=>K (.ref d 0) (AJ (AJ h r (.rom sh BZ)) d (.iter BZ BZ none))
    |_=>False
   |_=>False
  |_=>False
def oT(h:Nat->HO)(x:AV)(K:HK):Prop:=
 match x with
 |.ref r 0=>match h r with
  |.iter all rem _=>(rem=[]->K (.tup [.v (.bool false)]) h) /\
    (∀kv QR,rem.Perm (kv::QR)->K (.tup [.v (.bool true),.v kv.1,kv.2]) (AJ h r (.iter all QR (some kv))))
  |_=>False
 |_=>False
def dR(h:Nat->HO)(x:AV)(K:AV->Prop):Prop:=
 match x with
 |.ref r 0=>match h r with
  |.iter _ _ (some kv)=>K (.tup [.v kv.1,kv.2])
  |_=>False
 |_=>False
def SG(T:G4)(t:Nat)(h:Nat->HO)(x:AV)(K:AV->Prop):Prop:=
 match(T t).d with
 |.slice _=>match x with
  |.slice _ es=>K (.v (.int .i64 es.length))
  |.msl _ n=>K (.v (.int .i64 n))
  |.v (.slice none 0 0)=>K (.v (.int .i64 0))
  |_=>False
 |.string=>match x with
  |.v (.string s)=>K (.v (.int .i64 s.size))
  |_=>False
 |.map _ _=>match x with
  |.cmap _ BZ=>K (.v (.int .i64 BZ.length))
  |.mref r=>match h r with
   |.map _ BZ=>K (.v (.int .i64 BZ.length))
   |.mapU _ BZ=>K (.v (.int .i64 BZ.length))
   |.rom _ BZ=>K (.v (.int .i64 BZ.length))
   |_=>False
  |_=>False
 |_=>False
def IQ(d:Option Nat)(h:Nat->HO)(ty:Nat)(x:AV)(lo hi mx:Option (Option Int))(K:HK):Prop:=
 match lo,hi,mx with
 |some lo,some hi,some mx=>match(cx.T ty).d with
  |.string=>match mx,x with
   |none,.v (.string s)=>(0<=lo.getD 0/\lo.getD 0<=hi.getD s.size/\hi.getD s.size<=s.size)/\K (.v (.string (s.extract (lo.getD 0).toNat (hi.getD s.size).toNat))) h
   |_,_=>False
  |.slice e=>match(cx.T e).size with
   |0=>False
   |_+1=>match x with
    |.slice _ es=>match mx with
     |none=>(0<=lo.getD 0/\lo.getD 0<=hi.getD es.length/\hi.getD es.length<=es.length) /\
       (∀cs∈es,cs.length=(cx.T e).size)/\K (.slice .none ((es.take (hi.getD es.length).toNat).drop (lo.getD 0).toNat)) h
     |some m=>match d,hi with
      |some d,some hi=>match Hk cx.pl.arr d with
       |some _=>(0<=lo.getD 0/\lo.getD 0<=hi/\m=hi/\hi<=es.length)/\(∀cs∈es,cs.length=(cx.T e).size) /\
         K (.slice (.full (cx.T e).size) ((es.take hi.toNat).drop (lo.getD 0).toNat)) h
       |none=>match h d with
        |.free=>(0<=lo.getD 0/\lo.getD 0<=hi/\m=hi/\hi<=es.length)/\(∀cs∈es,cs.length=(cx.T e).size) /\
          K (.slice (.id d (cx.T e).size) ((es.take hi.toNat).drop (lo.getD 0).toNat)) (AJ h d (.tok (cx.T e).size (hi.toNat-(lo.getD 0).toNat)))
        |_=>False
      |_,_=>False
    |.v (.slice none 0 0)=>(lo.getD 0=0/\hi.getD 0=0/\mx.getD 0=0)/\(mx=none\/hi≠none)/\K (.v (.slice none 0 0)) h
    |.msl r n=>match h r with
     |.arr sz es=>match Nat.beq sz (cx.T e).size with
      |true=>(n=es.length/\0<=lo.getD 0/\lo.getD 0<=hi.getD es.length/\hi.getD es.length<=es.length/\(mx=none\/(mx=hi/\hi≠none))) /\
        K (.slice .none ((es.take (hi.getD es.length).toNat).drop (lo.getD 0).toNat)) (AJ h r .dead)
      |false=>False
     |_=>False
    |_=>False
  |_=>False
 |_,_,_=>False
def VJ(d:Option Nat)(h:Nat->HO)(ty:Nat)(x:AV)(lo:Option (Option Int))(hi mx:Option Operand)(K:HK):Prop:=
 match d,lo,hi,mx with
 |some d,some (some lo),none,none=>match(cx.T ty).d with
  |.slice e=>match(cx.T e).size with
   |0=>False
   |_+1=>match x with
    |.slice (.id r sz) es=>match h r with
     |.tok H9 n=>match h (KO cx d)with
      |.free=>match Nat.beq H9 sz,Nat.beq sz (cx.T e).size with
       |true,true=>(es.length=n/\0<=lo/\lo<=es.length)/\K (.slice (.id (KO cx d) sz) (es.drop lo.toNat)) (AJ (AJ h r .dead) (KO cx d) (.tok sz (es.drop lo.toNat).length))
       |_,_=>False
      |_=>False
     |_=>False
    |_=>False
  |_=>False
 |_,_,_,_=>False
def py(d:Option Nat)(h:Nat->HO)(ty:Nat)(x:AV)(hi:Option (Option Int))(K:HK):Prop:=
 match d,hi with
 |some d,some (some hi)=>match(cx.T ty).d with
  |.slice e=>match(cx.T e).size with
   |0=>False
   |_+1=>match x with
    |.msl r n=>match h r with
     |.arr sz es=>match h (KO cx d)with
      |.free=>match Nat.beq sz (cx.T e).size,Nat.blt r 10000000&&Nat.blt 0 (KO cx d)with
       |true,true=>(n=es.length/\0<=hi/\hi<=es.length)/\K (.msl (KO cx d) hi.toNat) (AJ (AJ h r .dead) (KO cx d) (.arr sz (es.take hi.toNat)))
       |_,_=>False
      |_=>False
     |_=>False
    |_=>False
  |_=>False
 |_,_=>False
def VA(d:Option Nat)(h:Nat->HO)(ty:Nat)(x:AV)(lo:Option Operand)(hi:Option (Option Int))(mx:Option Operand)(K:HK):Prop:=
 match lo,mx with
 |none,none=>py cx d h ty x hi K
 |_,_=>False
def dx(T:G4)(h:Nat->HO)(ty:Nat)(x:AV)(hi mx:Option Operand)(K:AV->Prop):Prop:=
 match hi,mx,(T ty).d,x with
 |none,none,.array n e,.ref r 0=>match(T e).size,h r with
  |1,.ro cs=>n=cs.length/\K (.slice .none (cs.map fun c=>[c]))
  |_,_=>False
 |_,_,_,_=>False
def pI(d:Option Nat)(h:Nat->HO)(ty:Nat)(x:AV)(t:Nat->AV)(lo hi mx:Option Operand)(K:HK):Prop:=
 match lo with
 |none=>match(cx.T ty).d with
  |.array _ _=>dx cx.T h ty x hi mx fun v=>K v h
  |_=>VA cx d h ty x none (CT t hi) mx K
 |some lo=>VJ cx d h ty x (CT t (some lo)) hi mx K
def unT:AV->AV
 |.slice _ es=>.slice .none es
 |a=>a
def PK(d:Option Nat)(h:Nat->HO)(x:AV)(K:HK):Prop:=
 match d with
 |none=>K x h
 |some d=>match Hk cx.pl.tok d with
  |some sz=>match Nat.beq sz 0 with
   |true=>K (unT x) h
   |false=>match x with
    |.v (.slice none 0 0)=>match h d with
     |.free=>K (.slice (.id d sz) []) (AJ h d (.tok sz 0))
     |_=>False
    |x=>K x h
  |none=>match Hk cx.pl.arr d with
   |some sz=>match x with
    |.v (.slice none 0 0)=>match h d with
     |.free=>K (.msl d 0) (AJ h d (.arr sz []))
     |_=>False
    |x=>K x h
   |none=>K x h
def sR(l:List AV)(n:Nat):Option AV:=
 match l with
 | []=>none
 |x::r=>match n with |0=>some x |n+1=>sR r n
def MM(i:Nat)(K:AV->Prop):Prop:=
 match x with
 |.tup vs=>match sR vs i with
  |some a=>K a
  |none=>False
 |_=>False
def Li:Prop:=
 match x with
 |.ref r o=>K (.ref r o)
 |.eref r n z i o=>K (.eref r n z i o)
 |.cptr cs=>K (.cptr cs)
 |.clo f cs=>K (.clo f cs)
 |.v (.func (.func f) a b)=>K (.v (.func (.func f) a b))
 |_=>False
def cq(c a b:AV)(K:AV->Prop):Prop:=
 match c with
 |.v (.bool true)=>K a
 |.v (.bool false)=>K b
 |_=>False
def sI(f:Int->Int->Int)(x y:AV)(K:AV->Prop):Prop:=
 match x,y with
 |.v (.int k a),.v (.int k' b)=>match yA k k' with
  |true=>K (.v (.int k (f a b)))
  |false=>False
 |_,_=>False
def Kb(d:Option Nat)(h:Nat->HO)(ty:Nat)(len cap:AV)(K:HK):Prop:=
 match(cx.T ty).d,len,cap with
 |.slice e,.v (.int .i64 n),.v (.int .i64 c)=>match Hj ((cx.T e).zc.map .v)with
  |true=>match Nat.beq (cx.T e).zc.length (cx.T e).size with
   |true=>match(cx.T e).size with
    |0=>False
    |_+1=>(0<=n/\n<=c/\c*(cx.T e).bytes<=140737488355328/\c<=9223372036854775807)/\Fe cx d h (cx.T e).size (List.replicate n.toNat ((cx.T e).zc.map .v)) K
   |false=>False
  |false=>False
 |_,_,_=>False
def cO(op:UnOp)(x:AV)(K:AV->Prop):Prop:=
 match op,x with
 |.not,x=>kU K x
 |.neg,.v (.int .i64 a)=>Au (-a)/\K (.v (.int .i64 (-a)))
 |.xor,.v (.int k a)=>K (.v (.int k (WS .xor k (if k.signed then -1 else k.max) a)))
 |_,_=>False
def Gi(d:Option Nat)(h:Nat->HO)(b:Builtin)(HA:List Nat)(args:List AV)(K:HK):Prop:=
 match b,args,HA with
 |.len,[x],[t]=>SG cx.T t h x fun v=>K v h
 |.append,[s,x],[t,t']=>match Nat.beq t t' with
  |true=>IT cx d h t s x K
  |false=>False
 |.max,[x,y],_=>sI max x y fun v=>K v h
 |.min,[x,y],_=>sI min x y fun v=>K v h
 |_,_,_=>False
def Gb(dr:Bool)(o:Oper)(st:St)(K:HK):Prop:=
 match o.op with
 |.move x=>K (ev st.t x) st.h
 |.assign x=>PK cx o.dst st.h (ev st.t x) K
 |.pick c a b=>cq (ev st.t c) (ev st.t a) (ev st.t b) fun v=>K v st.h
 |.alloc e=>TX cx.T o.dst st.h e K
 |.box e x=>js cx o.dst st.h e (ev st.t x) K
 |.build ty ps=>Rh cx.T ty st.t ps.toList fun v=>K v st.h
 |.buildSlice ty n ps=>I6 cx o.dst st.h ty n st.t ps.toList K
 |.insert ty m k x=>HL cx.T st.h ty (ev st.t m) (ev st.t k) (ev st.t x) K
 |.load ty x=>Ka cx.T st.h ty (ev st.t x) fun v=>K v st.h
 |.store ty p x=>Pu cx st.h ty (ev st.t p) (ev st.t x) K
 |.nilCheck x=>Li (ev st.t x) fun v=>K v st.h
 |.binOp op ty x y _=>ab cx.T op ty y (ev st.t x) (ev st.t y) fun v=>K v st.h
 |.unOp op _ x=>cO op (ev st.t x) fun v=>K v st.h
 |.convert s ty x=>match dr with
  |true=>W4 cx.T s ty (ev st.t x) fun v=>K v st.h
  |false=>dN cx o.dst st.h s ty (ev st.t x) K
 |.makeFunc fn first cap=>Ld st.t st.h fn first.toList cap.toList fun v=>K v st.h
 |.makeMap ty none=>Lg cx.T cx.pl.mku o.dst st.h ty K
 |.makeSlice ty n c=>Kb cx o.dst st.h ty (ev st.t n) (ev st.t c) K
 |.slice ty x lo hi mx=>match dr with
  |true=>match T1 cx.pl.tok o.dst with
   |none=>IQ cx o.dst st.h ty (ev st.t x) (CT st.t lo) (CT st.t hi) (CT st.t mx) K
   |some _=>VA cx o.dst st.h ty (ev st.t x) lo (CT st.t hi) mx K
  |false=>match T1 cx.pl.tok o.dst with
   |none=>IQ cx o.dst st.h ty (ev st.t x) (CT st.t lo) (CT st.t hi) (CT st.t mx) K
   |some _=>pI cx o.dst st.h ty (ev st.t x) st.t lo hi mx K
 |.fieldAddr s x f=>Ut cx.T s f (ev st.t x) fun v=>K v st.h
 |.field s x f=>Qd cx.T s f (ev st.t x) fun v=>K v st.h
 |.indexAddr ty x ix=>J8 cx.T ty (ev st.t x) (ev st.t ix) fun v=>K v st.h
 |.index ty x ix=>U0 cx.T ty (ev st.t x) (ev st.t ix) fun v=>K v st.h
 |.lookup ty x ix ok=>match dr with
  |true=>NL cx.T st.h ty (ev st.t x) (ev st.t ix) ok fun v=>K v st.h
  |false=>NM cx.T st.h ty (ev st.t x) (ev st.t ix) ok fun v=>K v st.h
 |.mapUpdate ty m k x=>HL cx.T st.h ty (ev st.t m) (ev st.t k) (ev st.t x) K
 |.range ty x=>match(cx.T ty).d with |.map _ _=>fP o.dst st.h (ev st.t x) K |_=>False
 |.next it false=>oT st.h (ev st.t it) K
 |.entry it=>dR st.h (ev st.t it) fun v=>K v st.h
 |.extract x i=>MM (ev st.t x) i fun v=>K v st.h
 |.call c=>match c.callee with
  |.builtin b=>Gi cx o.dst st.h b c.argTypes.toList (c.args.toList.map (ev st.t)) K
  |.value f=>GR cx dr o.dst st (ev st.t f) (c.args.toList.map (ev st.t)) K
  |_=>False
 |_=>False
def LZ(ops:List Oper)(j:Nat):Option Nat:=match ops with | []=>none | o::r=>match j with | 0=>o.dst | j+1=>LZ r j
def pz(o:Oper)(st:St):St:=
 match o.dst with
 |none=>st
 |some d=>match yO cx.pl.tz d with
  |some (r,k,j,sz)=>⟨st.t,tz1 st.h r k j sz⟩
  |none=>match vA cx.pl.fz d with
   | []=>st
   |l=>⟨st.t,Ql st.h l⟩
def akK(o:Oper)(st:St)(K:St->Prop):Prop:=
 match o.dst with
 |none=>K st
 |some d=>match Hk cx.pl.ak d with
  |none=>K st
  |some s=>match st.t s with
   |.msl r n=>match st.h r with
    |.arr sz es=>n=es.length/\K ⟨Kl st.t s (.slice (.id r sz) es),AJ st.h r (.tok sz es.length)⟩
    |_=>K st
   |_=>K st
def mg(dr:Bool)(o:Oper)(st:St)(K:St->Prop):Prop:=
 match dr with
 |true=>Gb cx true o st fun v h=>K (st.put o.dst v h)
 |false=>akK cx o (pz cx o st) fun EQ=>Gb cx false o EQ fun v h=>K (EQ.put o.dst v h)
def Ju(dr:Bool)(all:List Oper)(o:Oper)(st:St)(K:St->Prop):Prop:=
 match o.guard with
 |none=>mg cx dr o st K
 |some (j,want)=>match LZ all j with
  |none=>False
  |some d=>match st.t d,want with
   |.v (.bool true),true=>mg cx dr o st K
   |.v (.bool false),false=>mg cx dr o st K
   |.v (.bool true),false=>K (st.put o.dst (.v undef) st.h)
   |.v (.bool false),true=>K (st.put o.dst (.v undef) st.h)
   |.v (.tuple _),_=>K (st.put o.dst (.v undef) st.h)
   |_,_=>False
def bB(o2:Oper):Bool:=
 match o2.op with
 |.call c=>match c.callee with
  |.builtin .clear=>match o.op with
   |.slice ty _ (some _) none none=>match o.dst,o2.dst,c.args.toList,c.argTypes.toList,o.guard,o2.guard with
    |some d,none,[.tmp d'],[ty'],none,none=>Nat.beq d d'&&Nat.beq ty ty'
    |_,_,_,_,_,_=>false
   |_=>false
  |_=>false
 |_=>false
def zw(d:Nat)(st:St)(r i sz:Nat)(es:C0)(z:List Value)(K:St->Prop):Prop:=
 match z.all Value.oneCell' with
 |true=>K ⟨Kl st.t d .junk,AJ st.h r (.arr sz (es.take i++List.replicate (es.length-i) (z.map AV.v)))⟩
 |false=>False
def rm(o:Oper)(st:St)(K:St->Prop):Prop:=
 match o.op with
 |.slice ty x (some lo) none none=>match o.dst with
  |some d=>match(cx.T ty).d with
   |.slice e=>match ev st.t x with
    |.msl r n=>match ev st.t lo with
     |.v (.int .i64 i)=>match st.h r with
      |.arr sz es=>match Nat.beq sz (cx.T e).size with
       |true=>match(cx.T e).size with
        |0=>False
        |_+1=>match Nat.beq (cx.T e).zc.length sz with
         |true=>(n=es.length/\0<=i/\i<=es.length)/\zw d st r i.toNat sz es (cx.T e).zc K
         |false=>False
       |false=>False
      |_=>False
     |_=>False
    |_=>False
   |_=>False
  |none=>False
 |_=>False
def ZZ(cx:Cx)(all l:List Oper)(st:St)(K:St->Prop):Prop:=
 match l with
 | []=>K st
 | [o]=>Ju cx false all o st K
 |o::o2::r=>match bB o o2 with
  |true=>rm cx o st fun EQ=>ZZ cx all r EQ K
  |false=>Ju cx false all o st fun EQ=>ZZ cx all (o2::r) EQ K
def bm:AV->List Nat
 |.ref r _=>[r]
 |.mref r=>[r]
 |_=>[]
def sm:List AV->List Nat
 | []=>[]
 |a::r=>bm a++sm r
def YW:AV->List Nat
 |.agg cs=>sm cs
 |.clo _ cs=>sm cs
 |a=>bm a
def w6:List AV->List Nat
 | []=>[]
 |a::r=>YW a++w6 r
def bl:AV->List Nat
 |.agg cs=>w6 cs
 |a=>YW a
def UW:List AV->List Nat
 | []=>[]
 |a::r=>bl a++UW r
abbrev FH:=List Nat×Option Nat
def I9(d:Option Nat)(l:List Nat):Option FH:=match d with | some d=>some (d::l,some d) | none=>none
def kK:AV->List Nat
 |.msl r _=>[r]
 |_=>[]
def YC(d:Option Nat)(s x:AV):Option FH:=
 match s with
 |.v (.slice none 0 0)=>I9 (d.map (KO cx)) (kK x)
 |.slice (.full _) _=>I9 (d.map (KO cx)) (kK x)
 |.slice (.id r _) _=>I9 (some r) (kK x)
 |.msl r _=>I9 (some r) (kK x)
 |_=>none
def gK(d:Option Nat)(args:List AV):Option FH:=
 match d with
 |some d=>match args with
  |.msl r _::_=>some ([r,BJ d 0],some (r+10000000*BJ d 0))
  |_=>none
 |none=>none
theorem dV{d:Option Nat}{args:List AV}{f:FH}(h:gK d args=some f):∃d' r n l,d=some d'/\args=.msl r n::l/\f=([r,BJ d' 0],some (r+10000000*BJ d' 0)):=by
 unfold gK at h;split at h
 .split at h
  .cases h;exact⟨_,_,_,_,rfl,rfl,rfl⟩
  .cases h
 .cases h
def m6(d:Option Nat)(x:AV):Option FH:=
 match d with
 |some d=>match x with
  |.msl r _=>some ([r,d],some (r+10000000*d))
  |_=>none
 |none=>none
theorem dW{d:Option Nat}{x:AV}{f:FH}(h:m6 d x=some f):∃d' r n,d=some d'/\x=.msl r n/\f=([r,d'],some (r+10000000*d')):=by
 unfold m6 at h;split at h
 .split at h
  .cases h;exact⟨_,_,_,rfl,rfl,rfl⟩
  .cases h
 .cases h
def m7(args:List AV):Option FH:=match XX args with | some _=>some ([1000,1001],some 10010001000) | none=>none
def Ya:Nat:=99999999999999
def m5(k:Nat)(d:Option Nat)(args:List AV):Option FH:=
 match Nat.beq k 3 with
 |true=>some (rI,some Ya)
 |false=>gK d args
def Hw(d:Option Nat)(c:Callee)(t:Nat->AV)(args:List AV):Option FH:=
 match c,args with
 |.builtin .len,[.mref r]=>some ([r],none)
 |.builtin .len,[_]=>some ([],none)
 |.builtin .max,_=>some ([],none)
 |.builtin .min,_=>some ([],none)
 |.builtin .append,[s,x]=>YC cx d s x
 |.value f,args=>match T1 cx.pl.dc d with
  |none=>some (bl (ev t f)++UW args,none)
  |some 0=>I9 (d.map fun d=>BJ d 0) (bl (ev t f)++UW args)
  |some 1=>match args with |.msl r _::_=>some ([r],some r) |_=>none
  |some (k+2)=>match Nat.beq k 1 with
   |true=>I9 (d.map fun d=>BJ d 0) (bl (ev t f)++UW args)
   |false=>match Nat.beq k 2 with
    |true=>m7 args
    |false=>m5 k d args
 |_,_=>none
def Fq(o:Oper)(st:St):Option FH:=
 match o.op with
 |.move _ |.pick .. |.nilCheck _ |.unOp .. |.convert .. |.fieldAddr .. |.field .. |.indexAddr .. |.index .. |.extract .. |.build ..=>some ([],none)
 |.binOp _ _ x _ _=>match ev st.t x with |.slice ..=>none |_=>some ([],none)
 |.assign x=>match ev st.t x with |.v (.slice ..)=>none |_=>some ([],none)
 |.load _ p=>match ev st.t p with |.cptr _=>some ([],none) |.ref r _=>some ([r],none) |.eref r ..=>some ([r],none) |_=>none
 |.call c=>Hw cx o.dst c.callee st.t (c.args.toList.map (ev st.t))
 |.alloc e=>match Nat.beq e ac with |true=>none |false=>I9 o.dst []
 |.box _ x=>I9 o.dst (bl (ev st.t x))
 |.buildSlice _ _ ps=>I9 (o.dst.map (KO cx)) (UW (ps.toList.map fun p=>ev st.t p.2))
 |.store _ p x=>match ev st.t p with
  |.ref r _=>match Jm cx.pl.frz r with |true=>none |false=>I9 (some r) []
  |.eref r ..=>I9 (some r) (bl (ev st.t x))
  |_=>none
 |.slice _ x _ _ mx=>match T1 cx.pl.tok o.dst with
  |some _=>m6 (o.dst.map (KO cx)) (ev st.t x)
  |none=>match mx,ev st.t x with
   |none,.msl ..=>none
   |none,_=>some ([],none)
   |some _,.slice ..=>I9 o.dst []
   |_,_=>none
 |.makeFunc _ _ cap=>some (UW (cap.toList.map (ev st.t)),none)
 |.mapUpdate _ m _ x=>match ev st.t m with |.mref r=>I9 (some r) (bl (ev st.t x)) |_=>none
 |.makeSlice ..=>I9 (o.dst.map (KO cx)) []
 |.lookup _ m _ _=>match ev st.t m with |.cmap ..=>some ([],none) |.mref r=>some ([r],none) |_=>none
 |.makeMap ..=>I9 o.dst []
 |_=>none
def Ol(all:List Oper)(o:Oper)(st:St):Option FH:=
 match o.guard with
 |none=>Fq cx o st
 |some (j,want)=>match LZ all j with
  |none=>none
  |some d=>match st.t d,want with
   |.v (.bool true),true=>Fq cx o st
   |.v (.bool false),false=>Fq cx o st
   |_,_=>some ([],none)
def AaS(l:List Nat):Bool:=match l with | []=>true | _=>false
def cg(l:List Nat)(r:Nat):Bool:=bif Nat.beq r Ya then AaS l else !Jm l r&&(Nat.blt r 10000000||(!Jm l (r % 10000000)&&!Jm l (r / 10000000)))
def Um(a b:FH):Bool:=
 (match a.2 with | some r=>cg b.1 r | none=>true)&&(match b.2 with | some r=>cg a.1 r | none=>true)
def Qm(i:Nat)(D:List Nat):Bool:=o.after.toList.any fun e=>Region.binds .any e&&(Nat.beq e.on i||Jm D e.on)
def Ro(i:Nat)(D:List Nat)(k:Nat):List Oper->List Nat
 | []=>D
 |o::r=>match Qm o i D with
  |true=>Ro i (k::D) (k+1) r
  |false=>Ro i D (k+1) r
def V2(i:Nat)(D:List Nat)(k:Nat):List Oper->Bool
 | []=>true
 |o::r=>(Qm o i D||!Jm D k)&&V2 i D (k+1) r
def I5(ops:Array Oper)(oi:Oper)(fi:FH)(D:List Nat)(k:Nat):List Oper->List FH->Bool
 |o::r,f::fs=>(Jm D k||(oi.apart ops o&&Um fi f))&&I5 ops oi fi D (k+1) r fs
 | [],[]=>true
 |_,_=>false
def ML(ops:Array Oper)(all:List Oper)(k:Nat):List Oper->List FH->Bool
 |o::r,f::fs=>
  let D:=Ro k [] 0 all
  (o.after.toList.all fun e=>!Region.binds .any e||Nat.blt e.on k)&&V2 k D 0 all&&(D.all fun j=>Nat.blt k j&&Nat.blt j all.length)&&I5 ops o f D (k+1) r fs&&ML ops all (k+1) r fs
 | [],[]=>true
 |_,_=>false
def Un(ops:Array Oper)(fs:List FH):Bool:=Region.noSelect ops&&ML ops ops.toList 0 ops.toList fs
def ZX(cx:Cx)(ops:Array Oper)(l:List Oper)(fs:List FH)(st:St)(K:St->Prop):Prop:=
 match l with
 | []=>Un ops fs.reverse=true/\K st
 |o::r=>match Ol cx ops.toList o st with
  |some f=>Ju cx true ops.toList o st fun EQ=>ZX cx ops r (f::fs) EQ K
  |none=>False
def Ur(l:List (Nat×AV))(i:Nat):AV:=match l with | []=>.junk | (j,v)::r=>bif Nat.beq i j then v else Ur r i
structure LS where
 t:List (Nat×AV)
 h:List (Nat×HO)
 hb:Nat->HO
def LS.st(s:LS):St:=⟨Ur s.t,Ai s.h s.hb⟩
def Th(h:Nat->HO)(r:Nat):Bool:=match h r with | .free=>false | _=>true
def ids0(h:Nat->HO):AV->Bool
 |.slice (.id r _) _=>Th h r
 |.slice (.ver r _ _) _=>Th h r
 |.msl r _=>Th h r
 |.ref r _=>Th h r
 |.eref r _ _ _ _=>Th h r
 |.mref r=>Th h r
 |.agg _ |.tup _ |.clo ..=>false
 |_=>true
def bo(h:Nat->HO):List AV->Bool
 | []=>true
 |a::r=>match ids0 h a with |true=>bo h r |false=>false
def UX(h:Nat->HO):AV->Bool
 |.agg cs=>bo h cs
 |.tup cs=>bo h cs
 |.clo _ cs=>bo h cs
 |a=>ids0 h a
def SF(h:Nat->HO):List (Value×AV)->Bool
 | []=>true
 |p::r=>match UX h p.2 with |true=>SF h r |false=>false
def sn(h:Nat->HO):List AV->Bool
 | []=>true
 |a::r=>match UX h a with |true=>sn h r |false=>false
def bn(h:Nat->HO):HO->Bool
 |.cells cs=>sn h cs
 |.mapU _ BZ=>SF h BZ
 |.hol _ _ _ _ a=>UX h a
 |.bld x=>UX h x
 |_=>true
def leT(st:St)(h:Nat->HO):List (Nat×AV)->Prop
 | []=>True
 |(j,a)::r=>(st.t j=a/\UX h a=true)/\leT st h r
def leH(st:St)(h:Nat->HO):List (Nat×HO)->Prop
 | []=>True
 |(j,o)::r=>(st.h j=o/\bn h o=true)/\leH st h r
def St.le(st:St)(s:LS):Prop:=
 leT st s.st.h s.t/\leH st s.st.h s.h/\(∀j,s.hb j=.free\/(st.h j=s.hb j/\bn s.st.h (s.hb j)=true)) /\
 match cx.ext with
 |false=>True
 |true=>∀j,1000<=j->j<2000->st.h j≠.free->s.st.h j≠.free
def Nu(ops:Array Oper)(dr:Bool)(st:St)(K:St->Prop):Prop:=
 match dr with
 |false=>ZZ cx ops.toList ops.toList st K
 |true=>ZX cx ops ops.toList [] st K
inductive Ex | normal | exit (id:Nat) | ret
def azK(h:Nat->HO)(o k:Nat)(K:(Nat->HO)->Prop):Prop:=
 match h o with
 |.cells cs=>match Ke cs k with
  |.msl r n=>match h r with
   |.arr sz es=>n=es.length/\K (AJ (AJ h r (.tok sz es.length)) o (.cells (E2 cs k (.slice (.id r sz) es))))
   |_=>K h
  |_=>K h
 |_=>K h
def amK(h:Nat->HO)(o k j:Nat)(K:(Nat->HO)->Prop):Prop:=
 match h o with
 |.cells cs=>match Ke cs k with
  |.msl r n=>match h r with
   |.arr sz es=>match h j with
    |.free=>n=es.length/\K (AJ (AJ (AJ h r .dead) j (.arr sz es)) o (.cells (E2 cs k (.msl j n))))
    |_=>False
   |_=>False
  |_=>False
 |_=>False
def uvK(h:Nat->HO)(o k d:Nat)(K:(Nat->HO)->Prop):Prop:=
 match h o with
 |.cells cs=>match Ke cs k with
  |.slice (.ver r sz v) es=>match h r with
   |.var H9 v' _=>match h d with
    |.free=>(v=v'/\sz=H9)/\K (AJ (AJ (AJ h r (.vox v)) d (.tok sz es.length)) o (.cells (E2 cs k (.slice (.id d sz) es))))
    |_=>False
   |_=>False
  |_=>K h
 |_=>False
def rvK(h:Nat->HO)(o k r:Nat)(K:(Nat->HO)->Prop):Prop:=
 match h o with
 |.cells cs=>match Ke cs k with
  |.slice (.id d sz) es=>match h d with
   |.tok H9 n=>match h r with
    |.vox v=>(es.length=n/\sz=H9)/\K (AJ (AJ (AJ h d .dead) r (.var sz (v+1) n)) o (.cells (E2 cs k (.slice (.ver r sz (v+1)) es))))
    |_=>False
   |_=>False
  |_=>K h
 |_=>False
def nvK(h:Nat->HO)(r:Nat)(K:(Nat->HO)->Prop):Prop:=
 match h r with
 |.free=>K (AJ h r (.vox 0))
 |_=>False
def rmK(h:Nat->HO)(o k:Nat)(K:(Nat->HO)->Prop):Prop:=
 match h o with
 |.cells cs=>match Ke cs k with
  |.mref r=>match h r with
   |.rom sh BZ=>K (AJ h o (.cells (E2 cs k (.cmap sh BZ))))
   |_=>False
  |_=>False
 |_=>False
def zaK(h:Nat->HO)(o k j sz:Nat)(K:(Nat->HO)->Prop):Prop:=
 match h o with
 |.cells cs=>match Ke cs k with
  |.v (.slice none 0 0)=>match h j with
   |.free=>K (AJ (AJ h j (.arr sz [])) o (.cells (E2 cs k (.msl j 0))))
   |_=>False
  |_=>False
 |_=>False
def fz0(id:Nat)(h:Nat->HO)(K:(Nat->HO)->Prop):Prop:=
 match Hk cx.pl.ak (850000+id)with
 |some v=>K (ne h v)
 |none=>K h
def rm0(id:Nat)(h:Nat->HO)(K:(Nat->HO)->Prop):Prop:=
 match Hk cx.pl.ak (800000+id)with
 |some v=>rmK h (v % 10000) (v / 10000 % 100) K
 |none=>K h
def rm1(id:Nat)(h:Nat->HO)(K:(Nat->HO)->Prop):Prop:=
 match Hk cx.pl.ak (810000+id)with
 |some v=>rmK h (v % 10000) (v / 10000 % 100) K
 |none=>K h
def yE(id:Nat)(h:Nat->HO)(K:(Nat->HO)->Prop):Prop:=
 match Hk cx.pl.ak (900000+id)with
 |some v=>zaK h (v % 10000) (v / 10000 % 100) (v / 1000000 % 10000) (v / 10000000000) K
 |none=>K h
def hoK(h:Nat->HO)(r:Nat)(K:(Nat->HO)->Prop):Prop:=
 match h r with
 |.hol sz es i c (.msl j m)=>match Nat.beq r j with
  |true=>False
  |false=>match h j with
   |.arr iR qs=>m=qs.length/\∃cs,es[i]?=some cs/\c<sz/\K (AJ (AJ (AJ h j (.tok iR qs.length)) j .dead) r (.arr sz (es.set i (over cs c [.slice .none qs]))))
   |_=>False
 |_=>False
def xS(id:Nat)(h:Nat->HO)(K:(Nat->HO)->Prop):Prop:=
 match Hk cx.pl.ak (500000+id)with
 |some v=>uvK h (v % 10000) (v / 10000 % 100) (v / 1000000) K
 |none=>match Hk cx.pl.ak (600000+id)with
  |some v=>rvK h (v % 10000) (v / 10000 % 100) (v / 1000000) K
  |none=>match Hk cx.pl.ak (700000+id)with
   |some v=>nvK h v K
   |none=>match Hk cx.pl.ak (950000+id)with
    |some v=>hoK h v K
    |none=>fz0 cx id h fun h=>rm0 cx id h fun h=>rm1 cx id h fun h=>yE cx id h K
def asK(st:St)(s k:Nat)(K:St->Prop):Prop:=
 match st.t s with
 |.msl r n=>match st.h r with
  |.arr sz es=>match k with
   |0=>n=es.length/\K ⟨Kl st.t s (.slice .none es),AJ (AJ st.h r (.tok sz es.length)) r .dead⟩
   |k+1=>match Nat.beq r (k+1)with
    |true=>K st
    |false=>match st.h (k+1)with
     |.free=>n=es.length/\K ⟨Kl st.t s (.msl (k+1) n),AJ (AJ st.h r .dead) (k+1) (.arr sz es)⟩
     |_=>False
  |_=>K st
 |_=>K st
def zx(id:Nat)(st:St)(K:St->Prop):Prop:=
 match Jm cx.pl.cut id with
 |true=>match Hk cx.pl.ak (100000+id)with
  |none=>match Hk cx.pl.ak (200000+id)with
   |none=>match Hk cx.pl.ak (300000+id)with
    |none=>xS cx id st.h fun h'=>∃s:LS,St.le cx ⟨st.t,h'⟩ s/\K s.st
    |some v=>amK st.h (v % 10000) (v / 10000 % 100) (v / 1000000) fun h'=>∃s:LS,St.le cx ⟨st.t,h'⟩ s/\K s.st
   |some v=>asK st (v % 1000) (v / 1000) fun EQ=>∃s:LS,St.le cx EQ s/\K s.st
  |some v=>azK st.h (v % 1000) (v / 1000) fun h'=>∃s:LS,St.le cx ⟨st.t,h'⟩ s/\K s.st
 |false=>K st
def Rg(cx:Cx)(c:Code)(Q:Ex->St->Prop)(st:St):Prop:=
 match c with
 |.skip=>Q .normal st
 |.label _=>Q .normal st
 |.region id ops dr=>zx cx id st fun st=>match cx.pl.dyn with
  | []=>Nu cx ops dr st (Q .normal)
  |_=>∃n,Nu { cx with nid:=n } ops dr st (Q .normal)
 |.seq a b=>Rg cx a (fun e EQ=>match e with |.normal=>Rg cx b Q EQ |e=>Q e EQ) st
 |.cond c a b=>match ev st.t c with
  |.v (.bool true)=>Rg cx a Q st
  |.v (.bool false)=>Rg cx b Q st
  |_=>False
 |.block id c=>Rg cx c (fun e EQ=>match e with |.exit j=>(bif Nat.beq j id then Q .normal EQ else Q (.exit j) EQ) |e=>Q e EQ) st
 |.loop c=>∃(α:Type) (I:α->LS) (μ:α->Nat),(∃x,St.le cx st (I x)) /\
   ∀x,Rg cx c (fun e EQ=>match e with | .normal=>∃y,μ y<μ x/\St.le cx EQ (I y) | e=>Q e EQ) (I x).st
 |.exit id=>Q (.exit id) st
 |.ret=>Q .ret st
 |_=>False
def PZ:List AV->Nat->AV
 | [],_=>.v undef
 |a::r,n=>match n with |0=>a |n+1=>PZ r n
def s5(T:G4)(st:St):List ResultVar->(List AV->Prop)->Prop
 | [],K=>K []
 |.tmp i::r,K=>s5 T st r fun l=>K (str st.h (st.t i)::l)
 |.cell a t::r,K=>Ka T st.h t (st.t a) fun v=>s5 T st r fun l=>K (str st.h v::l)
def sY(st:St)(rs:List ResultVar)(K:AV->Prop):Prop:=
 s5 cx.T ⟨st.t,Ql st.h cx.pl.fin⟩ rs fun
  | [v]=>K v
  |vs=>K (.tup vs)
def wk(rs:List ResultVar)(K:AV->Prop)(e:Ex)(st:St):Prop:=
 match e with
 |.normal=>sY cx st rs K
 |.ret=>sY cx st rs K
 |.exit _=>False
def s7(T:G4)(st:St):List ResultVar->(List AV->Prop)->Prop
 | [],K=>K []
 |.tmp i::r,K=>s7 T st r fun l=>K (st.t i::l)
 |.cell a t::r,K=>Ka T st.h t (st.t a) fun v=>s7 T st r fun l=>K (v::l)
def la(st:St)(rs:List ResultVar)(σ:JD)(Q:AV->(Nat->HO)->Prop):Prop:=
 s7 cx.T ⟨st.t,Ql st.h cx.pl.fin⟩ rs fun
  | [v]=>Q (ren (CB σ) (Ql st.h cx.pl.fin) v) (FL σ (Ql st.h cx.pl.fin))
  |vs=>Q (ren (CB σ) (Ql st.h cx.pl.fin) (.tup vs)) (FL σ (Ql st.h cx.pl.fin))
def aA(rs:List ResultVar)(σ:JD)(Q:AV->(Nat->HO)->Prop)(e:Ex)(st:St):Prop:=
 match e with
 |.normal=>la cx st rs σ Q
 |.ret=>la cx st rs σ Q
 |.exit _=>False
def I8(σ:JD):List (Nat×HO)->Bool
 | []=>true
 |(i,_)::r=>Nat.ble 1000 i&&Nat.blt i 2000&&(match CB σ i with |some j=>Nat.beq j i |none=>false)&&I8 σ r
theorem yN{n m:Nat}{b:Prop}(k:b)(h:n <= m:=by exact Et rfl):n <= m /\ b:=⟨h,k⟩
abbrev BY:AV:=.v (.slice none 0 0)
abbrev pC(a c:List Nat):Ns:=⟨a,[],[],[],[],[],[],[],[],[],c⟩
abbrev pT(a:List Nat)(b:List (Nat×Nat))(c:List Nat):Ns:=⟨a,b,[],[],[],[],[],[],[],[],c⟩
end Go.Eng
