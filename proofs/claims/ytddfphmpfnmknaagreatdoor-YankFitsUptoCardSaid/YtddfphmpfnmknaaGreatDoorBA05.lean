/- Lemmas for the claims of this seat, without a condition: part 5 (EngA). -/
import Derived.Test.YtddfphmpfnmknaaGreatDoorBA00
import Derived.WalkKit
import Derived.Still
import Derived.RangeFuncSeq
import Derived.OrdersIn
import Derived.TacticsIn
namespace Go.Eng
inductive Tk | none | full (sz:Nat) | id (r sz:Nat) | ver (r sz v:Nat)
inductive KS | int (k:IntKind) | str | bool
structure EA where
 agg:Bool
 l:List KS
inductive AV
 |v (x:Value)
 |slice (tk:Tk) (es:List (List AV))
 |msl (r n:Nat)
 |agg (cs:List AV)
 |tup (vs:List AV)
 |cptr (cs:List AV)
 |ref (r off:Nat)
 |eref (r n sz i off:Nat)
 |mref (r:Nat)
 |cmap (sh:EA) (BU:List (Value×AV))
 |clo (f:Nat) (caps:List AV)
 |junk
inductive HO
 |free
 |dead
 |cells (cs:List AV)
 |ro (cs:List AV)
 |tok (sz n:Nat)
 |var (sz v n:Nat)
 |vox (v:Nat)
 |arr (sz:Nat) (es:List (List AV))
 |map (sh:EA) (BU:List (Value×AV))
 |mapU (sh:EA) (BU:List (Value×AV))
 |rom (sh:EA) (BU:List (Value×AV))
 |iter (all rem:List (Value×AV)) (Fq:Option (Value×AV))
 |raw (b:Nat) (ob:Obj)
 |hol (sz:Nat) (es:List (List AV)) (i c:Nat) (a:AV)
structure St where
 t:Nat→AV
 h:Nat→HO
def Aa:Nat→HO:=fun _=>.free
def AU(h:Nat→HO)(r:Nat)(o:HO):Nat→HO:=fun i=>bif Nat.beq i r then o else h i
def GT(t:Nat→AV)(d:Nat)(v:AV):Nat→AV:=fun i=>bif Nat.beq i d then v else t i
def St.put(st:St)(d:Option Nat)(v:AV)(h:Nat→HO):St :=
 match d with
 |none=>⟨st.t,h⟩
 |some d=>⟨GT st.t d v,h⟩
def ev(t:Nat→AV):Operand→AV
 |.tmp i=>t i
 |.const v=>.v v
 |.global g=>.v (.pointer (some ⟨g,0,none⟩))
 |.func f=>.v (.func (.func f) #[] #[])
inductive TD
 |int (k:IntKind) |bool |string |slice (e:Nat) |array (n e:Nat) |struct (fs:List (Nat×Nat)) |ptr (e:Nat) |map (k e:Nat) |func |iface |other
structure TI where
 d:TD
 size:Nat
 bytes:Nat
 zero:Value
 eqok:Bool
def TI.zc(i:TI):List Value:=match i.zero with | .agg cs=>cs.toList | v=>[v]
abbrev Gf:=Nat→TI
structure Rk where
 frz:List Nat
 tok:List (Nat×Nat)
 arr:List (Nat×Nat)
 fz:List (Nat×List Nat)
 fin:List Nat
 mku:List Nat
 dyn:List Nat
 tz:List (Nat×(Nat×Nat×Nat×Nat))
 dc:List (Nat×Nat)
 ak:List (Nat×Nat)
 cut:List Nat
def Iw(l:List Nat)(n:Nat):Bool :=
 match l with
 | []=>false
 |x::r=>bif Nat.beq x n then true else Iw r n
def Gq(l:List (Nat×Nat))(n:Nat):Option Nat :=
 match l with
 | []=>none
 |(x,y)::r=>bif Nat.beq x n then some y else Gq r n
def str0(h:Nat→HO):AV→AV
 |.slice _ es=>.slice .none es
 |.ref r off=>match h r with |.ro cs=>.cptr (cs.drop off) |_=>.junk
 |.mref r=>match h r with |.rom sh BU=>.cmap sh BU |_=>.junk
 |.v x=>.v x
 |.cptr cs=>.cptr cs
 |.cmap s m=>.cmap s m
 |_=>.junk
def str(h:Nat→HO):AV→AV
 |.agg cs=>.agg (cs.map (str0 h))
 |.clo f cs=>.clo f (cs.map (str0 h))
 |a=>str0 h a
def QK(h:Nat→HO)(BU:List (Value×AV)):List (Value×AV):=BU.map fun p=>(p.1,str h p.2)
def dO(h:Nat→HO)(r:Nat):Nat→HO :=
 match h r with
 |.cells cs=>AU h r (.ro (cs.map (str h)))
 |.map sh BU=>AU h r (.rom sh BU)
 |.mapU sh BU=>AU h r (.rom sh (QK h BU))
 |_=>h
def Oe(h:Nat→HO):List Nat→Nat→HO
 | []=>h
 |r::l=>Oe (dO h r) l
def lE(l:List (Nat×List Nat))(n:Nat):List Nat :=
 match l with
 | []=>[]
 |(x,y)::r=>bif Nat.beq x n then y else lE r n
def oy(l:List (Nat×(Nat×Nat×Nat×Nat)))(n:Nat):Option (Nat×Nat×Nat×Nat) :=
 match l with
 | []=>none
 |(x,y)::r=>bif Nat.beq x n then some y else oy r n
def IQ(l:List AV)(n:Nat):AV :=
 match l with
 | []=>.junk
 |x::r=>match n with |0=>x |n+1=>IQ r n
def Es(cs:List AV)(o:Nat)(v:AV):List AV :=
 match cs with
 | []=>[]
 |c::cs=>match o with |0=>v::cs |o+1=>c::Es cs o v
def r9(h:Nat→HO)(r k j sz:Nat):Nat→HO :=
 match h r with
 |.cells cs=>match IQ cs k with
  |.v (.slice none 0 0)=>match h j with
   |.free=>AU (AU h j (.tok sz 0)) r (.cells (Es cs k (.slice (.id j sz) [])))
   |_=>h
  |_=>h
 |_=>h
def rsv(h:Nat→HO):AV→AV
 |.ref r off=>match h r with |.ro cs=>.cptr (cs.drop off) |_=>.ref r off
 |.mref r=>match h r with |.rom sh BU=>.cmap sh BU |_=>.mref r
 |a=>a
def one:AV→Bool
 |.v x=>x.oneCell'
 |.agg _ |.tup _ |.junk=>false
 |_=>true
def GL:List AV→Bool
 | []=>true
 |a::r=>match one a with |true=>GL r |false=>false
def rn:AV→List AV
 |.agg cs=>cs
 |a=>[a]
def BM(a:Int):Prop:=-9223372036854775808≤a∧a<9223372036854775808
def LF(cs:List AV)(K:AV→Prop):Prop :=
 match cs with
 |a::_=>K a
 | []=>False
def IC(p:Prop)(K:AV→Prop):Prop:=(p→K (.v (.bool true)))∧(¬p→K (.v (.bool false)))
def K9(T:Gf)(t:Nat)(cs:List AV)(K:AV→Prop):Prop :=
 match(T t).d with
 |.struct _=>(T t).size≤cs.length∧K (.agg (cs.take (T t).size))
 |.array _ _=>(T t).size≤cs.length∧K (.agg (cs.take (T t).size))
 |.bool=>LF cs fun |.v (.bool b)=>(b=true→K (.v (.bool true)))∧(b=false→K (.v (.bool false))) |_=>False
 |.other=>False
 |_=>LF cs K
def kw:List AV→List AV→Prop
 | [],[]=>True
 |.v (.int _ a)::r,.v (.int _ b)::s=>a=b∧kw r s
 |.v (.string a)::r,.v (.string b)::s=>a=b∧kw r s
 |.v (.bool a)::r,.v (.bool b)::s=>a=b∧kw r s
 |_,_=>False
def og:IntKind→IntKind→Bool
 |.i64,.i64 |.u8,.u8 |.u32,.u32 |.i32,.i32 |.u64,.u64 |.u16,.u16 |.i16,.i16 |.i8,.i8=>true
 |_,_=>false
def M8(f:Nat→Option (List KS)):Nat→List (Nat×Nat)→Option (List KS)
 |_,[]=>some []
 |n,(t,o)::r=>match Nat.beq o n with
  |true=>match f t with
   |some a=>match M8 f (n+a.length) r with
    |some b=>some (a++b)
    |none=>none
   |none=>none
  |false=>none
def Hk(T:Gf):Nat→Nat→Option (List KS)
 |0,_=>none
 |n+1,t=>match(T t).d with
  |.int k=>match(T t).size with |1=>some [.int k] |_=>none
  |.string=>match(T t).size with |1=>some [.str] |_=>none
  |.bool=>match(T t).size with |1=>some [.bool] |_=>none
  |.struct fs=>match(T t).eqok with
   |true=>match M8 (Hk T n) 0 fs with
    |some l=>match Nat.beq l.length (T t).size with |true=>some l |false=>none
    |none=>none
   |false=>none
  |_=>none
def MP:KS→Value→Bool
 |.int k,.int k' _=>og k k'
 |.str,.string _=>true
 |.bool,.bool _=>true
 |_,_=>false
def Xe:List KS→List AV→Bool
 | [],[]=>true
 |k::r,.v x::s=>match MP k x with |true=>Xe r s |false=>false
 |_,_=>false
def nP(T:Gf)(t:Nat)(x y:AV)(K:AV→Prop):Prop :=
 match(T t).d with
 |.bool=>match x,y with
  |.v (.bool a),.v (.bool b)=>K (.v (.bool (a == b)))
  |_,_=>False
 |.struct _=>match x,y with
  |.agg xs,.agg ys=>match Hk T 8 t with
   |some l=>match Xe l xs with
    |true=>match Xe l ys with
     |true=>IC (kw xs ys) K
     |false=>False
    |false=>False
   |none=>False
  |_,_=>False
 |.slice _=>match x,y with
  |.slice _ es,.v (.slice none 0 0)=>(es≠[]→K (.v (.bool false)))∧(es=[]→K (.v (.bool true))∧K (.v (.bool false)))
  |.v (.slice none 0 0),.v (.slice none 0 0)=>K (.v (.bool true))
  |_,_=>False
 |.ptr _=>match x,y with
  |.v (.pointer none),.v (.pointer none)=>K (.v (.bool true))
  |.cptr _,.v (.pointer none)=>K (.v (.bool false))
  |.ref _ _,.v (.pointer none)=>K (.v (.bool false))
  |.eref _ _ _ _ _,.v (.pointer none)=>K (.v (.bool false))
  |_,_=>False
 |_=>False
def bJ(K:AV→Prop):AV→Prop
 |.v (.bool true)=>K (.v (.bool false))
 |.v (.bool false)=>K (.v (.bool true))
 |_=>False
def T8(op:BinOp)(k:IntKind)(a b:Int):Int :=
 match op with
 |.and=>k.wrap (BitVec.ofInt k.bits a &&& BitVec.ofInt k.bits b).toNat
 |.or=>k.wrap (BitVec.ofInt k.bits a |||BitVec.ofInt k.bits b).toNat
 |_=>k.wrap (BitVec.ofInt k.bits a ^^^ BitVec.ofInt k.bits b).toNat
def kj(op:BinOp)(k:IntKind)(a b:Int):Int :=
 match op with
 |.shl=>k.wrap (a*2 ^ min b.toNat k.bits)
 |_=>a.fdiv (2 ^ min b.toNat k.bits)
def Ta(op:BinOp)(k:IntKind)(a b:Int)(K:AV→Prop):Prop :=
 match op with
 |.shl=>0≤b∧K (.v (.int k (kj .shl k a b)))
 |.shr=>0≤b∧K (.v (.int k (kj .shr k a b)))
 |_=>False
def Vf(op:BinOp)(k:IntKind)(a b:Int)(K:AV→Prop):Prop :=
 match op with
 |.quo=>(0≤a∧0<b∧k.wrap (a / b)=a / b)∧K (.v (.int k (a / b)))
 |.rem=>(0≤a∧0<b)∧K (.v (.int k (a % b)))
 |.and=>K (.v (.int k (T8 .and k a b)))
 |.or=>K (.v (.int k (T8 .or k a b)))
 |.xor=>K (.v (.int k (T8 .xor k a b)))
 |.add=>K (.v (.int k (k.wrap (a+b))))
 |.sub=>K (.v (.int k (k.wrap (a-b))))
 |.mul=>K (.v (.int k (k.wrap (a*b))))
 |op=>Ta op k a b K
def Rp(op:BinOp)(k:IntKind)(a b:Int)(K:AV→Prop):Prop :=
 match k with
 |.i64=>match op with
  |.add=>BM (a+b)∧K (.v (.int .i64 (a+b)))
  |.sub=>BM (a-b)∧K (.v (.int .i64 (a-b)))
  |.mul=>BM (a*b)∧K (.v (.int .i64 (a*b)))
  |.quo=>(0≤a∧0<b∧BM a)∧K (.v (.int .i64 (a / b)))
  |.rem=>(0≤a∧0<b)∧K (.v (.int .i64 (a % b)))
  |op=>Vf op .i64 a b K
 |k=>Vf op k a b K
def Ru(T:Gf)(op:BinOp)(t:Nat)(x y:AV)(K:AV→Prop):Prop :=
 match x,y with
 |.v (.int k a),.v (.int k' b)=>match og k k' with
  |false=>Ta op k a b K
  |true=>match op with
   |.eql=>IC (a=b) K
   |.neq=>IC (a≠b) K
   |.lss=>IC (a<b) K
   |.leq=>IC (a≤b) K
   |.gtr=>IC (b<a) K
   |.geq=>IC (b≤a) K
   |op=>Rp op k a b K
 |.v (.string a),.v (.string b)=>match op with
   |.eql=>IC (a=b) K
   |.neq=>IC (a≠b) K
   |.lss=>IC (Op.bytesLess a.toList b.toList=true) K
   |.geq=>IC (Op.bytesLess a.toList b.toList=false) K
   |.gtr=>IC (Op.bytesLess b.toList a.toList=true) K
   |.leq=>IC (Op.bytesLess b.toList a.toList=false) K
   |.add=>((a.size+b.size:Nat):Int)≤9223372036854775807∧K (.v (.string (a++b)))
   |_=>False
 |x,y=>match op with
  |.eql=>nP T t x y K
  |.neq=>nP T t x y (bJ K)
  |_=>False
def Wu(T:Gf)(op:BinOp)(t:Nat)(Y:Operand)(x y:AV)(K:AV→Prop):Prop :=
 match Y with
 |.const .nilIface=>match x with
  |.v .nilIface=>match(T t).d with
   |.iface=>match op with
    |.eql=>K (.v (.bool true))
    |.neq=>K (.v (.bool false))
    |_=>False
   |_=>False
  |_=>False
 |_=>Ru T op t x y K
def WB(T:Gf)(s t:Nat)(x:AV)(K:AV→Prop):Prop :=
 match(T s).d,(T t).d,x with
 |.int _,.int .i64,.v (.int _ n)=>BM n∧K (.v (.int .i64 n))
 |.int _,.int k,.v (.int _ n)=>K (.v (.int k (k.wrap n)))
 |.string,.string,.v (.string s)=>K (.v (.string s))
 |.slice e,.string,.slice _ es=>match(T e).d with
  |.int .u8=>∃l:List UInt8,es=l.map (fun b=>[AV.v (.int .u8 b.toNat)])∧K (.v (.string ⟨l.toArray⟩))
  |_=>False
 |_,_,_=>False
def Vu(fs:List (Nat×Nat))(n:Nat):Option (Nat×Nat) :=
 match fs with
 | []=>none
 |x::r=>match n with |0=>some x |n+1=>Vu r n
def RL(T:Gf)(s f:Nat)(x:AV)(K:AV→Prop):Prop :=
 match(T s).d with
 |.struct fs=>match Vu fs f with
  |some (t,o)=>match(T t).size with
   |0=>False
   |_+1=>match x with
    |.cptr cs=>K (.cptr (cs.drop o))
    |.ref r off=>K (.ref r (off+o))
    |.eref r n z i off=>K (.eref r n z i (off+o))
    |_=>False
  |none=>False
 |_=>False
def XD(T:Gf)(t:Nat)(cs:List AV)(K:AV→Prop):Prop:=K9 T t cs K
def N4(T:Gf)(s f:Nat)(x:AV)(K:AV→Prop):Prop :=
 match(T s).d,x with
 |.struct fs,.agg cs=>match Vu fs f with
  |some (t,o)=>XD T t (cs.drop o) K
  |none=>False
 |_,_=>False
def I8(T:Gf)(t:Nat)(x ix:AV)(K:AV→Prop):Prop :=
 match(T t).d,ix with
 |.slice e,.v (.int .i64 i)=>match(T e).size with
  |0=>False
  |_+1=>match x with
   |.slice _ es=>∃cs,(0≤i∧es[i.toNat]?=some cs)∧cs.length=(T e).size∧K (.cptr cs)
   |.msl r n=>(0≤i∧i<n)∧K (.eref r n (T e).size i.toNat 0)
   |_=>False
 |.array n e,.v (.int .i64 i)=>match(T e).size with
  |0=>False
  |_+1=>match x with
   |.cptr cs=>(0≤i∧i<n)∧K (.cptr (cs.drop (i.toNat*(T e).size)))
   |.ref r off=>(0≤i∧i<n)∧K (.ref r (off+i.toNat*(T e).size))
   |_=>False
 |_,_=>False
def So(T:Gf)(t:Nat)(x ix:AV)(K:AV→Prop):Prop :=
 match(T t).d,x,ix with
 |.string,.v (.string s),.v (.int .i64 i)=>∃b:UInt8,(0≤i∧s.data[i.toNat]?=some b)∧K (.v (.int .u8 b.toNat))
 |.array n e,.agg cs,.v (.int .i64 i)=>(0≤i∧i<n)∧XD T e (cs.drop (i.toNat*(T e).size)) K
 |_,_,_=>False
def BY(t:Nat→AV):Option Operand→Option (Option Int)
 |none=>some none
 |some x=>match ev t x with |.v (.int .i64 i)=>some (some i) |_=>none
def over{α:Type}(cs:List α)(o:Nat)(vs:List α):List α :=
 match cs with
 | []=>[]
 |c::cs=>match o with
  |o+1=>c::over cs o vs
  |0=>match vs with
   | []=>c::cs
   |v::vs=>v::over cs 0 vs
structure Gh where
 ρ:Nat→Value
 ln:Nat→Nat
 tk:Nat→Bool
 own:Nat→Option Nat
 S:Nat→Nat→Prop
def IT:List KS→List Value→Bool
 | [],[]=>true
 |k::r,v::s=>match MP k v with |true=>IT r s |false=>false
 |_,_=>false
def UP(sh:EA)(v:Value):Bool :=
 match sh.agg,v with
 |true,.agg cs=>IT sh.l cs.toList
 |false,v=>IT sh.l [v]
 |_,_=>false
def GW(sh:EA)(es:Array MapEntry)(ck:Nat)(BU:List (Value×AV)):Prop :=
 es.size=BU.length∧(∀(i:Nat) (kv:Value×AV) (e:MapEntry),BU[i]?=some kv→es[i]?=some e→e.key=kv.1) ∧
 (∀kv∈BU,UP sh kv.1=true)∧(BU.map (·.1)).Nodup∧(∀(i:Nat) (e:MapEntry),es[i]?=some e→e.born<ck) ∧
 ∀(i j:Nat) (e e' : MapEntry),es[i]?=some e→es[j]?=some e'→e.born=e'.born→i=j
inductive BC(g:Gh)(w:World):(Nat→Prop)→AV→Value→Prop
 |v (U:Nat→Prop) (x:Value):BC g w U (.v x) x
 |junk (U:Nat→Prop) (x:Value):BC g w U .junk x
 |snil (U:Nat→Prop) (a:Option Addr) (cap:Nat):BC g w U (.slice .none []) (.slice a 0 cap)
 |slice (U:Nat→Prop) (es:List (List AV)) (b off sz cap:Nat) (val:Nat→Nat→Value) (hc:es.length≤cap)
   (hl:∀(i:Nat) (cs:List AV),es[i]?=some cs→cs.length=sz)
   (Du:∀(i:Nat) (cs:List AV) (j:Nat) (av:AV),es[i]?=some cs→cs[j]?=some av →
    g.S b (off+i*sz+j)∧w.cell? ⟨b,off+i*sz+j,none⟩=some (val i j)∧(val i j).oneCell'=true)
   (D8:∀(i:Nat) (cs:List AV) (j:Nat) (av:AV),es[i]?=some cs→cs[j]?=some av→BC g w (fun _=>False) av (val i j)) :
   BC g w U (.slice .none es) (.slice (some ⟨b,off,none⟩) es.length cap)
 |tok (U:Nat→Prop) (r sz:Nat) (es:List (List AV)) (x:Value) (h:BC g w U (.slice .none es) x) (hl:∀c∈es,c.length=sz) (hu:U r) (ht:g.tk r=true) (hn:es.length≤g.ln r)
   (hx:es.length=g.ln r→x=g.ρ r):BC g w U (.slice (.id r sz) es) x
 |ver (U:Nat→Prop) (r sz v:Nat) (es:List (List AV)) (x:Value) (h:BC g w U (.slice .none es) x) (hl:∀c∈es,c.length=sz) (hu:U r) (ht:g.tk r=true) (hn:v≤g.ln r)
   (hx:v=g.ln r→x=g.ρ r):BC g w U (.slice (.ver r sz v) es) x
 |full (U:Nat→Prop) (sz:Nat) (es:List (List AV)) (x:Value) (h:BC g w U (.slice .none es) x) (hl:∀c∈es,c.length=sz) (hx:∃a,x=.slice a es.length es.length):BC g w U (.slice (.full sz) es) x
 |msl (U:Nat→Prop) (r n:Nat) (a:Option Addr) (cap:Nat) (hu:U r) (ht:g.tk r=true) (hn:n≤g.ln r) (ha:n=0∨∃b,a=some ⟨b,0,none⟩) (hx:n=g.ln r→.slice a n cap=g.ρ r) :
   BC g w U (.msl r n) (.slice a n cap)
 |agg (U:Nat→Prop) (cs:List AV) (vs:Array Value) (hs:vs.size=cs.length) (h1:∀(i:Nat) (x:Value),vs[i]?=some x→x.oneCell'=true)
   (h:∀(i:Nat) (av:AV) (x:Value),cs[i]?=some av→vs[i]?=some x→BC g w U av x):BC g w U (.agg cs) (.agg vs)
 |tup (U:Nat→Prop) (cs:List AV) (vs:Array Value) (hs:vs.size=cs.length)
   (h:∀(i:Nat) (av:AV) (x:Value),cs[i]?=some av→vs[i]?=some x→BC g w U av x):BC g w U (.tup cs) (.tuple vs)
 |cptr (U:Nat→Prop) (cs:List AV) (b off:Nat) (val:Nat→Value)
   (Du:∀(j:Nat) (av:AV),cs[j]?=some av→g.S b (off+j)∧w.cell? ⟨b,off+j,none⟩=some (val j)∧(val j).oneCell'=true)
   (D8:∀(j:Nat) (av:AV),cs[j]?=some av→BC g w (fun _=>False) av (val j)) :
   BC g w U (.cptr cs) (.pointer (some ⟨b,off,none⟩))
 |ref (U:Nat→Prop) (r off b:Nat) (hu:U r) (ht:g.tk r=false) (hx:g.ρ r=.pointer (some ⟨b,0,none⟩)):BC g w U (.ref r off) (.pointer (some ⟨b,off,none⟩))
 |eref (U:Nat→Prop) (r n sz i off b cap:Nat) (hu:U r) (ht:g.tk r=true) (hn:i<n∧n≤g.ln r) (hx:n=g.ln r→g.ρ r=.slice (some ⟨b,0,none⟩) n cap) :
   BC g w U (.eref r n sz i off) (.pointer (some ⟨b,i*sz+off,none⟩))
 |mref (U:Nat→Prop) (r b:Nat) (hu:U r) (ht:g.tk r=false) (hx:g.ρ r=.map (some b)):BC g w U (.mref r) (.map (some b))
 |cmap (U:Nat→Prop) (sh:EA) (BU:List (Value×AV)) (b:Nat) (es:Array MapEntry) (ck:Nat) (hS:g.S b 0) (hb:w.heap[b]?=some (.map es ck)) (hm:GW sh es ck BU)
   (h:∀(i:Nat) (kv:Value×AV) (e:MapEntry),BU[i]?=some kv→es[i]?=some e→BC g w (fun _=>False) kv.2 e.val):BC g w U (.cmap sh BU) (.map (some b))
 |clo (U:Nat→Prop) (f:Nat) (cs:List AV) (vs:Array Value) (hs:vs.size=cs.length)
   (h:∀(i:Nat) (av:AV) (x:Value),cs[i]?=some av→vs[i]?=some x→BC g w U av x):BC g w U (.clo f cs) (.func (.func f) #[] vs)
def HO.live:HO→Prop
 |.free |.dead |.vox _ |.ro _ |.rom _ _=>False
 |_=>True
def AQ(h:Nat→HO)(r:Nat):Prop:=h r≠.free
def E8:Nat→Prop:=fun _=>False
def Cu(g:Gh)(w:World)(U:Nat→Prop)(cs:List AV)(vs:List Value):Prop :=
 vs.length=cs.length∧(∀x∈vs,x.oneCell'=true)∧∀(i:Nat) (av:AV) (x:Value),cs[i]?=some av→vs[i]?=some x→BC g w U av x
def NR:List Nat→Code→Bool
 |bs,.block id c=>NR (id::bs) c
 |bs,.seq a b=>NR bs a||NR bs b
 |bs,.cond _ a b=>NR bs a||NR bs b
 |bs,.loop c=>NR bs c
 |bs,.exit id=>!(bs.any fun i=>Nat.beq i id)
 |_,_=>false
def oF:Obj→Bool
 |.loop r=>NR [] r.body
 |_=>false
def D1(g:Gh)(w:World)(U:Nat→Prop)(r:Nat):HO→Prop
  |.free |.dead=>True
  |.cells cs=>g.tk r=false∧∃b E vs,g.own r=some b∧g.ρ r=.pointer (some ⟨b,0,none⟩)∧w.heap[b]?=some (.cells vs E (0,0))∧Cu g w U cs vs.toList∧∀o,¬g.S b o
  |.ro cs=>g.tk r=false∧∃b,g.ρ r=.pointer (some ⟨b,0,none⟩)∧BC g w E8 (.cptr cs) (.pointer (some ⟨b,0,none⟩))
  |.tok sz n=>g.tk r=true∧g.ln r=n∧∃a cap,g.ρ r=.slice a n cap∧(n=cap∧g.own r=none ∨
      n≤cap∧∃b E vs off,a=some ⟨b,off,none⟩∧g.own r=some b∧w.heap[b]?=some (.cells vs E (0,0))∧vs.size=off+cap*sz∧∀o,g.S b o→o<off+n*sz)
  |.var sz v n=>g.tk r=true∧g.ln r=v∧∃a cap,g.ρ r=.slice a n cap∧(n=cap∧g.own r=none ∨
      n≤cap∧∃b E vs off,a=some ⟨b,off,none⟩∧g.own r=some b∧w.heap[b]?=some (.cells vs E (0,0))∧vs.size=off+cap*sz∧∀o,g.S b o→o<off+n*sz)
  |.vox v=>g.tk r=true∧g.ln r=v
  |.arr sz es=>g.tk r=true∧g.ln r=es.length∧(∀cs∈es,cs.length=sz)∧(es=[]∧g.ρ r=.slice none 0 0∧g.own r=none ∨
      ∃b cap E vs,g.ρ r=.slice (some ⟨b,0,none⟩) es.length cap∧g.own r=some b∧es.length≤cap∧w.heap[b]?=some (.cells vs E (0,0))∧vs.size=cap*sz ∧
        Cu g w E8 es.flatten (vs.toList.take (es.length*sz))∧∀o,¬g.S b o)
  |.map sh BU=>g.tk r=false∧∃b es ck,g.own r=some b∧g.ρ r=.map (some b)∧w.heap[b]?=some (.map es ck)∧GW sh es ck BU ∧
      (∀(i:Nat) (kv:Value×AV) (e:MapEntry),BU[i]?=some kv→es[i]?=some e→BC g w E8 kv.2 e.val)∧∀o,¬g.S b o
  |.mapU sh BU=>g.tk r=false∧∃b es ck,g.own r=some b∧g.ρ r=.map (some b)∧w.heap[b]?=some (.map es ck)∧GW sh es ck BU ∧
      (∀(i:Nat) (kv:Value×AV) (e:MapEntry),BU[i]?=some kv→es[i]?=some e→BC g w U kv.2 e.val)∧∀o,¬g.S b o
  |.rom sh BU=>g.tk r=false∧∃b,g.ρ r=.map (some b)∧BC g w E8 (.cmap sh BU) (.map (some b))
  |.iter all rem Fq=>g.tk r=false∧∃b mb JF seen st es ck,g.own r=some b∧g.ρ r=.pointer (some ⟨b,0,none⟩)∧w.heap[b]?=some (.mapIter (some mb) JF seen st) ∧
      g.S mb 0∧w.heap[mb]?=some (.map es ck)∧(∃sh,GW sh es ck all)∧JF=ck∧st=ck ∧
      (∀(i:Nat) (kv:Value×AV) (e:MapEntry),all[i]?=some kv→es[i]?=some e→BC g w E8 kv.2 e.val) ∧
      (rem.Nodup∧∀kv∈rem,kv∈all)∧(∀(i:Nat) (kv:Value×AV) (e:MapEntry),all[i]?=some kv→es[i]?=some e→(kv∈rem↔e.born∉seen)) ∧
      (match Fq with | none=>True | some kv=>∃(i:Nat) (e:MapEntry),all[i]?=some kv∧es[i]?=some e∧seen.back?=some e.born)∧∀o,¬g.S b o
  |.hol sz es i c a=>g.tk r=true∧g.ln r=es.length∧(∀cs∈es,cs.length=sz)∧∃b cap E vs,g.ρ r=.slice (some ⟨b,0,none⟩) es.length cap∧g.own r=some b∧es.length≤cap∧w.heap[b]?=some (.cells vs E (0,0))∧vs.size=cap*sz ∧
        Cu g w E8 es.flatten (vs.toList.take (es.length*sz))∧(∀o,¬g.S b o)∧i*sz+c<es.length*sz∧∃x,vs[i*sz+c]?=some x∧BC g w U a x
  |.raw b ob=>g.tk r=false∧g.own r=some b∧w.heap[b]?=some ob∧oF ob=true∧∀o,¬g.S b o
def gB:Nat:=0
def o9:List (Nat×Nat×Option Value):=[]
def U5(g:Gh)(w:World):Prop:=(g.S gB 0∧∃m,w.cell? ⟨gB,0,none⟩=some (.int .i64 m))∧∀x∈o9,g.S x.1 x.2.1∧w.cell? ⟨x.1,x.2.1,none⟩=x.2.2
structure Dz(w0:World)(g0:Gh)(h0:Nat→HO)(h:Nat→HO)(g:Gh)(w:World):Prop where
 os:w.os=w0.os
 tape:w.tape=w0.tape
 output:w.output=w0.output
 size:w0.heap.size≤w.heap.size
 frame:∀b,b<w0.heap.size→(∀r,(h0 r).live→g0.own r≠some b)→w.heap[b]?=w0.heap[b]?
 slt:∀b o,g.S b o→b<w.heap.size
 objs:∀r,D1 g w (AQ h) r (h r)
 inj:∀r r' b,(h r).live→(h r').live→g.own r=some b→g.own r'=some b→r=r'
 loc:∀r b,(h r).live→g.own r=some b→b<w.heap.size∧(w0.heap.size≤b∨∃r',(h0 r').live∧g0.own r'=some b)
 sg:∀b o,g.S b o→g0.S b o∨w0.heap.size≤b∨∃r',(h0 r').live∧g0.own r'=some b
 glob:U5 g w
def Ey(g:Gh)(w:World)(g' : Gh)(w' : World):Prop :=
 ∀b o,g.S b o→g'.S b o∧w'.cell? ⟨b,o,none⟩=w.cell? ⟨b,o,none⟩∧∀es ck,w.heap[b]?=some (.map es ck)→w'.heap[b]?=some (.map es ck)
def JI(g g' : Gh)(U:Nat→Prop):Prop :=
 ∀i,U i→g'.tk i=g.tk i∧g.ln i≤g'.ln i∧(g.tk i=false→g'.ρ i=g.ρ i)∧(g'.ln i=g.ln i→g'.ρ i=g.ρ i)
structure Le(h:Nat→HO)(g:Gh)(w:World)(h' : Nat→HO)(g' : Gh)(w' : World):Prop where
 gh:JI g g' (AQ h)
 us:∀i,AQ h i→AQ h' i
 keeps:Ey g w g' w'
def FS (P : Program) (f : Nat) : Prop := ∃ fn, P.funcs[f]? = some fn ∧ (fn.name == "runtime.NumGoroutine") = false ∧ fn.body.isNone = false
def A3(P:Program)(f:Nat)(args:List AV)(h0:Nat→HO)(Q:AV→(Nat→HO)→Prop):Prop :=
 FS P f∧∀(g:Gh) (w:World) (vals:Array Value),vals.size=args.length→(∀(i:Nat) (av:AV) (x:Value),args[i]?=some av→vals[i]?=some x→BC g w (AQ h0) av x) →
  Dz w g h0 h0 g w →
  Calls P f vals w fun e w'=>∃v r h' g',e=.returned v∧Q r h'∧BC g' w' (AQ h') r v∧Dz w g h0 h' g' w'∧Le h0 g w h' g' w'
def IZ(P:Program)(f:Nat)(args:List AV)(res:AV):Prop:=A3 P f args Aa fun r h'=>r=res∧h'=Aa
def IA(P:Program)(Y:Gh→World→Prop)(l:Nat)(args:List AV)(h0:Nat→HO)(Q:AV→(Nat→HO)→Prop):Prop :=
 ∀(g:Gh) (w:World) (vals:Array Value),vals.size=args.length→(∀(i:Nat) (av:AV) (x:Value),args[i]?=some av→vals[i]?=some x→BC g w (AQ h0) av x) →
  Dz w g h0 h0 g w→Y g w →
  YieldAt Fence.wide 0 P l vals w fun e w'=>∃v r h' g',e=.returned v∧Q r h'∧BC g' w' (AQ h') r v∧Dz w g h0 h' g' w'∧Le h0 g w h' g' w'
def lm(P:Program)(Y:Gh→World→Prop)(f:Nat)(args:List AV)(h0:Nat→HO)(Q:AV→(Nat→HO)→Prop):Prop :=
 FS P f∧∀(g:Gh) (w:World) (vals:Array Value),vals.size=args.length→(∀(i:Nat) (av:AV) (x:Value),args[i]?=some av→vals[i]?=some x→BC g w (AQ h0) av x) →
  Dz w g h0 h0 g w→Y g w →
  Calls P f vals w fun e w'=>∃v r h' g',e=.returned v∧Q r h'∧BC g' w' (AQ h') r v∧Dz w g h0 h' g' w'∧Le h0 g w h' g' w'
def FR(P:Program)(Y:Nat→Gh→World→Prop)(F:AV)(args:List AV)(h:Nat→HO)(Q:AV→(Nat→HO)→Prop):Prop :=
 match F with
 |.v (.func (.func f) ⟨[]⟩ ⟨[]⟩)=>A3 P f args h Q
 |.clo f caps=>A3 P f (args++caps) h Q
 |.v (.func (.yield l) ⟨[]⟩ ⟨[]⟩)=>IA P (Y l) l args h Q
 |_=>False
def OQ(P:Program)(F:AV)(args:List AV)(res:AV):Prop :=
 match F with
 |.v (.func (.func f) ⟨[]⟩ ⟨[]⟩)=>IZ P f args res
 |.clo f caps=>IZ P f (args++caps) res
 |_=>False
structure Cx where
 P:Program
 T:Gf
 pl:Rk
 ext:Bool
 nid:Nat
 yp:Nat→List (Nat×Nat)→Gh→World→Prop
def Kf(cx:Cx)(d:Nat):Nat:=bif Iw cx.pl.dyn d then cx.nid else d
abbrev HK:=AV→(Nat→HO)→Prop
def Rn(T:Gf)(d:Option Nat)(h:Nat→HO)(e:Nat)(K:HK):Prop :=
 match d with
 |none=>False
 |some d=>match h d with
  |.free=>match(T e).d with
   |.other=>False
   |_=>match GL ((T e).zc.map .v)with
    |true=>K (.ref d 0) (AU h d (.cells ((T e).zc.map .v)))
    |false=>False
  |_=>False
def GN(n:Nat)(a:AV)(K:List AV→Prop):Prop :=
 match a with
 |.agg cs=>match Nat.beq cs.length n with
  |true=>K cs
  |false=>False
 |a=>match one a with
  |true=>match n with
   |1=>K [a]
   |_=>False
  |false=>False
def aA(cx:Cx)(d:Option Nat)(h:Nat→HO)(e:Nat)(x:AV)(K:HK):Prop :=
 match d with
 |none=>False
 |some d=>match h d with
  |.free=>match(cx.T e).d with
   |.other=>False
   |_=>GN (cx.T e).size x fun cs=>match Iw cx.pl.frz d with
    |true=>K (.ref d 0) (AU h d (.ro (cs.map (str h))))
    |false=>K (.ref d 0) (AU h d (.cells cs))
  |_=>False
def NA(cx:Cx)(h:Nat→HO)(t:Nat)(p x:AV)(K:HK):Prop :=
 match(cx.T t).d with
 |.other=>False
 |_=>GN (cx.T t).size x fun vs=>match p with
  |.ref r off=>match h r with
   |.cells cs=>off+vs.length≤cs.length∧(match Iw cx.pl.frz r with
    |true=>K (.v undef) (AU h r (.ro ((over cs off vs).map (str h))))
    |false=>K (.v undef) (AU h r (.cells (over cs off vs))))
   |_=>False
  |.eref r n sz i off=>match h r with
   |.arr Gc es=>match Nat.beq sz Gc with
    |true=>n=es.length∧∃cs,es[i]?=some cs∧off+vs.length≤sz∧(match vs with
     | [.msl j m]=>K (.v undef) (AU h r (.hol sz (es.set i (over cs off [.junk])) i off (.msl j m)))
     |_=>K (.v undef) (AU h r (.arr sz (es.set i (over cs off (vs.map (str h)))))))
    |false=>False
   |_=>False
  |_=>False
def HW(T:Gf)(h:Nat→HO)(t:Nat)(p:AV)(K:AV→Prop):Prop :=
 match p with
 |.cptr cs=>K9 T t cs K
 |.ref r off=>match h r with
  |.cells cs=>K9 T t (cs.drop off) K
  |.ro cs=>K9 T t (cs.drop off) K
  |_=>False
 |.eref r n sz i off=>match h r with
  |.arr Gc es=>match Nat.beq sz Gc with
   |true=>n=es.length∧∃cs,es[i]?=some cs∧K9 T t (cs.drop off) K
   |false=>False
  |.hol Gc es i' c a=>match Nat.beq sz Gc with
   |true=>(n=es.length∧i=i'∧off=c)∧K9 T t [a] K
   |false=>False
  |_=>False
 |_=>False
def Kh(pl:Nat→Option (Nat×Nat))(cs:List AV)(t:Nat→AV)(ps:List (Nat×Operand))(K:List AV→Prop):Prop :=
 match ps with
 | []=>K cs
 |(i,x)::r=>match pl i with
  |none=>False
  |some (o,n)=>GN n (ev t x) fun vs=>match Nat.ble (o+n) cs.length with
   |true=>Kh pl (over cs o vs) t r K
   |false=>False
def NM(T:Gf):List (Nat×Nat)→Bool
 | []=>true
 |(t,_)::r=>match(T t).size with |0=>false |_+1=>NM T r
def OW(T:Gf)(ty:Nat)(t:Nat→AV)(ps:List (Nat×Operand))(K:AV→Prop):Prop :=
 match GL ((T ty).zc.map .v)with
 |false=>False
 |true=>match(T ty).d with
  |.struct fs=>match NM T fs with
   |false=>False
   |true=>Kh (fun i=>match Vu fs i with |some (t,o)=>some (o,(T t).size) |none=>none) ((T ty).zc.map .v) t ps fun cs=>K (.agg cs)
  |.array _ e=>match(T e).size with
   |0=>False
   |_+1=>Kh (fun i=>some (i*(T e).size,(T e).size)) ((T ty).zc.map .v) t ps fun cs=>K (.agg cs)
  |_=>False
def PZ(n sz:Nat)(h:Nat→HO)(es:List (List AV))(t:Nat→AV)(ps:List (Nat×Operand))(K:List (List AV)→Prop):Prop :=
 match ps with
 | []=>K es
 |(i,x)::r=>match Nat.blt i n with
  |true=>GN sz (ev t x) fun vs=>PZ n sz h (es.set i (vs.map (str h))) t r K
  |false=>False
def Er(cx:Cx)(d:Option Nat)(h:Nat→HO)(sz:Nat)(es:List (List AV))(K:HK):Prop :=
 match d with
 |none=>False
 |some d=>match h (Kf cx d)with
  |.free=>match Gq cx.pl.arr d with
   |some _=>K (.msl (Kf cx d) es.length) (AU h (Kf cx d) (.arr sz es))
   |none=>K (.slice (.id (Kf cx d) sz) es) (AU h (Kf cx d) (.tok sz es.length))
  |_=>False
def Ie(cx:Cx)(d:Option Nat)(h:Nat→HO)(ty n:Nat)(t:Nat→AV)(ps:List (Nat×Operand))(K:HK):Prop :=
 match(cx.T ty).d with
 |.slice e=>match GL ((cx.T e).zc.map .v),Nat.beq (cx.T e).zc.length (cx.T e).size with
  |true,true=>match(cx.T e).size with
   |0=>False
   |_+1=>match Nat.ble (n*(cx.T e).size) 16777216 with
    |true=>PZ n (cx.T e).size h (List.replicate n ((cx.T e).zc.map .v)) t ps fun es=>Er cx d h (cx.T e).size es K
    |false=>False
  |_,_=>False
 |_=>False
def Kl(t:Nat→AV)(h:Nat→HO)(fn:Fn)(first captured:List Operand)(K:AV→Prop):Prop :=
 match fn,first with
 |.func f,[]=>K (.clo f (captured.map fun x=>rsv h (ev t x)))
 |_,_=>False
def De(sz:Nat):List (List AV)→Prop
 | []=>True
 |c::r=>c.length=sz∧De sz r
def KM(h:Nat→HO)(x:AV)(K:List (List AV)→Prop):Prop :=
 match x with
 |.slice _ es=>K es
 |.v (.slice none 0 0)=>K []
 |.msl r n=>match h r with
  |.arr _ es=>n=es.length∧K es
  |_=>False
 |_=>False
def H3(cx:Cx)(d:Option Nat)(h:Nat→HO)(ty:Nat)(s x:AV)(K:HK):Prop :=
 match(cx.T ty).d with
 |.slice e=>match Nat.beq (cx.T e).zc.length (cx.T e).size with
  |false=>False
  |true=>match(cx.T e).size with
   |0=>False
   |_+1=>KM h x fun es2=>match s with
    |.v (.slice none 0 0)=>(De (cx.T e).size es2∧es2.length*(cx.T e).bytes≤140737488355328∧es2.length≤9223372036854775807)∧Er cx d h (cx.T e).size es2 K
    |.slice (.full Gc) es=>match Nat.beq Gc (cx.T e).size with
     |true=>(De (cx.T e).size es2∧0<es2.length∧(es.length+es2.length)*(cx.T e).bytes≤140737488355328∧es.length+es2.length≤9223372036854775807)∧Er cx d h (cx.T e).size (es++es2) K
     |false=>False
    |.slice (.id r Gc) es=>match h r with
     |.tok sz n=>match Nat.beq sz (cx.T e).size,Nat.beq Gc sz with
      |true,true=>(De sz es2∧es.length=n∧(es.length+es2.length)*(cx.T e).bytes≤140737488355328∧es.length+es2.length≤9223372036854775807) ∧
        K (.slice (.id r sz) (es++es2)) (AU h r (.tok sz (es.length+es2.length)))
      |_,_=>False
     |_=>False
    |.msl r n=>match h r with
     |.arr sz es=>match Nat.beq sz (cx.T e).size with
      |true=>(De sz es2∧es.length=n∧(es.length+es2.length)*(cx.T e).bytes≤140737488355328∧es.length+es2.length≤9223372036854775807) ∧
        K (.msl r (es.length+es2.length)) (AU h r (.arr sz (es++es2)))
      |false=>False
     |_=>False
    |_=>False
 |_=>False
abbrev II:=List (Nat×Nat)
inductive oo | pure | rel | gen (σ:II) (nn:Nat) | geny (σ:II) (nn:Nat)
def Cj(σ:II)(n:Nat):Option Nat :=
 match σ with
 | []=>none
 |(i,j)::r=>bif Nat.beq i n then some j else Cj r n
def Hy(σ:II)(n:Nat):Option Nat :=
 match σ with
 | []=>none
 |(i,j)::r=>bif Nat.beq j n then some i else Hy r n
def Ee:II→Bool
 | []=>true
 |(i,j)::r=>(match Cj r i,Hy r j with |none,none=>true |_,_=>false)&&Nat.ble 1000 j&&Nat.blt j 2000&&Ee r
def Gv:II→Bool
 | []=>true
 |(i,j)::r=>(match Cj r i,Hy r j with |none,none=>true |_,_=>false)&&Gv r
def ren0(f:Nat→Option Nat)(h:Nat→HO):AV→AV
 |.slice (.id r sz) es=>match f r with |some r'=>.slice (.id r' sz) es |none=>.slice .none es
 |.slice (.ver r sz v) es=>match f r with |some r'=>.slice (.ver r' sz v) es |none=>.slice .none es
 |.msl r n=>match f r with |some r'=>.msl r' n |none=>.junk
 |.ref r off=>match f r with |some r'=>.ref r' off |none=>str0 h (.ref r off)
 |.eref r n sz i off=>match f r with |some r'=>.eref r' n sz i off |none=>.junk
 |.mref r=>match f r with |some r'=>.mref r' |none=>str0 h (.mref r)
 |a=>str0 h a
def ren1(f:Nat→Option Nat)(h:Nat→HO):AV→AV
 |.agg cs=>.agg (cs.map (ren0 f h))
 |.clo g cs=>.clo g (cs.map (ren0 f h))
 |a=>ren0 f h a
def ren(f:Nat→Option Nat)(h:Nat→HO):AV→AV
 |.tup cs=>.tup (cs.map (ren1 f h))
 |a=>ren1 f h a
def HO.ren(f:Nat→Option Nat)(h:Nat→HO):HO→HO
 |.cells cs=>.cells (cs.map (ren1 f h))
 |.mapU sh BU=>.mapU sh (BU.map fun p=>(p.1,ren1 f h p.2))
 |.hol sz es i c a=>.hol sz es i c (ren1 f h a)
 |o=>o
def Aj(l:List (Nat×HO))(hb:Nat→HO)(i:Nat):HO:=match l with | []=>hb i | (j,v)::r=>bif Nat.beq i j then v else Aj r hb i
def VR(f:Nat→Option Nat)(h:Nat→HO):II→List (Nat×HO)
 | []=>[]
 |(i,j)::r=>(j,(h i).ren f h)::VR f h r
def Fp(σ:II)(h:Nat→HO):Nat→HO:=Aj (VR (Cj σ) h σ) Aa
def Bo(d k:Nat):Nat:=10000+100*d+k
def EV(σ:II)(d nn:Nat)(j:Nat):Option Nat :=
 match Hy σ j with
 |some i=>some i
 |none=>match Nat.ble 2000 j&&Nat.blt j (2000+nn)with |true=>some (Bo d (j-2000)) |false=>none
def DZ(σ:II)(d nn:Nat)(h h' : Nat→HO):Nat→HO:=fun i =>
 match Cj σ i with
 |some j=>(h' j).ren (EV σ d nn) h'
 |none=>match Nat.ble (Bo d 0) i&&Nat.blt i (Bo d nn)with |true=>(h' (2000+(i-Bo d 0))).ren (EV σ d nn) h' |false=>h i
def Dv(h:Nat→HO)(d:Nat):Nat→Bool
 |0=>true
 |k+1=>(match h (Bo d k)with |.free=>true |_=>false)&&Dv h d k
def Df(σ:II)(d nn:Nat):Bool :=
 match σ with
 | []=>true
 |(i,_)::r=>!(Nat.ble (Bo d 0) i&&Nat.blt i (Bo d nn))&&Df r d nn
def MZ(l:List (Nat×Nat))(d:Option Nat):Option Nat:=match d with | none=>none | some d=>Gq l d
def ZF:AV→Bool | .tup _=>false | _=>true
def SI:List AV→Bool
 | []=>true
 |a::r=>match ZF a with |true=>SI r |false=>false
def UY:List AV→Option (List Value)
 | []=>some []
 |.v x::r=>match UY r with |some l=>some (x::l) |none=>none
 |_=>none
def Qy(cx:Cx)(k:Nat)(d:Option Nat)(h:Nat→HO)(F:AV)(args:List AV)(K:HK):Prop :=
 match d,F,args with
 |some d,.v (.func (.func f) ⟨[]⟩ ⟨[]⟩),.msl r n::l=>match UY l with
  |some vs=>match h r with
   |.arr sz es=>match k with
    |0=>∃n' Fr,A3 cx.P f (.msl 1000 n::vs.map .v) (Aj [(1000,.arr sz es)] Aa) (fun r' h'=>r'=.msl 1000 n'∧h'=Aj [(1000,.arr sz Fr)] Aa)∧K (.msl r n') (AU h r (.arr sz Fr))
    |_+1=>∃n' Fr,(Dv h d 1&&Nat.blt r 10000000&&!Nat.beq r (Bo d 0))=true∧A3 cx.P f (.msl 1000 n::vs.map .v) (Aj [(1000,.arr sz es)] Aa) (fun r' h'=>r'=.msl 2000 n'∧h'=Aj [(1000,.dead),(2000,.arr sz Fr)] Aa) ∧
      K (.msl (Bo d 0) n') (AU (AU h r .dead) (Bo d 0) (.arr sz Fr))
   |_=>False
  |none=>False
 |_,_,_=>False
def Tj(cx:Cx)(d:Option Nat)(st:St)(F:AV)(args:List AV)(K:HK):Prop :=
 match d with
 |none=>False
 |some d=>∃sz es,(Dv st.h d 1&&ZF F&&SI args)=true∧FR cx.P (fun l=>cx.yp l []) (str st.h F) (args.map (str st.h)) Aa (fun r h'=>r=.slice (.id 2000 sz) es∧h'=Aj [(2000,.tok sz es.length)] Aa) ∧
   K (.slice (.id (Bo d 0) sz) es) (AU st.h (Bo d 0) (.tok sz es.length))
def PM(cx:Cx)(d:Option Nat)(st:St)(F:AV)(args:List AV)(K:HK):Prop :=
  match d,F,UY args with
  |some _,.v (.func (.yield l) ⟨[]⟩ ⟨[]⟩),some vs=>match st.h 1000,st.h 1001 with
    |.cells [.slice (.id r sz) es],.tok ZZ n=>(r=1001∧ZZ=sz)∧∃v Fr n',IA cx.P (cx.yp l [(1000,1000),(1001,1001)]) l (vs.map .v) (Aj [(1000,.cells [.slice (.id 1001 sz) es]),(1001,.tok sz n)] Aa)
          (fun r h'=>r=.v v∧h'=Aj [(1000,.cells [.slice (.id 1001 sz) Fr]),(1001,.tok sz n')] Aa) ∧
        K (.v v) (AU (AU st.h 1001 (.tok sz n')) 1000 (.cells [.slice (.id 1001 sz) Fr]))
    |_,_=>False
  |_,_,_=>False
def iV:List Nat:=[1000,1001,1002,1003,1004,1005,1006,1007]
def WX(cx:Cx)(d:Option Nat)(st:St)(F:AV)(args:List AV)(K:HK):Prop :=
 match d,F with
 |some d,.v (.func (.func f) ⟨[]⟩ ⟨[]⟩)=>∃(σ:II) (H0 Hn:List (Nat×HO)) (args' : List AV) (res:AV),
   (∀h2:Nat→HO,(∀r∈iV,h2 r=st.h r)→Fp σ h2=Aj H0 Aa∧args.map (ren (Cj σ) h2)=args')∧(Ee σ&&Df σ d 0&&σ.all fun p=>Iw iV p.1)=true ∧
   A3 cx.P f args' (Aj H0 Aa) (fun r h'=>r=res∧h'=Aj Hn Aa)∧K (ren (EV σ d 0) (Aj Hn Aa) res) (DZ σ d 0 st.h (Aj Hn Aa))
 |_,_=>False
def OE(cx:Cx)(k:Nat)(d:Option Nat)(st:St)(F:AV)(args:List AV)(K:HK):Prop :=
 match Nat.beq k 4 with
 |true=>WX cx d st F args K
 |false=>Qy cx k d st.h F args K
def F4(cx:Cx)(dr:Bool)(d:Option Nat)(st:St)(F:AV)(args:List AV)(K:HK):Prop :=
 match dr with
 |true=>match MZ cx.pl.dc d with
  |none=>∃res,OQ cx.P (str st.h F) (args.map (str st.h)) res∧K res st.h
  |some 0=>match d with
   |none=>False
   |some d=>∃n sz es,(Dv st.h d 1&&ZF F&&SI args)=true∧FR cx.P (fun l=>cx.yp l []) (str st.h F) (args.map (str st.h)) Aa (fun r h'=>r=.msl 2000 n∧h'=Aj [(2000,.arr sz es)] Aa) ∧
     K (.msl (Bo d 0) n) (AU st.h (Bo d 0) (.arr sz es))
  |some (k+1)=>match Nat.beq k 2 with
   |true=>Tj cx d st F args K
   |false=>match Nat.beq k 3 with
    |true=>PM cx d st F args K
    |false=>OE cx k d st F args K
 |false=>∃m:oo,match m with
  |.pure=>∃res,OQ cx.P (str st.h F) (args.map (str st.h)) res∧K res st.h
  |.rel=>FR cx.P (fun _ _ _=>True) (str st.h F) (args.map (str st.h)) Aa fun r h'=>h'=Aa∧K r st.h
  |.gen σ nn=>match d with
   |none=>False
   |some d=>(Ee σ&&Dv st.h d nn&&Df σ d nn)=true ∧
     FR cx.P (fun l=>cx.yp l σ) (ren (Cj σ) st.h F) (args.map (ren (Cj σ) st.h)) (Fp σ st.h) fun r h'=>K (ren (EV σ d nn) h' r) (DZ σ d nn st.h h')
  |.geny σ nn=>match d with
   |none=>False
   |some d=>(Ee σ&&Dv st.h d nn&&Df σ d nn)=true ∧
     match ren (Cj σ) st.h F with
     |.clo f caps=>lm cx.P (fun g w=>∀l,cx.yp l σ g w) f (args.map (ren (Cj σ) st.h)++caps) (Fp σ st.h) fun r h'=>K (ren (EV σ d nn) h' r) (DZ σ d nn st.h h')
     |_=>False
def VZ:List AV→Option (List Value)
 | []=>some []
 |.v x::r=>match VZ r with |some l=>some (x::l) |none=>none
 |_=>none
def mS:AV→Option Value
 |.v x=>some x
 |.agg cs=>match VZ cs with |some l=>some (.agg l.toArray) |none=>none
 |_=>none
def HC(T:Gf)(t:Nat):Option EA :=
 match(T t).d with
 |.struct _=>match Hk T 8 t with |some l=>some ⟨true,l⟩ |none=>none
 |_=>match Hk T 1 t with |some l=>some ⟨false,l⟩ |none=>none
def jw:KS→KS→Bool
 |.int k,.int k'=>og k k'
 |.str,.str=>true
 |.bool,.bool=>true
 |_,_=>false
def Sw:List KS→List KS→Bool
 | [],[]=>true
 |a::r,b::s=>match jw a b with |true=>Sw r s |false=>false
 |_,_=>false
def nv(a b:EA):Bool :=
 match a.agg,b.agg with
 |true,true=>Sw a.l b.l
 |false,false=>Sw a.l b.l
 |_,_=>false
def JS(T:Gf)(ty:Nat)(sh:EA)(k:AV)(K:Value→Prop):Prop :=
 match(T ty).d with
 |.map kt _=>match HC T kt with
  |some r5=>match nv sh r5 with
   |true=>match mS k with
    |some kx=>match UP sh kx with
     |true=>K kx
     |false=>False
    |none=>False
   |false=>False
  |none=>False
 |_=>False
open Classical in
noncomputable def EK(BU:List (Value×AV))(k:Value)(a:AV):List (Value×AV) :=
 if ∃a',(k,a')∈BU then BU.map fun p=>if p.1=k then(k,a)else p else BU++[(k,a)]
def Km(T:Gf)(mku:List Nat)(d:Option Nat)(h:Nat→HO)(ty:Nat)(K:HK):Prop :=
 match d with
 |none=>False
 |some d=>match h d with
  |.free=>match(T ty).d with
   |.map kt _=>match HC T kt with
    |some sh=>match Iw mku d with
     |true=>K (.mref d) (AU h d (.mapU sh []))
     |false=>K (.mref d) (AU h d (.map sh []))
    |none=>False
   |_=>False
  |_=>False
def GP(T:Gf)(h:Nat→HO)(ty:Nat)(m k x:AV)(K:HK):Prop :=
 match m with
 |.mref r=>match h r with
  |.map sh BU=>JS T ty sh k fun kx=>K (.v undef) (AU h r (.map sh (EK BU kx (str h x))))
  |.mapU sh BU=>JS T ty sh k fun kx=>K (.v undef) (AU h r (.mapU sh (EK BU kx x)))
  |_=>False
 |_=>False
def JY(T:Gf)(t:Nat)(K:AV→Prop):Prop :=
 match(T t).d with
 |.other=>False
 |_=>match(T t).zero with
  |.agg cs=>match GL (cs.toList.map .v)with |true=>K (.agg (cs.toList.map .v)) |false=>False
  |z=>K (.v z)
def LB(T:Gf)(ty:Nat)(ok:Bool)(BU:List (Value×AV))(kx:Value)(K:AV→Prop):Prop :=
 match(T ty).d with
 |.map _ e=>match ok with
  |true=>(∀a,(kx,a)∈BU→K (.tup [a,.v (.bool true)]))∧((∀a,(kx,a)∉BU)→JY T e fun z=>K (.tup [z,.v (.bool false)]))
  |false=>(∀a,(kx,a)∈BU→K a)∧((∀a,(kx,a)∉BU)→JY T e K)
 |_=>False
def LA(T:Gf)(ty:Nat)(ok:Bool)(BU:List (Value×AV))(kx:Value)(K:AV→Prop):Prop :=
 match(T ty).d with
 |.map _ e=>match ok with
  |true=>(∃a,((kx,a)∈BU∧∀b,(kx,b)∈BU→b=a)∧K (.tup [a,.v (.bool true)]))∨((∀a,(kx,a)∉BU)∧JY T e fun z=>K (.tup [z,.v (.bool false)]))
  |false=>(∃a,((kx,a)∈BU∧∀b,(kx,b)∈BU→b=a)∧K a)∨((∀a,(kx,a)∉BU)∧JY T e K)
 |_=>False
def Mj(T:Gf)(h:Nat→HO)(ty:Nat)(m k:AV)(ok:Bool)(K:AV→Prop):Prop :=
 match m with
 |.cmap sh BU=>JS T ty sh k fun kx=>LA T ty ok BU kx K
 |.mref r=>match h r with
  |.map sh BU=>JS T ty sh k fun kx=>LA T ty ok BU kx K
  |.mapU sh BU=>JS T ty sh k fun kx=>LA T ty ok BU kx K
  |.rom sh BU=>JS T ty sh k fun kx=>LA T ty ok BU kx K
  |_=>False
 |_=>False
def Mk(T:Gf)(h:Nat→HO)(ty:Nat)(m k:AV)(ok:Bool)(K:AV→Prop):Prop :=
 match m with
 |.cmap sh BU=>JS T ty sh k fun kx=>LB T ty ok BU kx K
 |.mref r=>match h r with
  |.map sh BU=>JS T ty sh k fun kx=>LB T ty ok BU kx K
  |.mapU sh BU=>JS T ty sh k fun kx=>LB T ty ok BU kx K
  |.rom sh BU=>JS T ty sh k fun kx=>LB T ty ok BU kx K
  |_=>False
 |_=>False
def YV(d:Option Nat)(h:Nat→HO)(x:AV)(K:HK):Prop :=
 match d with
 |none=>False
 |some d=>match h d with
  |.free=>match x with
   |.cmap _ BU=>K (.ref d 0) (AU h d (.iter BU BU none))
   |.mref r=>match h r with
    |.rom _ BU=>K (.ref d 0) (AU h d (.iter BU BU none))
    |.map sh BU=>K (.ref d 0) (AU (AU h r (.rom sh BU)) d (.iter BU BU none))
    |_=>False
   |_=>False
  |_=>False
def fM(h:Nat→HO)(x:AV)(K:HK):Prop :=
 match x with
 |.ref r 0=>match h r with
  |.iter all rem _=>(rem=[]→K (.tup [.v (.bool false)]) h) ∧
    (∀kv Nv,rem.Perm (kv::Nv)→K (.tup [.v (.bool true),.v kv.1,kv.2]) (AU h r (.iter all Nv (some kv))))
  |_=>False
 |_=>False
def Yh(h:Nat→HO)(x:AV)(K:AV→Prop):Prop :=
 match x with
 |.ref r 0=>match h r with
  |.iter _ _ (some kv)=>K (.tup [.v kv.1,kv.2])
  |_=>False
 |_=>False
def Qj(T:Gf)(t:Nat)(h:Nat→HO)(x:AV)(K:AV→Prop):Prop :=
 match(T t).d with
 |.slice _=>match x with
  |.slice _ es=>K (.v (.int .i64 es.length))
  |.msl _ n=>K (.v (.int .i64 n))
  |.v (.slice none 0 0)=>K (.v (.int .i64 0))
  |_=>False
 |.string=>match x with
  |.v (.string s)=>K (.v (.int .i64 s.size))
  |_=>False
 |.map _ _=>match x with
  |.cmap _ BU=>K (.v (.int .i64 BU.length))
  |.mref r=>match h r with
   |.map _ BU=>K (.v (.int .i64 BU.length))
   |.mapU _ BU=>K (.v (.int .i64 BU.length))
   |.rom _ BU=>K (.v (.int .i64 BU.length))
   |_=>False
  |_=>False
 |_=>False
def Gb(cx:Cx)(d:Option Nat)(h:Nat→HO)(ty:Nat)(x:AV)(lo hi mx:Option (Option Int))(K:HK):Prop :=
 match lo,hi,mx with
 |some lo,some hi,some mx=>match(cx.T ty).d with
  |.string=>match mx,x with
   |none,.v (.string s)=>(0≤lo.getD 0∧lo.getD 0≤hi.getD s.size∧hi.getD s.size≤s.size)∧K (.v (.string (s.extract (lo.getD 0).toNat (hi.getD s.size).toNat))) h
   |_,_=>False
  |.slice e=>match(cx.T e).size with
   |0=>False
   |_+1=>match x with
    |.slice _ es=>match mx with
     |none=>(0≤lo.getD 0∧lo.getD 0≤hi.getD es.length∧hi.getD es.length≤es.length) ∧
       (∀cs∈es,cs.length=(cx.T e).size)∧K (.slice .none ((es.take (hi.getD es.length).toNat).drop (lo.getD 0).toNat)) h
     |some m=>match d,hi with
      |some d,some hi=>match Gq cx.pl.arr d with
       |some _=>(0≤lo.getD 0∧lo.getD 0≤hi∧m=hi∧hi≤es.length)∧(∀cs∈es,cs.length=(cx.T e).size) ∧
         K (.slice (.full (cx.T e).size) ((es.take hi.toNat).drop (lo.getD 0).toNat)) h
       |none=>match h d with
        |.free=>(0≤lo.getD 0∧lo.getD 0≤hi∧m=hi∧hi≤es.length)∧(∀cs∈es,cs.length=(cx.T e).size) ∧
          K (.slice (.id d (cx.T e).size) ((es.take hi.toNat).drop (lo.getD 0).toNat)) (AU h d (.tok (cx.T e).size (hi.toNat-(lo.getD 0).toNat)))
        |_=>False
      |_,_=>False
    |.v (.slice none 0 0)=>(lo.getD 0=0∧hi.getD 0=0∧mx.getD 0=0)∧(mx=none∨hi≠none)∧K (.v (.slice none 0 0)) h
    |.msl r n=>match h r with
     |.arr sz es=>match Nat.beq sz (cx.T e).size with
      |true=>(n=es.length∧0≤lo.getD 0∧lo.getD 0≤hi.getD es.length∧hi.getD es.length≤es.length∧(mx=none∨(mx=hi∧hi≠none))) ∧
        K (.slice .none ((es.take (hi.getD es.length).toNat).drop (lo.getD 0).toNat)) (AU h r .dead)
      |false=>False
     |_=>False
    |_=>False
  |_=>False
 |_,_,_=>False
def SY(cx:Cx)(d:Option Nat)(h:Nat→HO)(ty:Nat)(x:AV)(lo:Option (Option Int))(hi mx:Option Operand)(K:HK):Prop :=
 match d,lo,hi,mx with
 |some d,some (some lo),none,none=>match(cx.T ty).d with
  |.slice e=>match(cx.T e).size with
   |0=>False
   |_+1=>match x with
    |.slice (.id r sz) es=>match h r with
     |.tok Gc n=>match h (Kf cx d)with
      |.free=>match Nat.beq Gc sz,Nat.beq sz (cx.T e).size with
       |true,true=>(es.length=n∧0≤lo∧lo≤es.length)∧K (.slice (.id (Kf cx d) sz) (es.drop lo.toNat)) (AU (AU h r .dead) (Kf cx d) (.tok sz (es.drop lo.toNat).length))
       |_,_=>False
      |_=>False
     |_=>False
    |_=>False
  |_=>False
 |_,_,_,_=>False
def gm(cx:Cx)(d:Option Nat)(h:Nat→HO)(ty:Nat)(x:AV)(hi:Option (Option Int))(K:HK):Prop :=
 match d,hi with
 |some d,some (some hi)=>match(cx.T ty).d with
  |.slice e=>match(cx.T e).size with
   |0=>False
   |_+1=>match x with
    |.msl r n=>match h r with
     |.arr sz es=>match h (Kf cx d)with
      |.free=>match Nat.beq sz (cx.T e).size,Nat.blt r 10000000&&Nat.blt 0 (Kf cx d)with
       |true,true=>(n=es.length∧0≤hi∧hi≤es.length)∧K (.msl (Kf cx d) hi.toNat) (AU (AU h r .dead) (Kf cx d) (.arr sz (es.take hi.toNat)))
       |_,_=>False
      |_=>False
     |_=>False
    |_=>False
  |_=>False
 |_,_=>False
def MT(cx:Cx)(d:Option Nat)(h:Nat→HO)(ty:Nat)(x:AV)(lo:Option Operand)(hi:Option (Option Int))(mx:Option Operand)(K:HK):Prop :=
 match lo,mx with
 |none,none=>gm cx d h ty x hi K
 |_,_=>False
def ZT(cx:Cx)(d:Option Nat)(h:Nat→HO)(ty:Nat)(x:AV)(t:Nat→AV)(lo hi mx:Option Operand)(K:HK):Prop :=
 match lo with
 |none=>MT cx d h ty x none (BY t hi) mx K
 |some lo=>SY cx d h ty x (BY t (some lo)) hi mx K
def xV:AV→AV
 |.slice _ es=>.slice .none es
 |a=>a
def NP(cx:Cx)(d:Option Nat)(h:Nat→HO)(x:AV)(K:HK):Prop :=
 match d with
 |none=>K x h
 |some d=>match Gq cx.pl.tok d with
  |some sz=>match Nat.beq sz 0 with
   |true=>K (xV x) h
   |false=>match x with
    |.v (.slice none 0 0)=>match h d with
     |.free=>K (.slice (.id d sz) []) (AU h d (.tok sz 0))
     |_=>False
    |x=>K x h
  |none=>match Gq cx.pl.arr d with
   |some sz=>match x with
    |.v (.slice none 0 0)=>match h d with
     |.free=>K (.msl d 0) (AU h d (.arr sz []))
     |_=>False
    |x=>K x h
   |none=>K x h
def jJ(l:List AV)(n:Nat):Option AV :=
 match l with
 | []=>none
 |x::r=>match n with |0=>some x |n+1=>jJ r n
def Lw(x:AV)(i:Nat)(K:AV→Prop):Prop :=
 match x with
 |.tup vs=>match jJ vs i with
  |some a=>K a
  |none=>False
 |_=>False
def Kp(x:AV)(K:AV→Prop):Prop :=
 match x with
 |.ref r o=>K (.ref r o)
 |.eref r n z i o=>K (.eref r n z i o)
 |.cptr cs=>K (.cptr cs)
 |.clo f cs=>K (.clo f cs)
 |.v (.func (.func f) a b)=>K (.v (.func (.func f) a b))
 |_=>False
def XF(c a b:AV)(K:AV→Prop):Prop :=
 match c with
 |.v (.bool true)=>K a
 |.v (.bool false)=>K b
 |_=>False
def jD(f:Int→Int→Int)(x y:AV)(K:AV→Prop):Prop :=
 match x,y with
 |.v (.int k a),.v (.int k' b)=>match og k k' with
  |true=>K (.v (.int k (f a b)))
  |false=>False
 |_,_=>False
def Ja(cx:Cx)(d:Option Nat)(h:Nat→HO)(ty:Nat)(len cap:AV)(K:HK):Prop :=
 match(cx.T ty).d,len,cap with
 |.slice e,.v (.int .i64 n),.v (.int .i64 c)=>match GL ((cx.T e).zc.map .v)with
  |true=>match Nat.beq (cx.T e).zc.length (cx.T e).size with
   |true=>match(cx.T e).size with
    |0=>False
    |_+1=>(0≤n∧n≤c∧c*(cx.T e).bytes≤140737488355328∧c≤9223372036854775807)∧Er cx d h (cx.T e).size (List.replicate n.toNat ((cx.T e).zc.map .v)) K
   |false=>False
  |false=>False
 |_,_,_=>False
def XQ(op:UnOp)(x:AV)(K:AV→Prop):Prop :=
 match op,x with
 |.not,x=>bJ K x
 |.neg,.v (.int .i64 a)=>BM (-a)∧K (.v (.int .i64 (-a)))
 |.xor,.v (.int k a)=>K (.v (.int k (T8 .xor k (if k.signed then -1 else k.max) a)))
 |_,_=>False
def FM(cx:Cx)(d:Option Nat)(h:Nat→HO)(b:Builtin)(Gy:List Nat)(args:List AV)(K:HK):Prop :=
 match b,args,Gy with
 |.len,[x],[t]=>Qj cx.T t h x fun v=>K v h
 |.append,[s,x],[t,t']=>match Nat.beq t t' with
  |true=>H3 cx d h t s x K
  |false=>False
 |.max,[x,y],_=>jD max x y fun v=>K v h
 |.min,[x,y],_=>jD min x y fun v=>K v h
 |_,_,_=>False
def FD(cx:Cx)(dr:Bool)(o:Oper)(st:St)(K:HK):Prop :=
 match o.op with
 |.move x=>K (ev st.t x) st.h
 |.assign x=>NP cx o.dst st.h (ev st.t x) K
 |.pick c a b=>XF (ev st.t c) (ev st.t a) (ev st.t b) fun v=>K v st.h
 |.alloc e=>Rn cx.T o.dst st.h e K
 |.box e x=>aA cx o.dst st.h e (ev st.t x) K
 |.build ty ps=>OW cx.T ty st.t ps.toList fun v=>K v st.h
 |.buildSlice ty n ps=>Ie cx o.dst st.h ty n st.t ps.toList K
 |.insert ty m k x=>GP cx.T st.h ty (ev st.t m) (ev st.t k) (ev st.t x) K
 |.load ty x=>HW cx.T st.h ty (ev st.t x) fun v=>K v st.h
 |.store ty p x=>NA cx st.h ty (ev st.t p) (ev st.t x) K
 |.nilCheck x=>Kp (ev st.t x) fun v=>K v st.h
 |.binOp op ty x y _=>Wu cx.T op ty y (ev st.t x) (ev st.t y) fun v=>K v st.h
 |.unOp op _ x=>XQ op (ev st.t x) fun v=>K v st.h
 |.convert s ty x=>WB cx.T s ty (ev st.t x) fun v=>K v st.h
 |.makeFunc fn first cap=>Kl st.t st.h fn first.toList cap.toList fun v=>K v st.h
 |.makeMap ty none=>Km cx.T cx.pl.mku o.dst st.h ty K
 |.makeSlice ty n c=>Ja cx o.dst st.h ty (ev st.t n) (ev st.t c) K
 |.slice ty x lo hi mx=>match dr with
  |true=>match MZ cx.pl.tok o.dst with
   |none=>Gb cx o.dst st.h ty (ev st.t x) (BY st.t lo) (BY st.t hi) (BY st.t mx) K
   |some _=>MT cx o.dst st.h ty (ev st.t x) lo (BY st.t hi) mx K
  |false=>match MZ cx.pl.tok o.dst with
   |none=>Gb cx o.dst st.h ty (ev st.t x) (BY st.t lo) (BY st.t hi) (BY st.t mx) K
   |some _=>ZT cx o.dst st.h ty (ev st.t x) st.t lo hi mx K
 |.fieldAddr s x f=>RL cx.T s f (ev st.t x) fun v=>K v st.h
 |.field s x f=>N4 cx.T s f (ev st.t x) fun v=>K v st.h
 |.indexAddr ty x ix=>I8 cx.T ty (ev st.t x) (ev st.t ix) fun v=>K v st.h
 |.index ty x ix=>So cx.T ty (ev st.t x) (ev st.t ix) fun v=>K v st.h
 |.lookup ty x ix ok=>match dr with
  |true=>Mj cx.T st.h ty (ev st.t x) (ev st.t ix) ok fun v=>K v st.h
  |false=>Mk cx.T st.h ty (ev st.t x) (ev st.t ix) ok fun v=>K v st.h
 |.mapUpdate ty m k x=>GP cx.T st.h ty (ev st.t m) (ev st.t k) (ev st.t x) K
 |.range ty x=>match(cx.T ty).d with |.map _ _=>YV o.dst st.h (ev st.t x) K |_=>False
 |.next it false=>fM st.h (ev st.t it) K
 |.entry it=>Yh st.h (ev st.t it) fun v=>K v st.h
 |.extract x i=>Lw (ev st.t x) i fun v=>K v st.h
 |.call c=>match c.callee with
  |.builtin b=>FM cx o.dst st.h b c.argTypes.toList (c.args.toList.map (ev st.t)) K
  |.value f=>F4 cx dr o.dst st (ev st.t f) (c.args.toList.map (ev st.t)) K
  |_=>False
 |_=>False
def JU(ops:List Oper)(j:Nat):Option Nat:=match ops with | []=>none | o::r=>match j with | 0=>o.dst | j+1=>JU r j
def gn(cx:Cx)(o:Oper)(st:St):St :=
 match o.dst with
 |none=>st
 |some d=>match oy cx.pl.tz d with
  |some (r,k,j,sz)=>⟨st.t,r9 st.h r k j sz⟩
  |none=>match lE cx.pl.fz d with
   | []=>st
   |l=>⟨st.t,Oe st.h l⟩
def se(cx:Cx)(o:Oper)(st:St)(K:St→Prop):Prop :=
 match o.dst with
 |none=>K st
 |some d=>match Gq cx.pl.ak d with
  |none=>K st
  |some s=>match st.t s with
   |.msl r n=>match st.h r with
    |.arr sz es=>n=es.length∧K ⟨GT st.t s (.slice (.id r sz) es),AU st.h r (.tok sz es.length)⟩
    |_=>K st
   |_=>K st
def da(cx:Cx)(dr:Bool)(o:Oper)(st:St)(K:St→Prop):Prop :=
 match dr with
 |true=>FD cx true o st fun v h=>K (st.put o.dst v h)
 |false=>se cx o (gn cx o st) fun D3=>FD cx false o D3 fun v h=>K (D3.put o.dst v h)
def GX(cx:Cx)(dr:Bool)(all:List Oper)(o:Oper)(st:St)(K:St→Prop):Prop :=
 match o.guard with
 |none=>da cx dr o st K
 |some (j,want)=>match JU all j with
  |none=>False
  |some d=>match st.t d,want with
   |.v (.bool true),true=>da cx dr o st K
   |.v (.bool false),false=>da cx dr o st K
   |.v (.bool true),false=>K (st.put o.dst (.v undef) st.h)
   |.v (.bool false),true=>K (st.put o.dst (.v undef) st.h)
   |.v (.tuple _),_=>K (st.put o.dst (.v undef) st.h)
   |_,_=>False
def Ss(o o2:Oper):Bool :=
 match o2.op with
 |.call c=>match c.callee with
  |.builtin .clear=>match o.op with
   |.slice ty _ (some _) none none=>match o.dst,o2.dst,c.args.toList,c.argTypes.toList,o.guard,o2.guard with
    |some d,none,[.tmp d'],[xU],none,none=>Nat.beq d d'&&Nat.beq ty xU
    |_,_,_,_,_,_=>false
   |_=>false
  |_=>false
 |_=>false
def oY(d:Nat)(st:St)(r i sz:Nat)(es:List (List AV))(z:List Value)(K:St→Prop):Prop :=
 match z.all Value.oneCell' with
 |true=>K ⟨GT st.t d .junk,AU st.h r (.arr sz (es.take i++List.replicate (es.length-i) (z.map AV.v)))⟩
 |false=>False
def aG(cx:Cx)(o:Oper)(st:St)(K:St→Prop):Prop :=
 match o.op with
 |.slice ty x (some lo) none none=>match o.dst with
  |some d=>match(cx.T ty).d with
   |.slice e=>match ev st.t x with
    |.msl r n=>match ev st.t lo with
     |.v (.int .i64 i)=>match st.h r with
      |.arr sz es=>match Nat.beq sz (cx.T e).size with
       |true=>match(cx.T e).size with
        |0=>False
        |_+1=>match Nat.beq (cx.T e).zc.length sz with
         |true=>(n=es.length∧0≤i∧i≤es.length)∧oY d st r i.toNat sz es (cx.T e).zc K
         |false=>False
       |false=>False
      |_=>False
     |_=>False
    |_=>False
   |_=>False
  |none=>False
 |_=>False
def TA(cx:Cx)(all l:List Oper)(st:St)(K:St→Prop):Prop :=
 match l with
 | []=>K st
 | [o]=>GX cx false all o st K
 |o::o2::r=>match Ss o o2 with
  |true=>aG cx o st fun D3=>TA cx all r D3 K
  |false=>GX cx false all o st fun D3=>TA cx all (o2::r) D3 K
def TL:AV→List Nat
 |.ref r _=>[r]
 |.mref r=>[r]
 |_=>[]
def jr:List AV→List Nat
 | []=>[]
 |a::r=>TL a++jr r
def TM:AV→List Nat
 |.agg cs=>jr cs
 |.clo _ cs=>jr cs
 |a=>TL a
def mQ:List AV→List Nat
 | []=>[]
 |a::r=>TM a++mQ r
def Wi:AV→List Nat
 |.agg cs=>mQ cs
 |a=>TM a
def Si:List AV→List Nat
 | []=>[]
 |a::r=>Wi a++Si r
abbrev Fj:=List Nat×Option Nat
def Ig(d:Option Nat)(l:List Nat):Option Fj:=match d with | some d=>some (d::l,some d) | none=>none
def bB:AV→List Nat
 |.msl r _=>[r]
 |_=>[]
def Vv(cx:Cx)(d:Option Nat)(s x:AV):Option Fj :=
 match s with
 |.v (.slice none 0 0)=>Ig (d.map (Kf cx)) (bB x)
 |.slice (.full _) _=>Ig (d.map (Kf cx)) (bB x)
 |.slice (.id r _) _=>Ig (some r) (bB x)
 |.msl r _=>Ig (some r) (bB x)
 |_=>none
def Zi(d:Option Nat)(args:List AV):Option Fj :=
 match d with
 |some d=>match args with
  |.msl r _::_=>some ([r,Bo d 0],some (r+10000000*Bo d 0))
  |_=>none
 |none=>none
theorem Ym{d:Option Nat}{args:List AV}{f:Fj}(h:Zi d args=some f):∃d' r n l,d=some d'∧args=.msl r n::l∧f=([r,Bo d' 0],some (r+10000000*Bo d' 0)):=by
 unfold Zi at h;split at h
 ·split at h
  ·cases h;exact⟨_,_,_,_,rfl,rfl,rfl⟩
  ·cases h
 ·cases h
def dK(d:Option Nat)(x:AV):Option Fj :=
 match d with
 |some d=>match x with
  |.msl r _=>some ([r,d],some (r+10000000*d))
  |_=>none
 |none=>none
theorem Yn{d:Option Nat}{x:AV}{f:Fj}(h:dK d x=some f):∃d' r n,d=some d'∧x=.msl r n∧f=([r,d'],some (r+10000000*d')):=by
 unfold dK at h;split at h
 ·split at h
  ·cases h;exact⟨_,_,_,rfl,rfl,rfl⟩
  ·cases h
 ·cases h
def dL(args:List AV):Option Fj:=match UY args with | some _=>some ([1000,1001],some 10010001000) | none=>none
def Vd:Nat:=99999999999999
def dJ(k:Nat)(d:Option Nat)(args:List AV):Option Fj :=
 match Nat.beq k 3 with
 |true=>some (iV,some Vd)
 |false=>Zi d args
def GD(cx:Cx)(d:Option Nat)(c:Callee)(t:Nat→AV)(args:List AV):Option Fj :=
 match c,args with
 |.builtin .len,[.mref r]=>some ([r],none)
 |.builtin .len,[_]=>some ([],none)
 |.builtin .max,_=>some ([],none)
 |.builtin .min,_=>some ([],none)
 |.builtin .append,[s,x]=>Vv cx d s x
 |.value f,args=>match MZ cx.pl.dc d with
  |none=>some (Wi (ev t f)++Si args,none)
  |some 0=>Ig (d.map fun d=>Bo d 0) (Wi (ev t f)++Si args)
  |some 1=>match args with |.msl r _::_=>some ([r],some r) |_=>none
  |some (k+2)=>match Nat.beq k 1 with
   |true=>Ig (d.map fun d=>Bo d 0) (Wi (ev t f)++Si args)
   |false=>match Nat.beq k 2 with
    |true=>dL args
    |false=>dJ k d args
 |_,_=>none
def E4(cx:Cx)(o:Oper)(st:St):Option Fj :=
 match o.op with
 |.move _ |.pick .. |.nilCheck _ |.unOp .. |.convert .. |.fieldAddr .. |.field .. |.indexAddr .. |.index .. |.extract .. |.build ..=>some ([],none)
 |.binOp _ _ x _ _=>match ev st.t x with |.slice ..=>none |_=>some ([],none)
 |.assign x=>match ev st.t x with |.v (.slice ..)=>none |_=>some ([],none)
 |.load _ p=>match ev st.t p with |.cptr _=>some ([],none) |.ref r _=>some ([r],none) |.eref r ..=>some ([r],none) |_=>none
 |.call c=>GD cx o.dst c.callee st.t (c.args.toList.map (ev st.t))
 |.alloc _=>Ig o.dst []
 |.box _ x=>Ig o.dst (Wi (ev st.t x))
 |.buildSlice _ _ ps=>Ig (o.dst.map (Kf cx)) (Si (ps.toList.map fun p=>ev st.t p.2))
 |.store _ p x=>match ev st.t p with
  |.ref r _=>match Iw cx.pl.frz r with |true=>none |false=>Ig (some r) []
  |.eref r ..=>Ig (some r) (Wi (ev st.t x))
  |_=>none
 |.slice _ x _ _ mx=>match MZ cx.pl.tok o.dst with
  |some _=>dK (o.dst.map (Kf cx)) (ev st.t x)
  |none=>match mx,ev st.t x with
   |none,.msl ..=>none
   |none,_=>some ([],none)
   |some _,.slice ..=>Ig o.dst []
   |_,_=>none
 |.makeFunc _ _ cap=>some (Si (cap.toList.map (ev st.t)),none)
 |.mapUpdate _ m _ x=>match ev st.t m with |.mref r=>Ig (some r) (Wi (ev st.t x)) |_=>none
 |.makeSlice ..=>Ig (o.dst.map (Kf cx)) []
 |.lookup _ m _ _=>match ev st.t m with |.cmap ..=>some ([],none) |.mref r=>some ([r],none) |_=>none
 |.makeMap ..=>Ig o.dst []
 |_=>none
def MN(cx:Cx)(all:List Oper)(o:Oper)(st:St):Option Fj :=
 match o.guard with
 |none=>E4 cx o st
 |some (j,want)=>match JU all j with
  |none=>none
  |some d=>match st.t d,want with
   |.v (.bool true),true=>E4 cx o st
   |.v (.bool false),false=>E4 cx o st
   |_,_=>some ([],none)
def qq(l:List Nat):Bool:=match l with | []=>true | _=>false
def Xz(l:List Nat)(r:Nat):Bool:=bif Nat.beq r Vd then qq l else !Iw l r&&(Nat.blt r 10000000||(!Iw l (r % 10000000)&&!Iw l (r / 10000000)))
def RF(a b:Fj):Bool :=
 (match a.2 with | some r=>Xz b.1 r | none=>true)&&(match b.2 with | some r=>Xz a.1 r | none=>true)
def Of(o:Oper)(i:Nat)(D:List Nat):Bool:=o.after.toList.any fun e=>Region.binds .any e&&(Nat.beq e.on i||Iw D e.on)
def OZ(i:Nat)(D:List Nat)(k:Nat):List Oper→List Nat
 | []=>D
 |o::r=>match Of o i D with
  |true=>OZ i (k::D) (k+1) r
  |false=>OZ i D (k+1) r
def Te(i:Nat)(D:List Nat)(k:Nat):List Oper→Bool
 | []=>true
 |o::r=>(Of o i D||!Iw D k)&&Te i D (k+1) r
def Ib(ops:Array Oper)(oi:Oper)(fi:Fj)(D:List Nat)(k:Nat):List Oper→List Fj→Bool
 |o::r,f::fs=>(Iw D k||(oi.apart ops o&&RF fi f))&&Ib ops oi fi D (k+1) r fs
 | [],[]=>true
 |_,_=>false
def Lv(ops:Array Oper)(all:List Oper)(k:Nat):List Oper→List Fj→Bool
 |o::r,f::fs =>
  let D:=OZ k [] 0 all
  (o.after.toList.all fun e=>!Region.binds .any e||Nat.blt e.on k)&&Te k D 0 all&&(D.all fun j=>Nat.blt k j&&Nat.blt j all.length)&&Ib ops o f D (k+1) r fs&&Lv ops all (k+1) r fs
 | [],[]=>true
 |_,_=>false
def RG(ops:Array Oper)(fs:List Fj):Bool:=Region.noSelect ops&&Lv ops ops.toList 0 ops.toList fs
def Wt(cx:Cx)(ops:Array Oper)(l:List Oper)(fs:List Fj)(st:St)(K:St→Prop):Prop :=
 match l with
 | []=>RG ops fs.reverse=true∧K st
 |o::r=>match MN cx ops.toList o st with
  |some f=>GX cx true ops.toList o st fun D3=>Wt cx ops r (f::fs) D3 K
  |none=>False
def RJ(l:List (Nat×AV))(i:Nat):AV:=match l with | []=>.junk | (j,v)::r=>bif Nat.beq i j then v else RJ r i
structure LS where
 t:List (Nat×AV)
 h:List (Nat×HO)
 hb:Nat→HO
def LS.st(s:LS):St:=⟨RJ s.t,Aj s.h s.hb⟩
def QI(h:Nat→HO)(r:Nat):Bool:=match h r with | .free=>false | _=>true
def ids0(h:Nat→HO):AV→Bool
 |.slice (.id r _) _=>QI h r
 |.slice (.ver r _ _) _=>QI h r
 |.msl r _=>QI h r
 |.ref r _=>QI h r
 |.eref r _ _ _ _=>QI h r
 |.mref r=>QI h r
 |.agg _ |.tup _ |.clo ..=>false
 |_=>true
def W9(h:Nat→HO):List AV→Bool
 | []=>true
 |a::r=>match ids0 h a with |true=>W9 h r |false=>false
def TN(h:Nat→HO):AV→Bool
 |.agg cs=>W9 h cs
 |.tup cs=>W9 h cs
 |.clo _ cs=>W9 h cs
 |a=>ids0 h a
def Qf(h:Nat→HO):List (Value×AV)→Bool
 | []=>true
 |p::r=>match TN h p.2 with |true=>Qf h r |false=>false
def js(h:Nat→HO):List AV→Bool
 | []=>true
 |a::r=>match TN h a with |true=>js h r |false=>false
def W8(h:Nat→HO):HO→Bool
 |.cells cs=>js h cs
 |.mapU _ BU=>Qf h BU
 |.hol _ _ _ _ a=>TN h a
 |_=>true
def uQ(st:St)(h:Nat→HO):List (Nat×AV)→Prop
 | []=>True
 |(j,a)::r=>(st.t j=a∧TN h a=true)∧uQ st h r
def uP(st:St)(h:Nat→HO):List (Nat×HO)→Prop
 | []=>True
 |(j,o)::r=>(st.h j=o∧W8 h o=true)∧uP st h r
def St.le(cx:Cx)(st:St)(s:LS):Prop :=
 uQ st s.st.h s.t∧uP st s.st.h s.h∧(∀j,s.hb j=.free∨(st.h j=s.hb j∧W8 s.st.h (s.hb j)=true)) ∧
 match cx.ext with
 |false=>True
 |true=>∀j,1000≤j→j<2000→st.h j≠.free→s.st.h j≠.free
def L7(cx:Cx)(ops:Array Oper)(dr:Bool)(st:St)(K:St→Prop):Prop :=
 match dr with
 |false=>TA cx ops.toList ops.toList st K
 |true=>Wt cx ops ops.toList [] st K
inductive Ex | normal | exit (id:Nat) | ret
def sn(h:Nat→HO)(o k:Nat)(K:(Nat→HO)→Prop):Prop :=
 match h o with
 |.cells cs=>match IQ cs k with
  |.msl r n=>match h r with
   |.arr sz es=>n=es.length∧K (AU (AU h r (.tok sz es.length)) o (.cells (Es cs k (.slice (.id r sz) es))))
   |_=>K h
  |_=>K h
 |_=>K h
def sf(h:Nat→HO)(o k j:Nat)(K:(Nat→HO)→Prop):Prop :=
 match h o with
 |.cells cs=>match IQ cs k with
  |.msl r n=>match h r with
   |.arr sz es=>match h j with
    |.free=>n=es.length∧K (AU (AU (AU h r .dead) j (.arr sz es)) o (.cells (Es cs k (.msl j n))))
    |_=>False
   |_=>False
  |_=>False
 |_=>False
def we(h:Nat→HO)(o k d:Nat)(K:(Nat→HO)→Prop):Prop :=
 match h o with
 |.cells cs=>match IQ cs k with
  |.slice (.ver r sz v) es=>match h r with
   |.var Gc v' _=>match h d with
    |.free=>(v=v'∧sz=Gc)∧K (AU (AU (AU h r (.vox v)) d (.tok sz es.length)) o (.cells (Es cs k (.slice (.id d sz) es))))
    |_=>False
   |_=>False
  |_=>K h
 |_=>False
def rZ(h:Nat→HO)(o k r:Nat)(K:(Nat→HO)→Prop):Prop :=
 match h o with
 |.cells cs=>match IQ cs k with
  |.slice (.id d sz) es=>match h d with
   |.tok Gc n=>match h r with
    |.vox v=>(es.length=n∧sz=Gc)∧K (AU (AU (AU h d .dead) r (.var sz (v+1) n)) o (.cells (Es cs k (.slice (.ver r sz (v+1)) es))))
    |_=>False
   |_=>False
  |_=>K h
 |_=>False
def uR(h:Nat→HO)(r:Nat)(K:(Nat→HO)→Prop):Prop :=
 match h r with
 |.free=>K (AU h r (.vox 0))
 |_=>False
def rY(h:Nat→HO)(o k:Nat)(K:(Nat→HO)→Prop):Prop :=
 match h o with
 |.cells cs=>match IQ cs k with
  |.mref r=>match h r with
   |.rom sh BU=>K (AU h o (.cells (Es cs k (.cmap sh BU))))
   |_=>False
  |_=>False
 |_=>False
def wt(h:Nat→HO)(o k j sz:Nat)(K:(Nat→HO)→Prop):Prop :=
 match h o with
 |.cells cs=>match IQ cs k with
  |.v (.slice none 0 0)=>match h j with
   |.free=>K (AU (AU h j (.arr sz [])) o (.cells (Es cs k (.msl j 0))))
   |_=>False
  |_=>False
 |_=>False
def tf(cx:Cx)(id:Nat)(h:Nat→HO)(K:(Nat→HO)→Prop):Prop :=
 match Gq cx.pl.ak (850000+id)with
 |some v=>K (dO h v)
 |none=>K h
def rX(cx:Cx)(id:Nat)(h:Nat→HO)(K:(Nat→HO)→Prop):Prop :=
 match Gq cx.pl.ak (800000+id)with
 |some v=>rY h (v % 10000) (v / 10000 % 100) K
 |none=>K h
def qG(cx:Cx)(id:Nat)(h:Nat→HO)(K:(Nat→HO)→Prop):Prop :=
 match Gq cx.pl.ak (810000+id)with
 |some v=>rY h (v % 10000) (v / 10000 % 100) K
 |none=>K h
def om(cx:Cx)(id:Nat)(h:Nat→HO)(K:(Nat→HO)→Prop):Prop :=
 match Gq cx.pl.ak (900000+id)with
 |some v=>wt h (v % 10000) (v / 10000 % 100) (v / 1000000 % 10000) (v / 10000000000) K
 |none=>K h
def ul(h:Nat→HO)(r:Nat)(K:(Nat→HO)→Prop):Prop :=
 match h r with
 |.hol sz es i c (.msl j m)=>match Nat.beq r j with
  |true=>False
  |false=>match h j with
   |.arr ZZ qs=>m=qs.length∧∃cs,es[i]?=some cs∧c<sz∧K (AU (AU (AU h j (.tok ZZ qs.length)) j .dead) r (.arr sz (es.set i (over cs c [.slice .none qs]))))
   |_=>False
 |_=>False
def nB(cx:Cx)(id:Nat)(h:Nat→HO)(K:(Nat→HO)→Prop):Prop :=
 match Gq cx.pl.ak (500000+id)with
 |some v=>we h (v % 10000) (v / 10000 % 100) (v / 1000000) K
 |none=>match Gq cx.pl.ak (600000+id)with
  |some v=>rZ h (v % 10000) (v / 10000 % 100) (v / 1000000) K
  |none=>match Gq cx.pl.ak (700000+id)with
   |some v=>uR h v K
   |none=>match Gq cx.pl.ak (950000+id)with
    |some v=>ul h v K
    |none=>tf cx id h fun h=>rX cx id h fun h=>qG cx id h fun h=>om cx id h K
def sj(st:St)(s k:Nat)(K:St→Prop):Prop :=
 match st.t s with
 |.msl r n=>match st.h r with
  |.arr sz es=>match k with
   |0=>n=es.length∧K ⟨GT st.t s (.slice .none es),AU (AU st.h r (.tok sz es.length)) r .dead⟩
   |k+1=>match Nat.beq r (k+1)with
    |true=>K st
    |false=>match st.h (k+1)with
     |.free=>n=es.length∧K ⟨GT st.t s (.msl (k+1) n),AU (AU st.h r .dead) (k+1) (.arr sz es)⟩
     |_=>False
  |_=>K st
 |_=>K st
def oZ(cx:Cx)(id:Nat)(st:St)(K:St→Prop):Prop :=
 match Iw cx.pl.cut id with
 |true=>match Gq cx.pl.ak (100000+id)with
  |none=>match Gq cx.pl.ak (200000+id)with
   |none=>match Gq cx.pl.ak (300000+id)with
    |none=>nB cx id st.h fun h'=>∃s:LS,St.le cx ⟨st.t,h'⟩ s∧K s.st
    |some v=>sf st.h (v % 10000) (v / 10000 % 100) (v / 1000000) fun h'=>∃s:LS,St.le cx ⟨st.t,h'⟩ s∧K s.st
   |some v=>sj st (v % 1000) (v / 1000) fun D3=>∃s:LS,St.le cx D3 s∧K s.st
  |some v=>sn st.h (v % 1000) (v / 1000) fun h'=>∃s:LS,St.le cx ⟨st.t,h'⟩ s∧K s.st
 |false=>K st
def Qz(cx:Cx)(c:Code)(Q:Ex→St→Prop)(st:St):Prop :=
 match c with
 |.skip=>Q .normal st
 |.label _=>Q .normal st
 |.region id ops dr=>oZ cx id st fun st=>match cx.pl.dyn with
  | []=>L7 cx ops dr st (Q .normal)
  |_=>∃n,L7 { cx with nid:=n } ops dr st (Q .normal)
 |.seq a b=>Qz cx a (fun e D3=>match e with |.normal=>Qz cx b Q D3 |e=>Q e D3) st
 |.cond c a b=>match ev st.t c with
  |.v (.bool true)=>Qz cx a Q st
  |.v (.bool false)=>Qz cx b Q st
  |_=>False
 |.block id c=>Qz cx c (fun e D3=>match e with |.exit j=>(bif Nat.beq j id then Q .normal D3 else Q (.exit j) D3) |e=>Q e D3) st
 |.loop c=>∃(α:Type) (I:α→LS) (μ:α→Nat),(∃x,St.le cx st (I x)) ∧
   ∀x,Qz cx c (fun e D3=>match e with | .normal=>∃y,μ y<μ x∧St.le cx D3 (I y) | e=>Q e D3) (I x).st
 |.exit id=>Q (.exit id) st
 |.ret=>Q .ret st
 |_=>False
def N0:List AV→Nat→AV
 | [],_=>.v undef
 |a::r,n=>match n with |0=>a |n+1=>N0 r n
def jR(T:Gf)(st:St):List ResultVar→(List AV→Prop)→Prop
 | [],K=>K []
 |.tmp i::r,K=>jR T st r fun l=>K (str st.h (st.t i)::l)
 |.cell a t::r,K=>HW T st.h t (st.t a) fun v=>jR T st r fun l=>K (str st.h v::l)
def jP(cx:Cx)(st:St)(rs:List ResultVar)(K:AV→Prop):Prop :=
 jR cx.T ⟨st.t,Oe st.h cx.pl.fin⟩ rs fun
  | [v]=>K v
  |vs=>K (.tup vs)
def l7(cx:Cx)(rs:List ResultVar)(K:AV→Prop)(e:Ex)(st:St):Prop :=
 match e with
 |.normal=>jP cx st rs K
 |.ret=>jP cx st rs K
 |.exit _=>False
def jS(T:Gf)(st:St):List ResultVar→(List AV→Prop)→Prop
 | [],K=>K []
 |.tmp i::r,K=>jS T st r fun l=>K (st.t i::l)
 |.cell a t::r,K=>HW T st.h t (st.t a) fun v=>jS T st r fun l=>K (v::l)
def bQ(cx:Cx)(st:St)(rs:List ResultVar)(σ:II)(Q:AV→(Nat→HO)→Prop):Prop :=
 jS cx.T ⟨st.t,Oe st.h cx.pl.fin⟩ rs fun
  | [v]=>Q (ren (Cj σ) (Oe st.h cx.pl.fin) v) (Fp σ (Oe st.h cx.pl.fin))
  |vs=>Q (ren (Cj σ) (Oe st.h cx.pl.fin) (.tup vs)) (Fp σ (Oe st.h cx.pl.fin))
def WI(cx:Cx)(rs:List ResultVar)(σ:II)(Q:AV→(Nat→HO)→Prop)(e:Ex)(st:St):Prop :=
 match e with
 |.normal=>bQ cx st rs σ Q
 |.ret=>bQ cx st rs σ Q
 |.exit _=>False
def If(σ:II):List (Nat×HO)→Bool
 | []=>true
 |(i,_)::r=>Nat.ble 1000 i&&Nat.blt i 2000&&(match Cj σ i with |some j=>Nat.beq j i |none=>false)&&If σ r
end Go.Eng
