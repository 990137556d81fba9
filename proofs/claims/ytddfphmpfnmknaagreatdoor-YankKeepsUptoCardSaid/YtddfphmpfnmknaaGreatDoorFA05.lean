/- Lemmas for the claims of this seat, without a condition: part 5 (EngA). -/
import Derived.Test.YtddfphmpfnmknaaGreatDoorFA00
import Derived.WalkKit
import Derived.Still
import Derived.RangeFuncSeq
import Derived.OrdersIn
import Derived.TacticsIn
namespace Go.Eng
inductive Tk | none | full (sz:Nat) | id (r sz:Nat) | ver (r sz v:Nat)
inductive KS | int (k:IntKind) | str | bool
structure EE where
 agg:Bool
 l:List KS
inductive AV
 |v (x:Value)
 |slice (tk:Tk) (es:List (List AV))
 |msl (r n:Nat)
 |agg (cs:List AV)
 |tup (vs:List AV)
 |cptr (cs:List AV)
 |ref (r off:Nat)
 |eref (r n sz i off:Nat)
 |mref (r:Nat)
 |cmap (sh:EE) (BX:List (Value×AV))
 |clo (f:Nat) (caps:List AV)
 |junk
inductive HO
 |free
 |dead
 |cells (cs:List AV)
 |ro (cs:List AV)
 |tok (sz n:Nat)
 |var (sz v n:Nat)
 |vox (v:Nat)
 |arr (sz:Nat) (es:List (List AV))
 |map (sh:EE) (BX:List (Value×AV))
 |mapU (sh:EE) (BX:List (Value×AV))
 |rom (sh:EE) (BX:List (Value×AV))
 |iter (all rem:List (Value×AV)) (FA:Option (Value×AV))
 |raw (b:Nat) (ob:Obj)
 |hol (sz:Nat) (es:List (List AV)) (i c:Nat) (a:AV)
structure St where
 t:Nat→AV
 h:Nat→HO
def Ab:Nat→HO:=fun _=>.free
def AT(h:Nat→HO)(r:Nat)(o:HO):Nat→HO:=fun i=>bif Nat.beq i r then o else h i
def G4(t:Nat→AV)(d:Nat)(v:AV):Nat→AV:=fun i=>bif Nat.beq i d then v else t i
def St.put(st:St)(d:Option Nat)(v:AV)(h:Nat→HO):St :=
 match d with
 |none=>⟨st.t,h⟩
 |some d=>⟨G4 st.t d v,h⟩
def ev(t:Nat→AV):Operand→AV
 |.tmp i=>t i
 |.const v=>.v v
 |.global g=>.v (.pointer (some ⟨g,0,none⟩))
 |.func f=>.v (.func (.func f) #[] #[])
inductive TD
 |int (k:IntKind) |bool |string |slice (e:Nat) |array (n e:Nat) |struct (fs:List (Nat×Nat)) |ptr (e:Nat) |map (k e:Nat) |func |iface |other
structure TI where
 d:TD
 size:Nat
 bytes:Nat
 zero:Value
 eqok:Bool
def TI.zc(i:TI):List Value:=match i.zero with | .agg cs=>cs.toList | v=>[v]
abbrev Gs:=Nat→TI
structure RO where
 frz:List Nat
 tok:List (Nat×Nat)
 arr:List (Nat×Nat)
 fz:List (Nat×List Nat)
 fin:List Nat
 mku:List Nat
 dyn:List Nat
 tz:List (Nat×(Nat×Nat×Nat×Nat))
 dc:List (Nat×Nat)
 ak:List (Nat×Nat)
 cut:List Nat
def IH(l:List Nat)(n:Nat):Bool :=
 match l with
 | []=>false
 |x::r=>bif Nat.beq x n then true else IH r n
def GB(l:List (Nat×Nat))(n:Nat):Option Nat :=
 match l with
 | []=>none
 |(x,y)::r=>bif Nat.beq x n then some y else GB r n
def str0(h:Nat→HO):AV→AV
 |.slice _ es=>.slice .none es
 |.ref r off=>match h r with |.ro cs=>.cptr (cs.drop off) |_=>.junk
 |.mref r=>match h r with |.rom sh BX=>.cmap sh BX |_=>.junk
 |.v x=>.v x
 |.cptr cs=>.cptr cs
 |.cmap s m=>.cmap s m
 |_=>.junk
def str(h:Nat→HO):AV→AV
 |.agg cs=>.agg (cs.map (str0 h))
 |.clo f cs=>.clo f (cs.map (str0 h))
 |a=>str0 h a
def Ro(h:Nat→HO)(BX:List (Value×AV)):List (Value×AV):=BX.map fun p=>(p.1,str h p.2)
def fo(h:Nat→HO)(r:Nat):Nat→HO :=
 match h r with
 |.cells cs=>AT h r (.ro (cs.map (str h)))
 |.map sh BX=>AT h r (.rom sh BX)
 |.mapU sh BX=>AT h r (.rom sh (Ro h BX))
 |_=>h
def OF(h:Nat→HO):List Nat→Nat→HO
 | []=>h
 |r::l=>OF (fo h r) l
def mL(l:List (Nat×List Nat))(n:Nat):List Nat :=
 match l with
 | []=>[]
 |(x,y)::r=>bif Nat.beq x n then y else mL r n
def pz(l:List (Nat×(Nat×Nat×Nat×Nat)))(n:Nat):Option (Nat×Nat×Nat×Nat) :=
 match l with
 | []=>none
 |(x,y)::r=>bif Nat.beq x n then some y else pz r n
def I3(l:List AV)(n:Nat):AV :=
 match l with
 | []=>.junk
 |x::r=>match n with |0=>x |n+1=>I3 r n
def Ev(cs:List AV)(o:Nat)(v:AV):List AV :=
 match cs with
 | []=>[]
 |c::cs=>match o with |0=>v::cs |o+1=>c::Ev cs o v
def tj(h:Nat→HO)(r k j sz:Nat):Nat→HO :=
 match h r with
 |.cells cs=>match I3 cs k with
  |.v (.slice none 0 0)=>match h j with
   |.free=>AT (AT h j (.tok sz 0)) r (.cells (Ev cs k (.slice (.id j sz) [])))
   |_=>h
  |_=>h
 |_=>h
def rsv(h:Nat→HO):AV→AV
 |.ref r off=>match h r with |.ro cs=>.cptr (cs.drop off) |_=>.ref r off
 |.mref r=>match h r with |.rom sh BX=>.cmap sh BX |_=>.mref r
 |a=>a
def one:AV→Bool
 |.v x=>x.oneCell'
 |.agg _ |.tup _ |.junk=>false
 |_=>true
def GV:List AV→Bool
 | []=>true
 |a::r=>match one a with |true=>GV r |false=>false
def sw:AV→List AV
 |.agg cs=>cs
 |a=>[a]
def BR(a:Int):Prop:=-9223372036854775808≤a∧a<9223372036854775808
def LY(cs:List AV)(K:AV→Prop):Prop :=
 match cs with
 |a::_=>K a
 | []=>False
def IP(p:Prop)(K:AV→Prop):Prop:=(p→K (.v (.bool true)))∧(¬p→K (.v (.bool false)))
def Ls(T:Gs)(t:Nat)(cs:List AV)(K:AV→Prop):Prop :=
 match(T t).d with
 |.struct _=>(T t).size≤cs.length∧K (.agg (cs.take (T t).size))
 |.array _ _=>(T t).size≤cs.length∧K (.agg (cs.take (T t).size))
 |.bool=>LY cs fun |.v (.bool b)=>(b=true→K (.v (.bool true)))∧(b=false→K (.v (.bool false))) |_=>False
 |.other=>False
 |_=>LY cs K
def lI:List AV→List AV→Prop
 | [],[]=>True
 |.v (.int _ a)::r,.v (.int _ b)::s=>a=b∧lI r s
 |.v (.string a)::r,.v (.string b)::s=>a=b∧lI r s
 |.v (.bool a)::r,.v (.bool b)::s=>a=b∧lI r s
 |_,_=>False
def pn:IntKind→IntKind→Bool
 |.i64,.i64 |.u8,.u8 |.u32,.u32 |.i32,.i32 |.u64,.u64 |.u16,.u16 |.i16,.i16 |.i8,.i8=>true
 |_,_=>false
def Nv(f:Nat→Option (List KS)):Nat→List (Nat×Nat)→Option (List KS)
 |_,[]=>some []
 |n,(t,o)::r=>match Nat.beq o n with
  |true=>match f t with
   |some a=>match Nv f (n+a.length) r with
    |some b=>some (a++b)
    |none=>none
   |none=>none
  |false=>none
def Hw(T:Gs):Nat→Nat→Option (List KS)
 |0,_=>none
 |n+1,t=>match(T t).d with
  |.int k=>match(T t).size with |1=>some [.int k] |_=>none
  |.string=>match(T t).size with |1=>some [.str] |_=>none
  |.bool=>match(T t).size with |1=>some [.bool] |_=>none
  |.struct fs=>match(T t).eqok with
   |true=>match Nv (Hw T n) 0 fs with
    |some l=>match Nat.beq l.length (T t).size with |true=>some l |false=>none
    |none=>none
   |false=>none
  |_=>none
def M6:KS→Value→Bool
 |.int k,.int k' _=>pn k k'
 |.str,.string _=>true
 |.bool,.bool _=>true
 |_,_=>false
def XU:List KS→List AV→Bool
 | [],[]=>true
 |k::r,.v x::s=>match M6 k x with |true=>XU r s |false=>false
 |_,_=>false
def oY(T:Gs)(t:Nat)(x y:AV)(K:AV→Prop):Prop :=
 match(T t).d with
 |.bool=>match x,y with
  |.v (.bool a),.v (.bool b)=>K (.v (.bool (a == b)))
  |_,_=>False
 |.struct _=>match x,y with
  |.agg xs,.agg ys=>match Hw T 8 t with
   |some l=>match XU l xs with
    |true=>match XU l ys with
     |true=>IP (lI xs ys) K
     |false=>False
    |false=>False
   |none=>False
  |_,_=>False
 |.slice _=>match x,y with
  |.slice _ es,.v (.slice none 0 0)=>(es≠[]→K (.v (.bool false)))∧(es=[]→K (.v (.bool true))∧K (.v (.bool false)))
  |.v (.slice none 0 0),.v (.slice none 0 0)=>K (.v (.bool true))
  |_,_=>False
 |.ptr _=>match x,y with
  |.v (.pointer none),.v (.pointer none)=>K (.v (.bool true))
  |.cptr _,.v (.pointer none)=>K (.v (.bool false))
  |.ref _ _,.v (.pointer none)=>K (.v (.bool false))
  |.eref _ _ _ _ _,.v (.pointer none)=>K (.v (.bool false))
  |_,_=>False
 |_=>False
def cP(K:AV→Prop):AV→Prop
 |.v (.bool true)=>K (.v (.bool false))
 |.v (.bool false)=>K (.v (.bool true))
 |_=>False
def Qz(op:BinOp)(k:IntKind)(a b:Int):Int :=
 match op with
 |.and=>k.wrap (BitVec.ofInt k.bits a &&& BitVec.ofInt k.bits b).toNat
 |.or=>k.wrap (BitVec.ofInt k.bits a |||BitVec.ofInt k.bits b).toNat
 |_=>k.wrap (BitVec.ofInt k.bits a ^^^ BitVec.ofInt k.bits b).toNat
def dv(op:BinOp)(k:IntKind)(a b:Int):Int :=
 match op with
 |.shl=>k.wrap (a*2 ^ min b.toNat k.bits)
 |_=>a.fdiv (2 ^ min b.toNat k.bits)
def TL(op:BinOp)(k:IntKind)(a b:Int)(K:AV→Prop):Prop :=
 match op with
 |.shl=>0≤b∧K (.v (.int k (dv .shl k a b)))
 |.shr=>0≤b∧K (.v (.int k (dv .shr k a b)))
 |_=>False
def VM(op:BinOp)(k:IntKind)(a b:Int)(K:AV→Prop):Prop :=
 match op with
 |.quo=>(0≤a∧0<b∧k.wrap (a / b)=a / b)∧K (.v (.int k (a / b)))
 |.rem=>(0≤a∧0<b)∧K (.v (.int k (a % b)))
 |.and=>K (.v (.int k (Qz .and k a b)))
 |.or=>K (.v (.int k (Qz .or k a b)))
 |.xor=>K (.v (.int k (Qz .xor k a b)))
 |.add=>K (.v (.int k (k.wrap (a+b))))
 |.sub=>K (.v (.int k (k.wrap (a-b))))
 |.mul=>K (.v (.int k (k.wrap (a*b))))
 |op=>TL op k a b K
def RT(op:BinOp)(k:IntKind)(a b:Int)(K:AV→Prop):Prop :=
 match k with
 |.i64=>match op with
  |.add=>BR (a+b)∧K (.v (.int .i64 (a+b)))
  |.sub=>BR (a-b)∧K (.v (.int .i64 (a-b)))
  |.mul=>BR (a*b)∧K (.v (.int .i64 (a*b)))
  |.quo=>(0≤a∧0<b∧BR a)∧K (.v (.int .i64 (a / b)))
  |.rem=>(0≤a∧0<b)∧K (.v (.int .i64 (a % b)))
  |op=>VM op .i64 a b K
 |k=>VM op k a b K
def RX(T:Gs)(op:BinOp)(t:Nat)(x y:AV)(K:AV→Prop):Prop :=
 match x,y with
 |.v (.int k a),.v (.int k' b)=>match pn k k' with
  |false=>TL op k a b K
  |true=>match op with
   |.eql=>IP (a=b) K
   |.neq=>IP (a≠b) K
   |.lss=>IP (a<b) K
   |.leq=>IP (a≤b) K
   |.gtr=>IP (b<a) K
   |.geq=>IP (b≤a) K
   |op=>RT op k a b K
 |.v (.string a),.v (.string b)=>match op with
   |.eql=>IP (a=b) K
   |.neq=>IP (a≠b) K
   |.lss=>IP (Op.bytesLess a.toList b.toList=true) K
   |.geq=>IP (Op.bytesLess a.toList b.toList=false) K
   |.gtr=>IP (Op.bytesLess b.toList a.toList=true) K
   |.leq=>IP (Op.bytesLess b.toList a.toList=false) K
   |.add=>((a.size+b.size:Nat):Int)≤9223372036854775807∧K (.v (.string (a++b)))
   |_=>False
 |x,y=>match op with
  |.eql=>oY T t x y K
  |.neq=>oY T t x y (cP K)
  |_=>False
def W3(T:Gs)(op:BinOp)(t:Nat)(Y:Operand)(x y:AV)(K:AV→Prop):Prop :=
 match Y with
 |.const .nilIface=>match x with
  |.v .nilIface=>match(T t).d with
   |.iface=>match op with
    |.eql=>K (.v (.bool true))
    |.neq=>K (.v (.bool false))
    |_=>False
   |_=>False
  |_=>False
 |_=>RX T op t x y K
def Xd(T:Gs)(s t:Nat)(x:AV)(K:AV→Prop):Prop :=
 match(T s).d,(T t).d,x with
 |.int _,.int .i64,.v (.int _ n)=>BR n∧K (.v (.int .i64 n))
 |.int _,.int k,.v (.int _ n)=>K (.v (.int k (k.wrap n)))
 |.string,.string,.v (.string s)=>K (.v (.string s))
 |.slice e,.string,.slice _ es=>match(T e).d with
  |.int .u8=>∃l:List UInt8,es=l.map (fun b=>[AV.v (.int .u8 b.toNat)])∧K (.v (.string ⟨l.toArray⟩))
  |_=>False
 |_,_,_=>False
def Wa(fs:List (Nat×Nat))(n:Nat):Option (Nat×Nat) :=
 match fs with
 | []=>none
 |x::r=>match n with |0=>some x |n+1=>Wa r n
def Sr(T:Gs)(s f:Nat)(x:AV)(K:AV→Prop):Prop :=
 match(T s).d with
 |.struct fs=>match Wa fs f with
  |some (t,o)=>match(T t).size with
   |0=>False
   |_+1=>match x with
    |.cptr cs=>K (.cptr (cs.drop o))
    |.ref r off=>K (.ref r (off+o))
    |.eref r n z i off=>K (.eref r n z i (off+o))
    |_=>False
  |none=>False
 |_=>False
def Yj(T:Gs)(t:Nat)(cs:List AV)(K:AV→Prop):Prop:=Ls T t cs K
def Ou(T:Gs)(s f:Nat)(x:AV)(K:AV→Prop):Prop :=
 match(T s).d,x with
 |.struct fs,.agg cs=>match Wa fs f with
  |some (t,o)=>Yj T t (cs.drop o) K
  |none=>False
 |_,_=>False
def Jn(T:Gs)(t:Nat)(x ix:AV)(K:AV→Prop):Prop :=
 match(T t).d,ix with
 |.slice e,.v (.int .i64 i)=>match(T e).size with
  |0=>False
  |_+1=>match x with
   |.slice _ es=>∃cs,(0≤i∧es[i.toNat]?=some cs)∧cs.length=(T e).size∧K (.cptr cs)
   |.msl r n=>(0≤i∧i<n)∧K (.eref r n (T e).size i.toNat 0)
   |_=>False
 |.array n e,.v (.int .i64 i)=>match(T e).size with
  |0=>False
  |_+1=>match x with
   |.cptr cs=>(0≤i∧i<n)∧K (.cptr (cs.drop (i.toNat*(T e).size)))
   |.ref r off=>(0≤i∧i<n)∧K (.ref r (off+i.toNat*(T e).size))
   |_=>False
 |_,_=>False
def SV(T:Gs)(t:Nat)(x ix:AV)(K:AV→Prop):Prop :=
 match(T t).d,x,ix with
 |.string,.v (.string s),.v (.int .i64 i)=>∃b:UInt8,(0≤i∧s.data[i.toNat]?=some b)∧K (.v (.int .u8 b.toNat))
 |.array n e,.agg cs,.v (.int .i64 i)=>(0≤i∧i<n)∧Yj T e (cs.drop (i.toNat*(T e).size)) K
 |_,_,_=>False
def B2(t:Nat→AV):Option Operand→Option (Option Int)
 |none=>some none
 |some x=>match ev t x with |.v (.int .i64 i)=>some (some i) |_=>none
def over{α:Type}(cs:List α)(o:Nat)(vs:List α):List α :=
 match cs with
 | []=>[]
 |c::cs=>match o with
  |o+1=>c::over cs o vs
  |0=>match vs with
   | []=>c::cs
   |v::vs=>v::over cs 0 vs
structure Gh where
 ρ:Nat→Value
 ln:Nat→Nat
 tk:Nat→Bool
 own:Nat→Option Nat
 S:Nat→Nat→Prop
def I6:List KS→List Value→Bool
 | [],[]=>true
 |k::r,v::s=>match M6 k v with |true=>I6 r s |false=>false
 |_,_=>false
def Vm(sh:EE)(v:Value):Bool :=
 match sh.agg,v with
 |true,.agg cs=>I6 sh.l cs.toList
 |false,v=>I6 sh.l [v]
 |_,_=>false
def G8(sh:EE)(es:Array MapEntry)(ck:Nat)(BX:List (Value×AV)):Prop :=
 es.size=BX.length∧(∀(i:Nat) (kv:Value×AV) (e:MapEntry),BX[i]?=some kv→es[i]?=some e→e.key=kv.1) ∧
 (∀kv∈BX,Vm sh kv.1=true)∧(BX.map (·.1)).Nodup∧(∀(i:Nat) (e:MapEntry),es[i]?=some e→e.born<ck) ∧
 ∀(i j:Nat) (e e' : MapEntry),es[i]?=some e→es[j]?=some e'→e.born=e'.born→i=j
inductive BD(g:Gh)(w:World):(Nat→Prop)→AV→Value→Prop
 |v (U:Nat→Prop) (x:Value):BD g w U (.v x) x
 |junk (U:Nat→Prop) (x:Value):BD g w U .junk x
 |snil (U:Nat→Prop) (a:Option Addr) (cap:Nat):BD g w U (.slice .none []) (.slice a 0 cap)
 |slice (U:Nat→Prop) (es:List (List AV)) (b off sz cap:Nat) (val:Nat→Nat→Value) (hc:es.length≤cap)
   (hl:∀(i:Nat) (cs:List AV),es[i]?=some cs→cs.length=sz)
   (Dw:∀(i:Nat) (cs:List AV) (j:Nat) (av:AV),es[i]?=some cs→cs[j]?=some av →
    g.S b (off+i*sz+j)∧w.cell? ⟨b,off+i*sz+j,none⟩=some (val i j)∧(val i j).oneCell'=true)
   (Ed:∀(i:Nat) (cs:List AV) (j:Nat) (av:AV),es[i]?=some cs→cs[j]?=some av→BD g w (fun _=>False) av (val i j)) :
   BD g w U (.slice .none es) (.slice (some ⟨b,off,none⟩) es.length cap)
 |tok (U:Nat→Prop) (r sz:Nat) (es:List (List AV)) (x:Value) (h:BD g w U (.slice .none es) x) (hl:∀c∈es,c.length=sz) (hu:U r) (ht:g.tk r=true) (hn:es.length≤g.ln r)
   (hx:es.length=g.ln r→x=g.ρ r):BD g w U (.slice (.id r sz) es) x
 |ver (U:Nat→Prop) (r sz v:Nat) (es:List (List AV)) (x:Value) (h:BD g w U (.slice .none es) x) (hl:∀c∈es,c.length=sz) (hu:U r) (ht:g.tk r=true) (hn:v≤g.ln r)
   (hx:v=g.ln r→x=g.ρ r):BD g w U (.slice (.ver r sz v) es) x
 |full (U:Nat→Prop) (sz:Nat) (es:List (List AV)) (x:Value) (h:BD g w U (.slice .none es) x) (hl:∀c∈es,c.length=sz) (hx:∃a,x=.slice a es.length es.length):BD g w U (.slice (.full sz) es) x
 |msl (U:Nat→Prop) (r n:Nat) (a:Option Addr) (cap:Nat) (hu:U r) (ht:g.tk r=true) (hn:n≤g.ln r) (ha:n=0∨∃b,a=some ⟨b,0,none⟩) (hx:n=g.ln r→.slice a n cap=g.ρ r) :
   BD g w U (.msl r n) (.slice a n cap)
 |agg (U:Nat→Prop) (cs:List AV) (vs:Array Value) (hs:vs.size=cs.length) (h1:∀(i:Nat) (x:Value),vs[i]?=some x→x.oneCell'=true)
   (h:∀(i:Nat) (av:AV) (x:Value),cs[i]?=some av→vs[i]?=some x→BD g w U av x):BD g w U (.agg cs) (.agg vs)
 |tup (U:Nat→Prop) (cs:List AV) (vs:Array Value) (hs:vs.size=cs.length)
   (h:∀(i:Nat) (av:AV) (x:Value),cs[i]?=some av→vs[i]?=some x→BD g w U av x):BD g w U (.tup cs) (.tuple vs)
 |cptr (U:Nat→Prop) (cs:List AV) (b off:Nat) (val:Nat→Value)
   (Dw:∀(j:Nat) (av:AV),cs[j]?=some av→g.S b (off+j)∧w.cell? ⟨b,off+j,none⟩=some (val j)∧(val j).oneCell'=true)
   (Ed:∀(j:Nat) (av:AV),cs[j]?=some av→BD g w (fun _=>False) av (val j)) :
   BD g w U (.cptr cs) (.pointer (some ⟨b,off,none⟩))
 |ref (U:Nat→Prop) (r off b:Nat) (hu:U r) (ht:g.tk r=false) (hx:g.ρ r=.pointer (some ⟨b,0,none⟩)):BD g w U (.ref r off) (.pointer (some ⟨b,off,none⟩))
 |eref (U:Nat→Prop) (r n sz i off b cap:Nat) (hu:U r) (ht:g.tk r=true) (hn:i<n∧n≤g.ln r) (hx:n=g.ln r→g.ρ r=.slice (some ⟨b,0,none⟩) n cap) :
   BD g w U (.eref r n sz i off) (.pointer (some ⟨b,i*sz+off,none⟩))
 |mref (U:Nat→Prop) (r b:Nat) (hu:U r) (ht:g.tk r=false) (hx:g.ρ r=.map (some b)):BD g w U (.mref r) (.map (some b))
 |cmap (U:Nat→Prop) (sh:EE) (BX:List (Value×AV)) (b:Nat) (es:Array MapEntry) (ck:Nat) (hS:g.S b 0) (hb:w.heap[b]?=some (.map es ck)) (hm:G8 sh es ck BX)
   (h:∀(i:Nat) (kv:Value×AV) (e:MapEntry),BX[i]?=some kv→es[i]?=some e→BD g w (fun _=>False) kv.2 e.val):BD g w U (.cmap sh BX) (.map (some b))
 |clo (U:Nat→Prop) (f:Nat) (cs:List AV) (vs:Array Value) (hs:vs.size=cs.length)
   (h:∀(i:Nat) (av:AV) (x:Value),cs[i]?=some av→vs[i]?=some x→BD g w U av x):BD g w U (.clo f cs) (.func (.func f) #[] vs)
def HO.live:HO→Prop
 |.free |.dead |.vox _ |.ro _ |.rom _ _=>False
 |_=>True
def AP(h:Nat→HO)(r:Nat):Prop:=h r≠.free
def Fi:Nat→Prop:=fun _=>False
def Cu(g:Gh)(w:World)(U:Nat→Prop)(cs:List AV)(vs:List Value):Prop :=
 vs.length=cs.length∧(∀x∈vs,x.oneCell'=true)∧∀(i:Nat) (av:AV) (x:Value),cs[i]?=some av→vs[i]?=some x→BD g w U av x
def Oc:List Nat→Code→Bool
 |bs,.block id c=>Oc (id::bs) c
 |bs,.seq a b=>Oc bs a||Oc bs b
 |bs,.cond _ a b=>Oc bs a||Oc bs b
 |bs,.loop c=>Oc bs c
 |bs,.exit id=>!(bs.any fun i=>Nat.beq i id)
 |_,_=>false
def pE:Obj→Bool
 |.loop r=>Oc [] r.body
 |_=>false
def D6(g:Gh)(w:World)(U:Nat→Prop)(r:Nat):HO→Prop
  |.free |.dead=>True
  |.cells cs=>g.tk r=false∧∃b E vs,g.own r=some b∧g.ρ r=.pointer (some ⟨b,0,none⟩)∧w.heap[b]?=some (.cells vs E (0,0))∧Cu g w U cs vs.toList∧∀o,¬g.S b o
  |.ro cs=>g.tk r=false∧∃b,g.ρ r=.pointer (some ⟨b,0,none⟩)∧BD g w Fi (.cptr cs) (.pointer (some ⟨b,0,none⟩))
  |.tok sz n=>g.tk r=true∧g.ln r=n∧∃a cap,g.ρ r=.slice a n cap∧(n=cap∧g.own r=none ∨
      n≤cap∧∃b E vs off,a=some ⟨b,off,none⟩∧g.own r=some b∧w.heap[b]?=some (.cells vs E (0,0))∧vs.size=off+cap*sz∧∀o,g.S b o→o<off+n*sz)
  |.var sz v n=>g.tk r=true∧g.ln r=v∧∃a cap,g.ρ r=.slice a n cap∧(n=cap∧g.own r=none ∨
      n≤cap∧∃b E vs off,a=some ⟨b,off,none⟩∧g.own r=some b∧w.heap[b]?=some (.cells vs E (0,0))∧vs.size=off+cap*sz∧∀o,g.S b o→o<off+n*sz)
  |.vox v=>g.tk r=true∧g.ln r=v
  |.arr sz es=>g.tk r=true∧g.ln r=es.length∧(∀cs∈es,cs.length=sz)∧(es=[]∧g.ρ r=.slice none 0 0∧g.own r=none ∨
      ∃b cap E vs,g.ρ r=.slice (some ⟨b,0,none⟩) es.length cap∧g.own r=some b∧es.length≤cap∧w.heap[b]?=some (.cells vs E (0,0))∧vs.size=cap*sz ∧
        Cu g w Fi es.flatten (vs.toList.take (es.length*sz))∧∀o,¬g.S b o)
  |.map sh BX=>g.tk r=false∧∃b es ck,g.own r=some b∧g.ρ r=.map (some b)∧w.heap[b]?=some (.map es ck)∧G8 sh es ck BX ∧
      (∀(i:Nat) (kv:Value×AV) (e:MapEntry),BX[i]?=some kv→es[i]?=some e→BD g w Fi kv.2 e.val)∧∀o,¬g.S b o
  |.mapU sh BX=>g.tk r=false∧∃b es ck,g.own r=some b∧g.ρ r=.map (some b)∧w.heap[b]?=some (.map es ck)∧G8 sh es ck BX ∧
      (∀(i:Nat) (kv:Value×AV) (e:MapEntry),BX[i]?=some kv→es[i]?=some e→BD g w U kv.2 e.val)∧∀o,¬g.S b o
  |.rom sh BX=>g.tk r=false∧∃b,g.ρ r=.map (some b)∧BD g w Fi (.cmap sh BX) (.map (some b))
  |.iter all rem FA=>g.tk r=false∧∃b mb JT seen st es ck,g.own r=some b∧g.ρ r=.pointer (some ⟨b,0,none⟩)∧w.heap[b]?=some (.mapIter (some mb) JT seen st) ∧
      g.S mb 0∧w.heap[mb]?=some (.map es ck)∧(∃sh,G8 sh es ck all)∧JT=ck∧st=ck ∧
      (∀(i:Nat) (kv:Value×AV) (e:MapEntry),all[i]?=some kv→es[i]?=some e→BD g w Fi kv.2 e.val) ∧
      (rem.Nodup∧∀kv∈rem,kv∈all)∧(∀(i:Nat) (kv:Value×AV) (e:MapEntry),all[i]?=some kv→es[i]?=some e→(kv∈rem↔e.born∉seen)) ∧
      (match FA with | none=>True | some kv=>∃(i:Nat) (e:MapEntry),all[i]?=some kv∧es[i]?=some e∧seen.back?=some e.born)∧∀o,¬g.S b o
  |.hol sz es i c a=>g.tk r=true∧g.ln r=es.length∧(∀cs∈es,cs.length=sz)∧∃b cap E vs,g.ρ r=.slice (some ⟨b,0,none⟩) es.length cap∧g.own r=some b∧es.length≤cap∧w.heap[b]?=some (.cells vs E (0,0))∧vs.size=cap*sz ∧
        Cu g w Fi es.flatten (vs.toList.take (es.length*sz))∧(∀o,¬g.S b o)∧i*sz+c<es.length*sz∧∃x,vs[i*sz+c]?=some x∧BD g w U a x
  |.raw b ob=>g.tk r=false∧g.own r=some b∧w.heap[b]?=some ob∧pE ob=true∧∀o,¬g.S b o
def gB:Nat:=0
def p7:List (Nat×Nat×Option Value):=[]
def VB(g:Gh)(w:World):Prop:=(g.S gB 0∧∃m,w.cell? ⟨gB,0,none⟩=some (.int .i64 m))∧∀x∈p7,g.S x.1 x.2.1∧w.cell? ⟨x.1,x.2.1,none⟩=x.2.2
structure DB(w0:World)(g0:Gh)(h0:Nat→HO)(h:Nat→HO)(g:Gh)(w:World):Prop where
 os:w.os=w0.os
 tape:w.tape=w0.tape
 output:w.output=w0.output
 size:w0.heap.size≤w.heap.size
 frame:∀b,b<w0.heap.size→(∀r,(h0 r).live→g0.own r≠some b)→w.heap[b]?=w0.heap[b]?
 slt:∀b o,g.S b o→b<w.heap.size
 objs:∀r,D6 g w (AP h) r (h r)
 inj:∀r r' b,(h r).live→(h r').live→g.own r=some b→g.own r'=some b→r=r'
 loc:∀r b,(h r).live→g.own r=some b→b<w.heap.size∧(w0.heap.size≤b∨∃r',(h0 r').live∧g0.own r'=some b)
 sg:∀b o,g.S b o→g0.S b o∨w0.heap.size≤b∨∃r',(h0 r').live∧g0.own r'=some b
 glob:VB g w
def EA(g:Gh)(w:World)(g' : Gh)(w' : World):Prop :=
 ∀b o,g.S b o→g'.S b o∧w'.cell? ⟨b,o,none⟩=w.cell? ⟨b,o,none⟩∧∀es ck,w.heap[b]?=some (.map es ck)→w'.heap[b]?=some (.map es ck)
def JX(g g' : Gh)(U:Nat→Prop):Prop :=
 ∀i,U i→g'.tk i=g.tk i∧g.ln i≤g'.ln i∧(g.tk i=false→g'.ρ i=g.ρ i)∧(g'.ln i=g.ln i→g'.ρ i=g.ρ i)
structure Le(h:Nat→HO)(g:Gh)(w:World)(h' : Nat→HO)(g' : Gh)(w' : World):Prop where
 gh:JX g g' (AP h)
 us:∀i,AP h i→AP h' i
 keeps:EA g w g' w'
def F1 (P : Program) (f : Nat) : Prop := ∃ fn, P.funcs[f]? = some fn ∧ (fn.name == "runtime.NumGoroutine") = false ∧ fn.body.isNone = false
def A3(P:Program)(f:Nat)(args:List AV)(h0:Nat→HO)(Q:AV→(Nat→HO)→Prop):Prop :=
 F1 P f∧∀(g:Gh) (w:World) (vals:Array Value),vals.size=args.length→(∀(i:Nat) (av:AV) (x:Value),args[i]?=some av→vals[i]?=some x→BD g w (AP h0) av x) →
  DB w g h0 h0 g w →
  Calls P f vals w fun e w'=>∃v r h' g',e=.returned v∧Q r h'∧BD g' w' (AP h') r v∧DB w g h0 h' g' w'∧Le h0 g w h' g' w'
def Jc(P:Program)(f:Nat)(args:List AV)(res:AV):Prop:=A3 P f args Ab fun r h'=>r=res∧h'=Ab
def IM(P:Program)(Y:Gh→World→Prop)(l:Nat)(args:List AV)(h0:Nat→HO)(Q:AV→(Nat→HO)→Prop):Prop :=
 ∀(g:Gh) (w:World) (vals:Array Value),vals.size=args.length→(∀(i:Nat) (av:AV) (x:Value),args[i]?=some av→vals[i]?=some x→BD g w (AP h0) av x) →
  DB w g h0 h0 g w→Y g w →
  YieldAt Fence.wide 0 P l vals w fun e w'=>∃v r h' g',e=.returned v∧Q r h'∧BD g' w' (AP h') r v∧DB w g h0 h' g' w'∧Le h0 g w h' g' w'
def mw(P:Program)(Y:Gh→World→Prop)(f:Nat)(args:List AV)(h0:Nat→HO)(Q:AV→(Nat→HO)→Prop):Prop :=
 F1 P f∧∀(g:Gh) (w:World) (vals:Array Value),vals.size=args.length→(∀(i:Nat) (av:AV) (x:Value),args[i]?=some av→vals[i]?=some x→BD g w (AP h0) av x) →
  DB w g h0 h0 g w→Y g w →
  Calls P f vals w fun e w'=>∃v r h' g',e=.returned v∧Q r h'∧BD g' w' (AP h') r v∧DB w g h0 h' g' w'∧Le h0 g w h' g' w'
def F0(P:Program)(Y:Nat→Gh→World→Prop)(F:AV)(args:List AV)(h:Nat→HO)(Q:AV→(Nat→HO)→Prop):Prop :=
 match F with
 |.v (.func (.func f) ⟨[]⟩ ⟨[]⟩)=>A3 P f args h Q
 |.clo f caps=>A3 P f (args++caps) h Q
 |.v (.func (.yield l) ⟨[]⟩ ⟨[]⟩)=>IM P (Y l) l args h Q
 |_=>False
def Pp(P:Program)(F:AV)(args:List AV)(res:AV):Prop :=
 match F with
 |.v (.func (.func f) ⟨[]⟩ ⟨[]⟩)=>Jc P f args res
 |.clo f caps=>Jc P f (args++caps) res
 |_=>False
structure Cx where
 P:Program
 T:Gs
 pl:RO
 ext:Bool
 nid:Nat
 yp:Nat→List (Nat×Nat)→Gh→World→Prop
def Kp(cx:Cx)(d:Nat):Nat:=bif IH cx.pl.dyn d then cx.nid else d
abbrev HK:=AV→(Nat→HO)→Prop
def RR(T:Gs)(d:Option Nat)(h:Nat→HO)(e:Nat)(K:HK):Prop :=
 match d with
 |none=>False
 |some d=>match h d with
  |.free=>match(T e).d with
   |.other=>False
   |_=>match GV ((T e).zc.map .v)with
    |true=>K (.ref d 0) (AT h d (.cells ((T e).zc.map .v)))
    |false=>False
  |_=>False
def GX(n:Nat)(a:AV)(K:List AV→Prop):Prop :=
 match a with
 |.agg cs=>match Nat.beq cs.length n with
  |true=>K cs
  |false=>False
 |a=>match one a with
  |true=>match n with
   |1=>K [a]
   |_=>False
  |false=>False
def bH(cx:Cx)(d:Option Nat)(h:Nat→HO)(e:Nat)(x:AV)(K:HK):Prop :=
 match d with
 |none=>False
 |some d=>match h d with
  |.free=>match(cx.T e).d with
   |.other=>False
   |_=>GX (cx.T e).size x fun cs=>match IH cx.pl.frz d with
    |true=>K (.ref d 0) (AT h d (.ro (cs.map (str h))))
    |false=>K (.ref d 0) (AT h d (.cells cs))
  |_=>False
def NV(cx:Cx)(h:Nat→HO)(t:Nat)(p x:AV)(K:HK):Prop :=
 match(cx.T t).d with
 |.other=>False
 |_=>GX (cx.T t).size x fun vs=>match p with
  |.ref r off=>match h r with
   |.cells cs=>off+vs.length≤cs.length∧(match IH cx.pl.frz r with
    |true=>K (.v undef) (AT h r (.ro ((over cs off vs).map (str h))))
    |false=>K (.v undef) (AT h r (.cells (over cs off vs))))
   |_=>False
  |.eref r n sz i off=>match h r with
   |.arr Gq es=>match Nat.beq sz Gq with
    |true=>n=es.length∧∃cs,es[i]?=some cs∧off+vs.length≤sz∧(match vs with
     | [.msl j m]=>K (.v undef) (AT h r (.hol sz (es.set i (over cs off [.junk])) i off (.msl j m)))
     |_=>K (.v undef) (AT h r (.arr sz (es.set i (over cs off (vs.map (str h)))))))
    |false=>False
   |_=>False
  |_=>False
def H9(T:Gs)(h:Nat→HO)(t:Nat)(p:AV)(K:AV→Prop):Prop :=
 match p with
 |.cptr cs=>Ls T t cs K
 |.ref r off=>match h r with
  |.cells cs=>Ls T t (cs.drop off) K
  |.ro cs=>Ls T t (cs.drop off) K
  |_=>False
 |.eref r n sz i off=>match h r with
  |.arr Gq es=>match Nat.beq sz Gq with
   |true=>n=es.length∧∃cs,es[i]?=some cs∧Ls T t (cs.drop off) K
   |false=>False
  |.hol Gq es i' c a=>match Nat.beq sz Gq with
   |true=>(n=es.length∧i=i'∧off=c)∧Ls T t [a] K
   |false=>False
  |_=>False
 |_=>False
def Kr(pl:Nat→Option (Nat×Nat))(cs:List AV)(t:Nat→AV)(ps:List (Nat×Operand))(K:List AV→Prop):Prop :=
 match ps with
 | []=>K cs
 |(i,x)::r=>match pl i with
  |none=>False
  |some (o,n)=>GX n (ev t x) fun vs=>match Nat.ble (o+n) cs.length with
   |true=>Kr pl (over cs o vs) t r K
   |false=>False
def N7(T:Gs):List (Nat×Nat)→Bool
 | []=>true
 |(t,_)::r=>match(T t).size with |0=>false |_+1=>N7 T r
def Pv(T:Gs)(ty:Nat)(t:Nat→AV)(ps:List (Nat×Operand))(K:AV→Prop):Prop :=
 match GV ((T ty).zc.map .v)with
 |false=>False
 |true=>match(T ty).d with
  |.struct fs=>match N7 T fs with
   |false=>False
   |true=>Kr (fun i=>match Wa fs i with |some (t,o)=>some (o,(T t).size) |none=>none) ((T ty).zc.map .v) t ps fun cs=>K (.agg cs)
  |.array _ e=>match(T e).size with
   |0=>False
   |_+1=>Kr (fun i=>some (i*(T e).size,(T e).size)) ((T ty).zc.map .v) t ps fun cs=>K (.agg cs)
  |_=>False
def QE(n sz:Nat)(h:Nat→HO)(es:List (List AV))(t:Nat→AV)(ps:List (Nat×Operand))(K:List (List AV)→Prop):Prop :=
 match ps with
 | []=>K es
 |(i,x)::r=>match Nat.blt i n with
  |true=>GX sz (ev t x) fun vs=>QE n sz h (es.set i (vs.map (str h))) t r K
  |false=>False
def Eu(cx:Cx)(d:Option Nat)(h:Nat→HO)(sz:Nat)(es:List (List AV))(K:HK):Prop :=
 match d with
 |none=>False
 |some d=>match h (Kp cx d)with
  |.free=>match GB cx.pl.arr d with
   |some _=>K (.msl (Kp cx d) es.length) (AT h (Kp cx d) (.arr sz es))
   |none=>K (.slice (.id (Kp cx d) sz) es) (AT h (Kp cx d) (.tok sz es.length))
  |_=>False
def Ip(cx:Cx)(d:Option Nat)(h:Nat→HO)(ty n:Nat)(t:Nat→AV)(ps:List (Nat×Operand))(K:HK):Prop :=
 match(cx.T ty).d with
 |.slice e=>match GV ((cx.T e).zc.map .v),Nat.beq (cx.T e).zc.length (cx.T e).size with
  |true,true=>match(cx.T e).size with
   |0=>False
   |_+1=>match Nat.ble (n*(cx.T e).size) 16777216 with
    |true=>QE n (cx.T e).size h (List.replicate n ((cx.T e).zc.map .v)) t ps fun es=>Eu cx d h (cx.T e).size es K
    |false=>False
  |_,_=>False
 |_=>False
def Ku(t:Nat→AV)(h:Nat→HO)(fn:Fn)(first captured:List Operand)(K:AV→Prop):Prop :=
 match fn,first with
 |.func f,[]=>K (.clo f (captured.map fun x=>rsv h (ev t x)))
 |_,_=>False
def Df(sz:Nat):List (List AV)→Prop
 | []=>True
 |c::r=>c.length=sz∧Df sz r
def KW(h:Nat→HO)(x:AV)(K:List (List AV)→Prop):Prop :=
 match x with
 |.slice _ es=>K es
 |.v (.slice none 0 0)=>K []
 |.msl r n=>match h r with
  |.arr _ es=>n=es.length∧K es
  |_=>False
 |_=>False
def Ie(cx:Cx)(d:Option Nat)(h:Nat→HO)(ty:Nat)(s x:AV)(K:HK):Prop :=
 match(cx.T ty).d with
 |.slice e=>match Nat.beq (cx.T e).zc.length (cx.T e).size with
  |false=>False
  |true=>match(cx.T e).size with
   |0=>False
   |_+1=>KW h x fun es2=>match s with
    |.v (.slice none 0 0)=>(Df (cx.T e).size es2∧es2.length*(cx.T e).bytes≤140737488355328∧es2.length≤9223372036854775807)∧Eu cx d h (cx.T e).size es2 K
    |.slice (.full Gq) es=>match Nat.beq Gq (cx.T e).size with
     |true=>(Df (cx.T e).size es2∧0<es2.length∧(es.length+es2.length)*(cx.T e).bytes≤140737488355328∧es.length+es2.length≤9223372036854775807)∧Eu cx d h (cx.T e).size (es++es2) K
     |false=>False
    |.slice (.id r Gq) es=>match h r with
     |.tok sz n=>match Nat.beq sz (cx.T e).size,Nat.beq Gq sz with
      |true,true=>(Df sz es2∧es.length=n∧(es.length+es2.length)*(cx.T e).bytes≤140737488355328∧es.length+es2.length≤9223372036854775807) ∧
        K (.slice (.id r sz) (es++es2)) (AT h r (.tok sz (es.length+es2.length)))
      |_,_=>False
     |_=>False
    |.msl r n=>match h r with
     |.arr sz es=>match Nat.beq sz (cx.T e).size with
      |true=>(Df sz es2∧es.length=n∧(es.length+es2.length)*(cx.T e).bytes≤140737488355328∧es.length+es2.length≤9223372036854775807) ∧
        K (.msl r (es.length+es2.length)) (AT h r (.arr sz (es++es2)))
      |false=>False
     |_=>False
    |_=>False
 |_=>False
abbrev IV:=List (Nat×Nat)
inductive pt | pure | rel | gen (σ:IV) (nn:Nat) | geny (σ:IV) (nn:Nat)
def Cf(σ:IV)(n:Nat):Option Nat :=
 match σ with
 | []=>none
 |(i,j)::r=>bif Nat.beq i n then some j else Cf r n
def HL(σ:IV)(n:Nat):Option Nat :=
 match σ with
 | []=>none
 |(i,j)::r=>bif Nat.beq j n then some i else HL r n
def Ei:IV→Bool
 | []=>true
 |(i,j)::r=>(match Cf r i,HL r j with |none,none=>true |_,_=>false)&&Nat.ble 1000 j&&Nat.blt j 2000&&Ei r
def GH:IV→Bool
 | []=>true
 |(i,j)::r=>(match Cf r i,HL r j with |none,none=>true |_,_=>false)&&GH r
def ren0(f:Nat→Option Nat)(h:Nat→HO):AV→AV
 |.slice (.id r sz) es=>match f r with |some r'=>.slice (.id r' sz) es |none=>.slice .none es
 |.slice (.ver r sz v) es=>match f r with |some r'=>.slice (.ver r' sz v) es |none=>.slice .none es
 |.msl r n=>match f r with |some r'=>.msl r' n |none=>.junk
 |.ref r off=>match f r with |some r'=>.ref r' off |none=>str0 h (.ref r off)
 |.eref r n sz i off=>match f r with |some r'=>.eref r' n sz i off |none=>.junk
 |.mref r=>match f r with |some r'=>.mref r' |none=>str0 h (.mref r)
 |a=>str0 h a
def ren1(f:Nat→Option Nat)(h:Nat→HO):AV→AV
 |.agg cs=>.agg (cs.map (ren0 f h))
 |.clo g cs=>.clo g (cs.map (ren0 f h))
 |a=>ren0 f h a
def ren(f:Nat→Option Nat)(h:Nat→HO):AV→AV
 |.tup cs=>.tup (cs.map (ren1 f h))
 |a=>ren1 f h a
def HO.ren(f:Nat→Option Nat)(h:Nat→HO):HO→HO
 |.cells cs=>.cells (cs.map (ren1 f h))
 |.mapU sh BX=>.mapU sh (BX.map fun p=>(p.1,ren1 f h p.2))
 |.hol sz es i c a=>.hol sz es i c (ren1 f h a)
 |o=>o
def Ai(l:List (Nat×HO))(hb:Nat→HO)(i:Nat):HO:=match l with | []=>hb i | (j,v)::r=>bif Nat.beq i j then v else Ai r hb i
def Wz(f:Nat→Option Nat)(h:Nat→HO):IV→List (Nat×HO)
 | []=>[]
 |(i,j)::r=>(j,(h i).ren f h)::Wz f h r
def Fz(σ:IV)(h:Nat→HO):Nat→HO:=Ai (Wz (Cf σ) h σ) Ab
def Bo(d k:Nat):Nat:=10000+100*d+k
def E3(σ:IV)(d nn:Nat)(j:Nat):Option Nat :=
 match HL σ j with
 |some i=>some i
 |none=>match Nat.ble 2000 j&&Nat.blt j (2000+nn)with |true=>some (Bo d (j-2000)) |false=>none
def D4(σ:IV)(d nn:Nat)(h h' : Nat→HO):Nat→HO:=fun i =>
 match Cf σ i with
 |some j=>(h' j).ren (E3 σ d nn) h'
 |none=>match Nat.ble (Bo d 0) i&&Nat.blt i (Bo d nn)with |true=>(h' (2000+(i-Bo d 0))).ren (E3 σ d nn) h' |false=>h i
def Dx(h:Nat→HO)(d:Nat):Nat→Bool
 |0=>true
 |k+1=>(match h (Bo d k)with |.free=>true |_=>false)&&Dx h d k
def Dh(σ:IV)(d nn:Nat):Bool :=
 match σ with
 | []=>true
 |(i,_)::r=>!(Nat.ble (Bo d 0) i&&Nat.blt i (Bo d nn))&&Dh r d nn
def Nk(l:List (Nat×Nat))(d:Option Nat):Option Nat:=match d with | none=>none | some d=>GB l d
def aJ:AV→Bool | .tup _=>false | _=>true
def To:List AV→Bool
 | []=>true
 |a::r=>match aJ a with |true=>To r |false=>false
def Vv:List AV→Option (List Value)
 | []=>some []
 |.v x::r=>match Vv r with |some l=>some (x::l) |none=>none
 |_=>none
def Q0(cx:Cx)(k:Nat)(d:Option Nat)(h:Nat→HO)(F:AV)(args:List AV)(K:HK):Prop :=
 match d,F,args with
 |some d,.v (.func (.func f) ⟨[]⟩ ⟨[]⟩),.msl r n::l=>match Vv l with
  |some vs=>match h r with
   |.arr sz es=>match k with
    |0=>∃n' FB,A3 cx.P f (.msl 1000 n::vs.map .v) (Ai [(1000,.arr sz es)] Ab) (fun r' h'=>r'=.msl 1000 n'∧h'=Ai [(1000,.arr sz FB)] Ab)∧K (.msl r n') (AT h r (.arr sz FB))
    |_+1=>∃n' FB,(Dx h d 1&&Nat.blt r 10000000&&!Nat.beq r (Bo d 0))=true∧A3 cx.P f (.msl 1000 n::vs.map .v) (Ai [(1000,.arr sz es)] Ab) (fun r' h'=>r'=.msl 2000 n'∧h'=Ai [(1000,.dead),(2000,.arr sz FB)] Ab) ∧
      K (.msl (Bo d 0) n') (AT (AT h r .dead) (Bo d 0) (.arr sz FB))
   |_=>False
  |none=>False
 |_,_,_=>False
def TV(cx:Cx)(d:Option Nat)(st:St)(F:AV)(args:List AV)(K:HK):Prop :=
 match d with
 |none=>False
 |some d=>∃sz es,(Dx st.h d 1&&aJ F&&To args)=true∧F0 cx.P (fun l=>cx.yp l []) (str st.h F) (args.map (str st.h)) Ab (fun r h'=>r=.slice (.id 2000 sz) es∧h'=Ai [(2000,.tok sz es.length)] Ab) ∧
   K (.slice (.id (Bo d 0) sz) es) (AT st.h (Bo d 0) (.tok sz es.length))
def Qn(cx:Cx)(d:Option Nat)(st:St)(F:AV)(args:List AV)(K:HK):Prop :=
  match d,F,Vv args with
  |some _,.v (.func (.yield l) ⟨[]⟩ ⟨[]⟩),some vs=>match st.h 1000,st.h 1001 with
    |.cells [.slice (.id r sz) es],.tok bl n=>(r=1001∧bl=sz)∧∃v FB n',IM cx.P (cx.yp l [(1000,1000),(1001,1001)]) l (vs.map .v) (Ai [(1000,.cells [.slice (.id 1001 sz) es]),(1001,.tok sz n)] Ab)
          (fun r h'=>r=.v v∧h'=Ai [(1000,.cells [.slice (.id 1001 sz) FB]),(1001,.tok sz n')] Ab) ∧
        K (.v v) (AT (AT st.h 1001 (.tok sz n')) 1000 (.cells [.slice (.id 1001 sz) FB]))
    |_,_=>False
  |_,_,_=>False
def jM:List Nat:=[1000,1001,1002,1003,1004,1005,1006,1007]
def XC(cx:Cx)(d:Option Nat)(st:St)(F:AV)(args:List AV)(K:HK):Prop :=
 match d,F with
 |some d,.v (.func (.func f) ⟨[]⟩ ⟨[]⟩)=>∃(σ:IV) (H0 Hn:List (Nat×HO)) (args' : List AV) (res:AV),
   (∀h2:Nat→HO,(∀r∈jM,h2 r=st.h r)→Fz σ h2=Ai H0 Ab∧args.map (ren (Cf σ) h2)=args')∧(Ei σ&&Dh σ d 0&&σ.all fun p=>IH jM p.1)=true ∧
   A3 cx.P f args' (Ai H0 Ab) (fun r h'=>r=res∧h'=Ai Hn Ab)∧K (ren (E3 σ d 0) (Ai Hn Ab) res) (D4 σ d 0 st.h (Ai Hn Ab))
 |_,_=>False
def Pc(cx:Cx)(k:Nat)(d:Option Nat)(st:St)(F:AV)(args:List AV)(K:HK):Prop :=
 match Nat.beq k 4 with
 |true=>XC cx d st F args K
 |false=>Q0 cx k d st.h F args K
def Gi(cx:Cx)(dr:Bool)(d:Option Nat)(st:St)(F:AV)(args:List AV)(K:HK):Prop :=
 match dr with
 |true=>match Nk cx.pl.dc d with
  |none=>∃res,Pp cx.P (str st.h F) (args.map (str st.h)) res∧K res st.h
  |some 0=>match d with
   |none=>False
   |some d=>∃n sz es,(Dx st.h d 1&&aJ F&&To args)=true∧F0 cx.P (fun l=>cx.yp l []) (str st.h F) (args.map (str st.h)) Ab (fun r h'=>r=.msl 2000 n∧h'=Ai [(2000,.arr sz es)] Ab) ∧
     K (.msl (Bo d 0) n) (AT st.h (Bo d 0) (.arr sz es))
  |some (k+1)=>match Nat.beq k 2 with
   |true=>TV cx d st F args K
   |false=>match Nat.beq k 3 with
    |true=>Qn cx d st F args K
    |false=>Pc cx k d st F args K
 |false=>∃m:pt,match m with
  |.pure=>∃res,Pp cx.P (str st.h F) (args.map (str st.h)) res∧K res st.h
  |.rel=>F0 cx.P (fun _ _ _=>True) (str st.h F) (args.map (str st.h)) Ab fun r h'=>h'=Ab∧K r st.h
  |.gen σ nn=>match d with
   |none=>False
   |some d=>(Ei σ&&Dx st.h d nn&&Dh σ d nn)=true ∧
     F0 cx.P (fun l=>cx.yp l σ) (ren (Cf σ) st.h F) (args.map (ren (Cf σ) st.h)) (Fz σ st.h) fun r h'=>K (ren (E3 σ d nn) h' r) (D4 σ d nn st.h h')
  |.geny σ nn=>match d with
   |none=>False
   |some d=>(Ei σ&&Dx st.h d nn&&Dh σ d nn)=true ∧
     match ren (Cf σ) st.h F with
     |.clo f caps=>mw cx.P (fun g w=>∀l,cx.yp l σ g w) f (args.map (ren (Cf σ) st.h)++caps) (Fz σ st.h) fun r h'=>K (ren (E3 σ d nn) h' r) (D4 σ d nn st.h h')
     |_=>False
def WI:List AV→Option (List Value)
 | []=>some []
 |.v x::r=>match WI r with |some l=>some (x::l) |none=>none
 |_=>none
def nZ:AV→Option Value
 |.v x=>some x
 |.agg cs=>match WI cs with |some l=>some (.agg l.toArray) |none=>none
 |_=>none
def HR(T:Gs)(t:Nat):Option EE :=
 match(T t).d with
 |.struct _=>match Hw T 8 t with |some l=>some ⟨true,l⟩ |none=>none
 |_=>match Hw T 1 t with |some l=>some ⟨false,l⟩ |none=>none
def kw:KS→KS→Bool
 |.int k,.int k'=>pn k k'
 |.str,.str=>true
 |.bool,.bool=>true
 |_,_=>false
def S8:List KS→List KS→Bool
 | [],[]=>true
 |a::r,b::s=>match kw a b with |true=>S8 r s |false=>false
 |_,_=>false
def oG(a b:EE):Bool :=
 match a.agg,b.agg with
 |true,true=>S8 a.l b.l
 |false,false=>S8 a.l b.l
 |_,_=>false
def J6(T:Gs)(ty:Nat)(sh:EE)(k:AV)(K:Value→Prop):Prop :=
 match(T ty).d with
 |.map kt _=>match HR T kt with
  |some tg=>match oG sh tg with
   |true=>match nZ k with
    |some kx=>match Vm sh kx with
     |true=>K kx
     |false=>False
    |none=>False
   |false=>False
  |none=>False
 |_=>False
open Classical in
noncomputable def ER(BX:List (Value×AV))(k:Value)(a:AV):List (Value×AV) :=
 if ∃a',(k,a')∈BX then BX.map fun p=>if p.1=k then(k,a)else p else BX++[(k,a)]
def Kv(T:Gs)(mku:List Nat)(d:Option Nat)(h:Nat→HO)(ty:Nat)(K:HK):Prop :=
 match d with
 |none=>False
 |some d=>match h d with
  |.free=>match(T ty).d with
   |.map kt _=>match HR T kt with
    |some sh=>match IH mku d with
     |true=>K (.mref d) (AT h d (.mapU sh []))
     |false=>K (.mref d) (AT h d (.map sh []))
    |none=>False
   |_=>False
  |_=>False
def G0(T:Gs)(h:Nat→HO)(ty:Nat)(m k x:AV)(K:HK):Prop :=
 match m with
 |.mref r=>match h r with
  |.map sh BX=>J6 T ty sh k fun kx=>K (.v undef) (AT h r (.map sh (ER BX kx (str h x))))
  |.mapU sh BX=>J6 T ty sh k fun kx=>K (.v undef) (AT h r (.mapU sh (ER BX kx x)))
  |_=>False
 |_=>False
def Kc(T:Gs)(t:Nat)(K:AV→Prop):Prop :=
 match(T t).d with
 |.other=>False
 |_=>match(T t).zero with
  |.agg cs=>match GV (cs.toList.map .v)with |true=>K (.agg (cs.toList.map .v)) |false=>False
  |z=>K (.v z)
def LV(T:Gs)(ty:Nat)(ok:Bool)(BX:List (Value×AV))(kx:Value)(K:AV→Prop):Prop :=
 match(T ty).d with
 |.map _ e=>match ok with
  |true=>(∀a,(kx,a)∈BX→K (.tup [a,.v (.bool true)]))∧((∀a,(kx,a)∉BX)→Kc T e fun z=>K (.tup [z,.v (.bool false)]))
  |false=>(∀a,(kx,a)∈BX→K a)∧((∀a,(kx,a)∉BX)→Kc T e K)
 |_=>False
def LU(T:Gs)(ty:Nat)(ok:Bool)(BX:List (Value×AV))(kx:Value)(K:AV→Prop):Prop :=
 match(T ty).d with
 |.map _ e=>match ok with
  |true=>(∃a,((kx,a)∈BX∧∀b,(kx,b)∈BX→b=a)∧K (.tup [a,.v (.bool true)]))∨((∀a,(kx,a)∉BX)∧Kc T e fun z=>K (.tup [z,.v (.bool false)]))
  |false=>(∃a,((kx,a)∈BX∧∀b,(kx,b)∈BX→b=a)∧K a)∨((∀a,(kx,a)∉BX)∧Kc T e K)
 |_=>False
def MB(T:Gs)(h:Nat→HO)(ty:Nat)(m k:AV)(ok:Bool)(K:AV→Prop):Prop :=
 match m with
 |.cmap sh BX=>J6 T ty sh k fun kx=>LU T ty ok BX kx K
 |.mref r=>match h r with
  |.map sh BX=>J6 T ty sh k fun kx=>LU T ty ok BX kx K
  |.mapU sh BX=>J6 T ty sh k fun kx=>LU T ty ok BX kx K
  |.rom sh BX=>J6 T ty sh k fun kx=>LU T ty ok BX kx K
  |_=>False
 |_=>False
def MC(T:Gs)(h:Nat→HO)(ty:Nat)(m k:AV)(ok:Bool)(K:AV→Prop):Prop :=
 match m with
 |.cmap sh BX=>J6 T ty sh k fun kx=>LV T ty ok BX kx K
 |.mref r=>match h r with
  |.map sh BX=>J6 T ty sh k fun kx=>LV T ty ok BX kx K
  |.mapU sh BX=>J6 T ty sh k fun kx=>LV T ty ok BX kx K
  |.rom sh BX=>J6 T ty sh k fun kx=>LV T ty ok BX kx K
  |_=>False
 |_=>False
def ZG(d:Option Nat)(h:Nat→HO)(x:AV)(K:HK):Prop :=
 match d with
 |none=>False
 |some d=>match h d with
  |.free=>match x with
   |.cmap _ BX=>K (.ref d 0) (AT h d (.iter BX BX none))
   |.mref r=>match h r with
    |.rom _ BX=>K (.ref d 0) (AT h d (.iter BX BX none))
    |.map sh BX=>K (.ref d 0) (AT (AT h r (.rom sh BX)) d (.iter BX BX none))
    |_=>False
   |_=>False
  |_=>False
def gL(h:Nat→HO)(x:AV)(K:HK):Prop :=
 match x with
 |.ref r 0=>match h r with
  |.iter all rem _=>(rem=[]→K (.tup [.v (.bool false)]) h) ∧
    (∀kv NP,rem.Perm (kv::NP)→K (.tup [.v (.bool true),.v kv.1,kv.2]) (AT h r (.iter all NP (some kv))))
  |_=>False
 |_=>False
def Y3(h:Nat→HO)(x:AV)(K:AV→Prop):Prop :=
 match x with
 |.ref r 0=>match h r with
  |.iter _ _ (some kv)=>K (.tup [.v kv.1,kv.2])
  |_=>False
 |_=>False
def QN(T:Gs)(t:Nat)(h:Nat→HO)(x:AV)(K:AV→Prop):Prop :=
 match(T t).d with
 |.slice _=>match x with
  |.slice _ es=>K (.v (.int .i64 es.length))
  |.msl _ n=>K (.v (.int .i64 n))
  |.v (.slice none 0 0)=>K (.v (.int .i64 0))
  |_=>False
 |.string=>match x with
  |.v (.string s)=>K (.v (.int .i64 s.size))
  |_=>False
 |.map _ _=>match x with
  |.cmap _ BX=>K (.v (.int .i64 BX.length))
  |.mref r=>match h r with
   |.map _ BX=>K (.v (.int .i64 BX.length))
   |.mapU _ BX=>K (.v (.int .i64 BX.length))
   |.rom _ BX=>K (.v (.int .i64 BX.length))
   |_=>False
  |_=>False
 |_=>False
def Gp(cx:Cx)(d:Option Nat)(h:Nat→HO)(ty:Nat)(x:AV)(lo hi mx:Option (Option Int))(K:HK):Prop :=
 match lo,hi,mx with
 |some lo,some hi,some mx=>match(cx.T ty).d with
  |.string=>match mx,x with
   |none,.v (.string s)=>(0≤lo.getD 0∧lo.getD 0≤hi.getD s.size∧hi.getD s.size≤s.size)∧K (.v (.string (s.extract (lo.getD 0).toNat (hi.getD s.size).toNat))) h
   |_,_=>False
  |.slice e=>match(cx.T e).size with
   |0=>False
   |_+1=>match x with
    |.slice _ es=>match mx with
     |none=>(0≤lo.getD 0∧lo.getD 0≤hi.getD es.length∧hi.getD es.length≤es.length) ∧
       (∀cs∈es,cs.length=(cx.T e).size)∧K (.slice .none ((es.take (hi.getD es.length).toNat).drop (lo.getD 0).toNat)) h
     |some m=>match d,hi with
      |some d,some hi=>match GB cx.pl.arr d with
       |some _=>(0≤lo.getD 0∧lo.getD 0≤hi∧m=hi∧hi≤es.length)∧(∀cs∈es,cs.length=(cx.T e).size) ∧
         K (.slice (.full (cx.T e).size) ((es.take hi.toNat).drop (lo.getD 0).toNat)) h
       |none=>match h d with
        |.free=>(0≤lo.getD 0∧lo.getD 0≤hi∧m=hi∧hi≤es.length)∧(∀cs∈es,cs.length=(cx.T e).size) ∧
          K (.slice (.id d (cx.T e).size) ((es.take hi.toNat).drop (lo.getD 0).toNat)) (AT h d (.tok (cx.T e).size (hi.toNat-(lo.getD 0).toNat)))
        |_=>False
      |_,_=>False
    |.v (.slice none 0 0)=>(lo.getD 0=0∧hi.getD 0=0∧mx.getD 0=0)∧(mx=none∨hi≠none)∧K (.v (.slice none 0 0)) h
    |.msl r n=>match h r with
     |.arr sz es=>match Nat.beq sz (cx.T e).size with
      |true=>(n=es.length∧0≤lo.getD 0∧lo.getD 0≤hi.getD es.length∧hi.getD es.length≤es.length∧(mx=none∨(mx=hi∧hi≠none))) ∧
        K (.slice .none ((es.take (hi.getD es.length).toNat).drop (lo.getD 0).toNat)) (AT h r .dead)
      |false=>False
     |_=>False
    |_=>False
  |_=>False
 |_,_,_=>False
def TC(cx:Cx)(d:Option Nat)(h:Nat→HO)(ty:Nat)(x:AV)(lo:Option (Option Int))(hi mx:Option Operand)(K:HK):Prop :=
 match d,lo,hi,mx with
 |some d,some (some lo),none,none=>match(cx.T ty).d with
  |.slice e=>match(cx.T e).size with
   |0=>False
   |_+1=>match x with
    |.slice (.id r sz) es=>match h r with
     |.tok Gq n=>match h (Kp cx d)with
      |.free=>match Nat.beq Gq sz,Nat.beq sz (cx.T e).size with
       |true,true=>(es.length=n∧0≤lo∧lo≤es.length)∧K (.slice (.id (Kp cx d) sz) (es.drop lo.toNat)) (AT (AT h r .dead) (Kp cx d) (.tok sz (es.drop lo.toNat).length))
       |_,_=>False
      |_=>False
     |_=>False
    |_=>False
  |_=>False
 |_,_,_,_=>False
def ic(cx:Cx)(d:Option Nat)(h:Nat→HO)(ty:Nat)(x:AV)(hi:Option (Option Int))(K:HK):Prop :=
 match d,hi with
 |some d,some (some hi)=>match(cx.T ty).d with
  |.slice e=>match(cx.T e).size with
   |0=>False
   |_+1=>match x with
    |.msl r n=>match h r with
     |.arr sz es=>match h (Kp cx d)with
      |.free=>match Nat.beq sz (cx.T e).size,Nat.blt r 10000000&&Nat.blt 0 (Kp cx d)with
       |true,true=>(n=es.length∧0≤hi∧hi≤es.length)∧K (.msl (Kp cx d) hi.toNat) (AT (AT h r .dead) (Kp cx d) (.arr sz (es.take hi.toNat)))
       |_,_=>False
      |_=>False
     |_=>False
    |_=>False
  |_=>False
 |_,_=>False
def Nb(cx:Cx)(d:Option Nat)(h:Nat→HO)(ty:Nat)(x:AV)(lo:Option Operand)(hi:Option (Option Int))(mx:Option Operand)(K:HK):Prop :=
 match lo,mx with
 |none,none=>ic cx d h ty x hi K
 |_,_=>False
def aX(cx:Cx)(d:Option Nat)(h:Nat→HO)(ty:Nat)(x:AV)(t:Nat→AV)(lo hi mx:Option Operand)(K:HK):Prop :=
 match lo with
 |none=>Nb cx d h ty x none (B2 t hi) mx K
 |some lo=>TC cx d h ty x (B2 t (some lo)) hi mx K
def yW:AV→AV
 |.slice _ es=>.slice .none es
 |a=>a
def Oa(cx:Cx)(d:Option Nat)(h:Nat→HO)(x:AV)(K:HK):Prop :=
 match d with
 |none=>K x h
 |some d=>match GB cx.pl.tok d with
  |some sz=>match Nat.beq sz 0 with
   |true=>K (yW x) h
   |false=>match x with
    |.v (.slice none 0 0)=>match h d with
     |.free=>K (.slice (.id d sz) []) (AT h d (.tok sz 0))
     |_=>False
    |x=>K x h
  |none=>match GB cx.pl.arr d with
   |some sz=>match x with
    |.v (.slice none 0 0)=>match h d with
     |.free=>K (.msl d 0) (AT h d (.arr sz []))
     |_=>False
    |x=>K x h
   |none=>K x h
def kN(l:List AV)(n:Nat):Option AV :=
 match l with
 | []=>none
 |x::r=>match n with |0=>some x |n+1=>kN r n
def LO(x:AV)(i:Nat)(K:AV→Prop):Prop :=
 match x with
 |.tup vs=>match kN vs i with
  |some a=>K a
  |none=>False
 |_=>False
def Ky(x:AV)(K:AV→Prop):Prop :=
 match x with
 |.ref r o=>K (.ref r o)
 |.eref r n z i o=>K (.eref r n z i o)
 |.cptr cs=>K (.cptr cs)
 |.clo f cs=>K (.clo f cs)
 |.v (.func (.func f) a b)=>K (.v (.func (.func f) a b))
 |_=>False
def Yl(c a b:AV)(K:AV→Prop):Prop :=
 match c with
 |.v (.bool true)=>K a
 |.v (.bool false)=>K b
 |_=>False
def kG(f:Int→Int→Int)(x y:AV)(K:AV→Prop):Prop :=
 match x,y with
 |.v (.int k a),.v (.int k' b)=>match pn k k' with
  |true=>K (.v (.int k (f a b)))
  |false=>False
 |_,_=>False
def Jq(cx:Cx)(d:Option Nat)(h:Nat→HO)(ty:Nat)(len cap:AV)(K:HK):Prop :=
 match(cx.T ty).d,len,cap with
 |.slice e,.v (.int .i64 n),.v (.int .i64 c)=>match GV ((cx.T e).zc.map .v)with
  |true=>match Nat.beq (cx.T e).zc.length (cx.T e).size with
   |true=>match(cx.T e).size with
    |0=>False
    |_+1=>(0≤n∧n≤c∧c*(cx.T e).bytes≤140737488355328∧c≤9223372036854775807)∧Eu cx d h (cx.T e).size (List.replicate n.toNat ((cx.T e).zc.map .v)) K
   |false=>False
  |false=>False
 |_,_,_=>False
def YA(op:UnOp)(x:AV)(K:AV→Prop):Prop :=
 match op,x with
 |.not,x=>cP K x
 |.neg,.v (.int .i64 a)=>BR (-a)∧K (.v (.int .i64 (-a)))
 |.xor,.v (.int k a)=>K (.v (.int k (Qz .xor k (if k.signed then -1 else k.max) a)))
 |_,_=>False
def FW(cx:Cx)(d:Option Nat)(h:Nat→HO)(b:Builtin)(GJ:List Nat)(args:List AV)(K:HK):Prop :=
 match b,args,GJ with
 |.len,[x],[t]=>QN cx.T t h x fun v=>K v h
 |.append,[s,x],[t,t']=>match Nat.beq t t' with
  |true=>Ie cx d h t s x K
  |false=>False
 |.max,[x,y],_=>kG max x y fun v=>K v h
 |.min,[x,y],_=>kG min x y fun v=>K v h
 |_,_,_=>False
def FN(cx:Cx)(dr:Bool)(o:Oper)(st:St)(K:HK):Prop :=
 match o.op with
 |.move x=>K (ev st.t x) st.h
 |.assign x=>Oa cx o.dst st.h (ev st.t x) K
 |.pick c a b=>Yl (ev st.t c) (ev st.t a) (ev st.t b) fun v=>K v st.h
 |.alloc e=>RR cx.T o.dst st.h e K
 |.box e x=>bH cx o.dst st.h e (ev st.t x) K
 |.build ty ps=>Pv cx.T ty st.t ps.toList fun v=>K v st.h
 |.buildSlice ty n ps=>Ip cx o.dst st.h ty n st.t ps.toList K
 |.insert ty m k x=>G0 cx.T st.h ty (ev st.t m) (ev st.t k) (ev st.t x) K
 |.load ty x=>H9 cx.T st.h ty (ev st.t x) fun v=>K v st.h
 |.store ty p x=>NV cx st.h ty (ev st.t p) (ev st.t x) K
 |.nilCheck x=>Ky (ev st.t x) fun v=>K v st.h
 |.binOp op ty x y _=>W3 cx.T op ty y (ev st.t x) (ev st.t y) fun v=>K v st.h
 |.unOp op _ x=>YA op (ev st.t x) fun v=>K v st.h
 |.convert s ty x=>Xd cx.T s ty (ev st.t x) fun v=>K v st.h
 |.makeFunc fn first cap=>Ku st.t st.h fn first.toList cap.toList fun v=>K v st.h
 |.makeMap ty none=>Kv cx.T cx.pl.mku o.dst st.h ty K
 |.makeSlice ty n c=>Jq cx o.dst st.h ty (ev st.t n) (ev st.t c) K
 |.slice ty x lo hi mx=>match dr with
  |true=>match Nk cx.pl.tok o.dst with
   |none=>Gp cx o.dst st.h ty (ev st.t x) (B2 st.t lo) (B2 st.t hi) (B2 st.t mx) K
   |some _=>Nb cx o.dst st.h ty (ev st.t x) lo (B2 st.t hi) mx K
  |false=>match Nk cx.pl.tok o.dst with
   |none=>Gp cx o.dst st.h ty (ev st.t x) (B2 st.t lo) (B2 st.t hi) (B2 st.t mx) K
   |some _=>aX cx o.dst st.h ty (ev st.t x) st.t lo hi mx K
 |.fieldAddr s x f=>Sr cx.T s f (ev st.t x) fun v=>K v st.h
 |.field s x f=>Ou cx.T s f (ev st.t x) fun v=>K v st.h
 |.indexAddr ty x ix=>Jn cx.T ty (ev st.t x) (ev st.t ix) fun v=>K v st.h
 |.index ty x ix=>SV cx.T ty (ev st.t x) (ev st.t ix) fun v=>K v st.h
 |.lookup ty x ix ok=>match dr with
  |true=>MB cx.T st.h ty (ev st.t x) (ev st.t ix) ok fun v=>K v st.h
  |false=>MC cx.T st.h ty (ev st.t x) (ev st.t ix) ok fun v=>K v st.h
 |.mapUpdate ty m k x=>G0 cx.T st.h ty (ev st.t m) (ev st.t k) (ev st.t x) K
 |.range ty x=>match(cx.T ty).d with |.map _ _=>ZG o.dst st.h (ev st.t x) K |_=>False
 |.next it false=>gL st.h (ev st.t it) K
 |.entry it=>Y3 st.h (ev st.t it) fun v=>K v st.h
 |.extract x i=>LO (ev st.t x) i fun v=>K v st.h
 |.call c=>match c.callee with
  |.builtin b=>FW cx o.dst st.h b c.argTypes.toList (c.args.toList.map (ev st.t)) K
  |.value f=>Gi cx dr o.dst st (ev st.t f) (c.args.toList.map (ev st.t)) K
  |_=>False
 |_=>False
def J8(ops:List Oper)(j:Nat):Option Nat:=match ops with | []=>none | o::r=>match j with | 0=>o.dst | j+1=>J8 r j
def ie(cx:Cx)(o:Oper)(st:St):St :=
 match o.dst with
 |none=>st
 |some d=>match pz cx.pl.tz d with
  |some (r,k,j,sz)=>⟨st.t,tj st.h r k j sz⟩
  |none=>match mL cx.pl.fz d with
   | []=>st
   |l=>⟨st.t,OF st.h l⟩
def tu(cx:Cx)(o:Oper)(st:St)(K:St→Prop):Prop :=
 match o.dst with
 |none=>K st
 |some d=>match GB cx.pl.ak d with
  |none=>K st
  |some s=>match st.t s with
   |.msl r n=>match st.h r with
    |.arr sz es=>n=es.length∧K ⟨G4 st.t s (.slice (.id r sz) es),AT st.h r (.tok sz es.length)⟩
    |_=>K st
   |_=>K st
def d4(cx:Cx)(dr:Bool)(o:Oper)(st:St)(K:St→Prop):Prop :=
 match dr with
 |true=>FN cx true o st fun v h=>K (st.put o.dst v h)
 |false=>tu cx o (ie cx o st) fun D7=>FN cx false o D7 fun v h=>K (D7.put o.dst v h)
def G9(cx:Cx)(dr:Bool)(all:List Oper)(o:Oper)(st:St)(K:St→Prop):Prop :=
 match o.guard with
 |none=>d4 cx dr o st K
 |some (j,want)=>match J8 all j with
  |none=>False
  |some d=>match st.t d,want with
   |.v (.bool true),true=>d4 cx dr o st K
   |.v (.bool false),false=>d4 cx dr o st K
   |.v (.bool true),false=>K (st.put o.dst (.v undef) st.h)
   |.v (.bool false),true=>K (st.put o.dst (.v undef) st.h)
   |.v (.tuple _),_=>K (st.put o.dst (.v undef) st.h)
   |_,_=>False
def SY(o o2:Oper):Bool :=
 match o2.op with
 |.call c=>match c.callee with
  |.builtin .clear=>match o.op with
   |.slice ty _ (some _) none none=>match o.dst,o2.dst,c.args.toList,c.argTypes.toList,o.guard,o2.guard with
    |some d,none,[.tmp d'],[yV],none,none=>Nat.beq d d'&&Nat.beq ty yV
    |_,_,_,_,_,_=>false
   |_=>false
  |_=>false
 |_=>false
def pV(d:Nat)(st:St)(r i sz:Nat)(es:List (List AV))(z:List Value)(K:St→Prop):Prop :=
 match z.all Value.oneCell' with
 |true=>K ⟨G4 st.t d .junk,AT st.h r (.arr sz (es.take i++List.replicate (es.length-i) (z.map AV.v)))⟩
 |false=>False
def bN(cx:Cx)(o:Oper)(st:St)(K:St→Prop):Prop :=
 match o.op with
 |.slice ty x (some lo) none none=>match o.dst with
  |some d=>match(cx.T ty).d with
   |.slice e=>match ev st.t x with
    |.msl r n=>match ev st.t lo with
     |.v (.int .i64 i)=>match st.h r with
      |.arr sz es=>match Nat.beq sz (cx.T e).size with
       |true=>match(cx.T e).size with
        |0=>False
        |_+1=>match Nat.beq (cx.T e).zc.length sz with
         |true=>(n=es.length∧0≤i∧i≤es.length)∧pV d st r i.toNat sz es (cx.T e).zc K
         |false=>False
       |false=>False
      |_=>False
     |_=>False
    |_=>False
   |_=>False
  |none=>False
 |_=>False
def T8(cx:Cx)(all l:List Oper)(st:St)(K:St→Prop):Prop :=
 match l with
 | []=>K st
 | [o]=>G9 cx false all o st K
 |o::o2::r=>match SY o o2 with
  |true=>bN cx o st fun D7=>T8 cx all r D7 K
  |false=>G9 cx false all o st fun D7=>T8 cx all (o2::r) D7 K
def Uj:AV→List Nat
 |.ref r _=>[r]
 |.mref r=>[r]
 |_=>[]
def kn:List AV→List Nat
 | []=>[]
 |a::r=>Uj a++kn r
def Uk:AV→List Nat
 |.agg cs=>kn cs
 |.clo _ cs=>kn cs
 |a=>Uj a
def nX:List AV→List Nat
 | []=>[]
 |a::r=>Uk a++nX r
def WR:AV→List Nat
 |.agg cs=>nX cs
 |a=>Uk a
def SO:List AV→List Nat
 | []=>[]
 |a::r=>WR a++SO r
abbrev Fu:=List Nat×Option Nat
def Ir(d:Option Nat)(l:List Nat):Option Fu:=match d with | some d=>some (d::l,some d) | none=>none
def cH:AV→List Nat
 |.msl r _=>[r]
 |_=>[]
def Wb(cx:Cx)(d:Option Nat)(s x:AV):Option Fu :=
 match s with
 |.v (.slice none 0 0)=>Ir (d.map (Kp cx)) (cH x)
 |.slice (.full _) _=>Ir (d.map (Kp cx)) (cH x)
 |.slice (.id r _) _=>Ir (some r) (cH x)
 |.msl r _=>Ir (some r) (cH x)
 |_=>none
def ah(d:Option Nat)(args:List AV):Option Fu :=
 match d with
 |some d=>match args with
  |.msl r _::_=>some ([r,Bo d 0],some (r+10000000*Bo d 0))
  |_=>none
 |none=>none
theorem Y7{d:Option Nat}{args:List AV}{f:Fu}(h:ah d args=some f):∃d' r n l,d=some d'∧args=.msl r n::l∧f=([r,Bo d' 0],some (r+10000000*Bo d' 0)):=by
 unfold ah at h;split at h
 ·split at h
  ·cases h;exact⟨_,_,_,_,rfl,rfl,rfl⟩
  ·cases h
 ·cases h
def fh(d:Option Nat)(x:AV):Option Fu :=
 match d with
 |some d=>match x with
  |.msl r _=>some ([r,d],some (r+10000000*d))
  |_=>none
 |none=>none
theorem Y8{d:Option Nat}{x:AV}{f:Fu}(h:fh d x=some f):∃d' r n,d=some d'∧x=.msl r n∧f=([r,d'],some (r+10000000*d')):=by
 unfold fh at h;split at h
 ·split at h
  ·cases h;exact⟨_,_,_,rfl,rfl,rfl⟩
  ·cases h
 ·cases h
def fj(args:List AV):Option Fu:=match Vv args with | some _=>some ([1000,1001],some 10010001000) | none=>none
def VJ:Nat:=99999999999999
def fg(k:Nat)(d:Option Nat)(args:List AV):Option Fu :=
 match Nat.beq k 3 with
 |true=>some (jM,some VJ)
 |false=>ah d args
def GO(cx:Cx)(d:Option Nat)(c:Callee)(t:Nat→AV)(args:List AV):Option Fu :=
 match c,args with
 |.builtin .len,[.mref r]=>some ([r],none)
 |.builtin .len,[_]=>some ([],none)
 |.builtin .max,_=>some ([],none)
 |.builtin .min,_=>some ([],none)
 |.builtin .append,[s,x]=>Wb cx d s x
 |.value f,args=>match Nk cx.pl.dc d with
  |none=>some (WR (ev t f)++SO args,none)
  |some 0=>Ir (d.map fun d=>Bo d 0) (WR (ev t f)++SO args)
  |some 1=>match args with |.msl r _::_=>some ([r],some r) |_=>none
  |some (k+2)=>match Nat.beq k 1 with
   |true=>Ir (d.map fun d=>Bo d 0) (WR (ev t f)++SO args)
   |false=>match Nat.beq k 2 with
    |true=>fj args
    |false=>fg k d args
 |_,_=>none
def Fb(cx:Cx)(o:Oper)(st:St):Option Fu :=
 match o.op with
 |.move _ |.pick .. |.nilCheck _ |.unOp .. |.convert .. |.fieldAddr .. |.field .. |.indexAddr .. |.index .. |.extract .. |.build ..=>some ([],none)
 |.binOp _ _ x _ _=>match ev st.t x with |.slice ..=>none |_=>some ([],none)
 |.assign x=>match ev st.t x with |.v (.slice ..)=>none |_=>some ([],none)
 |.load _ p=>match ev st.t p with |.cptr _=>some ([],none) |.ref r _=>some ([r],none) |.eref r ..=>some ([r],none) |_=>none
 |.call c=>GO cx o.dst c.callee st.t (c.args.toList.map (ev st.t))
 |.alloc _=>Ir o.dst []
 |.box _ x=>Ir o.dst (WR (ev st.t x))
 |.buildSlice _ _ ps=>Ir (o.dst.map (Kp cx)) (SO (ps.toList.map fun p=>ev st.t p.2))
 |.store _ p x=>match ev st.t p with
  |.ref r _=>match IH cx.pl.frz r with |true=>none |false=>Ir (some r) []
  |.eref r ..=>Ir (some r) (WR (ev st.t x))
  |_=>none
 |.slice _ x _ _ mx=>match Nk cx.pl.tok o.dst with
  |some _=>fh (o.dst.map (Kp cx)) (ev st.t x)
  |none=>match mx,ev st.t x with
   |none,.msl ..=>none
   |none,_=>some ([],none)
   |some _,.slice ..=>Ir o.dst []
   |_,_=>none
 |.makeFunc _ _ cap=>some (SO (cap.toList.map (ev st.t)),none)
 |.mapUpdate _ m _ x=>match ev st.t m with |.mref r=>Ir (some r) (WR (ev st.t x)) |_=>none
 |.makeSlice ..=>Ir (o.dst.map (Kp cx)) []
 |.lookup _ m _ _=>match ev st.t m with |.cmap ..=>some ([],none) |.mref r=>some ([r],none) |_=>none
 |.makeMap ..=>Ir o.dst []
 |_=>none
def M4(cx:Cx)(all:List Oper)(o:Oper)(st:St):Option Fu :=
 match o.guard with
 |none=>Fb cx o st
 |some (j,want)=>match J8 all j with
  |none=>none
  |some d=>match st.t d,want with
   |.v (.bool true),true=>Fb cx o st
   |.v (.bool false),false=>Fb cx o st
   |_,_=>some ([],none)
def rg(l:List Nat):Bool:=match l with | []=>true | _=>false
def Yd(l:List Nat)(r:Nat):Bool:=bif Nat.beq r VJ then rg l else !IH l r&&(Nat.blt r 10000000||(!IH l (r % 10000000)&&!IH l (r / 10000000)))
def Sj(a b:Fu):Bool :=
 (match a.2 with | some r=>Yd b.1 r | none=>true)&&(match b.2 with | some r=>Yd a.1 r | none=>true)
def OG(o:Oper)(i:Nat)(D:List Nat):Bool:=o.after.toList.any fun e=>Region.binds .any e&&(Nat.beq e.on i||IH D e.on)
def Py(i:Nat)(D:List Nat)(k:Nat):List Oper→List Nat
 | []=>D
 |o::r=>match OG o i D with
  |true=>Py i (k::D) (k+1) r
  |false=>Py i D (k+1) r
def TQ(i:Nat)(D:List Nat)(k:Nat):List Oper→Bool
 | []=>true
 |o::r=>(OG o i D||!IH D k)&&TQ i D (k+1) r
def Io(ops:Array Oper)(oi:Oper)(fi:Fu)(D:List Nat)(k:Nat):List Oper→List Fu→Bool
 |o::r,f::fs=>(IH D k||(oi.apart ops o&&Sj fi f))&&Io ops oi fi D (k+1) r fs
 | [],[]=>true
 |_,_=>false
def LN(ops:Array Oper)(all:List Oper)(k:Nat):List Oper→List Fu→Bool
 |o::r,f::fs =>
  let D:=Py k [] 0 all
  (o.after.toList.all fun e=>!Region.binds .any e||Nat.blt e.on k)&&TQ k D 0 all&&(D.all fun j=>Nat.blt k j&&Nat.blt j all.length)&&Io ops o f D (k+1) r fs&&LN ops all (k+1) r fs
 | [],[]=>true
 |_,_=>false
def Sm(ops:Array Oper)(fs:List Fu):Bool:=Region.noSelect ops&&LN ops ops.toList 0 ops.toList fs
def W2(cx:Cx)(ops:Array Oper)(l:List Oper)(fs:List Fu)(st:St)(K:St→Prop):Prop :=
 match l with
 | []=>Sm ops fs.reverse=true∧K st
 |o::r=>match M4 cx ops.toList o st with
  |some f=>G9 cx true ops.toList o st fun D7=>W2 cx ops r (f::fs) D7 K
  |none=>False
def Sp(l:List (Nat×AV))(i:Nat):AV:=match l with | []=>.junk | (j,v)::r=>bif Nat.beq i j then v else Sp r i
structure LS where
 t:List (Nat×AV)
 h:List (Nat×HO)
 hb:Nat→HO
def LS.st(s:LS):St:=⟨Sp s.t,Ai s.h s.hb⟩
def Rk(h:Nat→HO)(r:Nat):Bool:=match h r with | .free=>false | _=>true
def ids0(h:Nat→HO):AV→Bool
 |.slice (.id r _) _=>Rk h r
 |.slice (.ver r _ _) _=>Rk h r
 |.msl r _=>Rk h r
 |.ref r _=>Rk h r
 |.eref r _ _ _ _=>Rk h r
 |.mref r=>Rk h r
 |.agg _ |.tup _ |.clo ..=>false
 |_=>true
def XQ(h:Nat→HO):List AV→Bool
 | []=>true
 |a::r=>match ids0 h a with |true=>XQ h r |false=>false
def Ul(h:Nat→HO):AV→Bool
 |.agg cs=>XQ h cs
 |.tup cs=>XQ h cs
 |.clo _ cs=>XQ h cs
 |a=>ids0 h a
def QJ(h:Nat→HO):List (Value×AV)→Bool
 | []=>true
 |p::r=>match Ul h p.2 with |true=>QJ h r |false=>false
def ko(h:Nat→HO):List AV→Bool
 | []=>true
 |a::r=>match Ul h a with |true=>ko h r |false=>false
def XP(h:Nat→HO):HO→Bool
 |.cells cs=>ko h cs
 |.mapU _ BX=>QJ h BX
 |.hol _ _ _ _ a=>Ul h a
 |_=>true
def vY(st:St)(h:Nat→HO):List (Nat×AV)→Prop
 | []=>True
 |(j,a)::r=>(st.t j=a∧Ul h a=true)∧vY st h r
def vX(st:St)(h:Nat→HO):List (Nat×HO)→Prop
 | []=>True
 |(j,o)::r=>(st.h j=o∧XP h o=true)∧vX st h r
def St.le(cx:Cx)(st:St)(s:LS):Prop :=
 vY st s.st.h s.t∧vX st s.st.h s.h∧(∀j,s.hb j=.free∨(st.h j=s.hb j∧XP s.st.h (s.hb j)=true)) ∧
 match cx.ext with
 |false=>True
 |true=>∀j,1000≤j→j<2000→st.h j≠.free→s.st.h j≠.free
def Mo(cx:Cx)(ops:Array Oper)(dr:Bool)(st:St)(K:St→Prop):Prop :=
 match dr with
 |false=>T8 cx ops.toList ops.toList st K
 |true=>W2 cx ops ops.toList [] st K
inductive Ex | normal | exit (id:Nat) | ret
def tx(h:Nat→HO)(o k:Nat)(K:(Nat→HO)→Prop):Prop :=
 match h o with
 |.cells cs=>match I3 cs k with
  |.msl r n=>match h r with
   |.arr sz es=>n=es.length∧K (AT (AT h r (.tok sz es.length)) o (.cells (Ev cs k (.slice (.id r sz) es))))
   |_=>K h
  |_=>K h
 |_=>K h
def tv(h:Nat→HO)(o k j:Nat)(K:(Nat→HO)→Prop):Prop :=
 match h o with
 |.cells cs=>match I3 cs k with
  |.msl r n=>match h r with
   |.arr sz es=>match h j with
    |.free=>n=es.length∧K (AT (AT (AT h r .dead) j (.arr sz es)) o (.cells (Ev cs k (.msl j n))))
    |_=>False
   |_=>False
  |_=>False
 |_=>False
def xe(h:Nat→HO)(o k d:Nat)(K:(Nat→HO)→Prop):Prop :=
 match h o with
 |.cells cs=>match I3 cs k with
  |.slice (.ver r sz v) es=>match h r with
   |.var Gq v' _=>match h d with
    |.free=>(v=v'∧sz=Gq)∧K (AT (AT (AT h r (.vox v)) d (.tok sz es.length)) o (.cells (Ev cs k (.slice (.id d sz) es))))
    |_=>False
   |_=>False
  |_=>K h
 |_=>False
def td(h:Nat→HO)(o k r:Nat)(K:(Nat→HO)→Prop):Prop :=
 match h o with
 |.cells cs=>match I3 cs k with
  |.slice (.id d sz) es=>match h d with
   |.tok Gq n=>match h r with
    |.vox v=>(es.length=n∧sz=Gq)∧K (AT (AT (AT h d .dead) r (.var sz (v+1) n)) o (.cells (Ev cs k (.slice (.ver r sz (v+1)) es))))
    |_=>False
   |_=>False
  |_=>K h
 |_=>False
def vZ(h:Nat→HO)(r:Nat)(K:(Nat→HO)→Prop):Prop :=
 match h r with
 |.free=>K (AT h r (.vox 0))
 |_=>False
def tc(h:Nat→HO)(o k:Nat)(K:(Nat→HO)→Prop):Prop :=
 match h o with
 |.cells cs=>match I3 cs k with
  |.mref r=>match h r with
   |.rom sh BX=>K (AT h o (.cells (Ev cs k (.cmap sh BX))))
   |_=>False
  |_=>False
 |_=>False
def xq(h:Nat→HO)(o k j sz:Nat)(K:(Nat→HO)→Prop):Prop :=
 match h o with
 |.cells cs=>match I3 cs k with
  |.v (.slice none 0 0)=>match h j with
   |.free=>K (AT (AT h j (.arr sz [])) o (.cells (Ev cs k (.msl j 0))))
   |_=>False
  |_=>False
 |_=>False
def uq(cx:Cx)(id:Nat)(h:Nat→HO)(K:(Nat→HO)→Prop):Prop :=
 match GB cx.pl.ak (850000+id)with
 |some v=>K (fo h v)
 |none=>K h
def tb(cx:Cx)(id:Nat)(h:Nat→HO)(K:(Nat→HO)→Prop):Prop :=
 match GB cx.pl.ak (800000+id)with
 |some v=>tc h (v % 10000) (v / 10000 % 100) K
 |none=>K h
def rC(cx:Cx)(id:Nat)(h:Nat→HO)(K:(Nat→HO)→Prop):Prop :=
 match GB cx.pl.ak (810000+id)with
 |some v=>tc h (v % 10000) (v / 10000 % 100) K
 |none=>K h
def pq(cx:Cx)(id:Nat)(h:Nat→HO)(K:(Nat→HO)→Prop):Prop :=
 match GB cx.pl.ak (900000+id)with
 |some v=>xq h (v % 10000) (v / 10000 % 100) (v / 1000000 % 10000) (v / 10000000000) K
 |none=>K h
def vu(h:Nat→HO)(r:Nat)(K:(Nat→HO)→Prop):Prop :=
 match h r with
 |.hol sz es i c (.msl j m)=>match Nat.beq r j with
  |true=>False
  |false=>match h j with
   |.arr bl qs=>m=qs.length∧∃cs,es[i]?=some cs∧c<sz∧K (AT (AT (AT h j (.tok bl qs.length)) j .dead) r (.arr sz (es.set i (over cs c [.slice .none qs]))))
   |_=>False
 |_=>False
def oM(cx:Cx)(id:Nat)(h:Nat→HO)(K:(Nat→HO)→Prop):Prop :=
 match GB cx.pl.ak (500000+id)with
 |some v=>xe h (v % 10000) (v / 10000 % 100) (v / 1000000) K
 |none=>match GB cx.pl.ak (600000+id)with
  |some v=>td h (v % 10000) (v / 10000 % 100) (v / 1000000) K
  |none=>match GB cx.pl.ak (700000+id)with
   |some v=>vZ h v K
   |none=>match GB cx.pl.ak (950000+id)with
    |some v=>vu h v K
    |none=>uq cx id h fun h=>tb cx id h fun h=>rC cx id h fun h=>pq cx id h K
def tw(st:St)(s k:Nat)(K:St→Prop):Prop :=
 match st.t s with
 |.msl r n=>match st.h r with
  |.arr sz es=>match k with
   |0=>n=es.length∧K ⟨G4 st.t s (.slice .none es),AT (AT st.h r (.tok sz es.length)) r .dead⟩
   |k+1=>match Nat.beq r (k+1)with
    |true=>K st
    |false=>match st.h (k+1)with
     |.free=>n=es.length∧K ⟨G4 st.t s (.msl (k+1) n),AT (AT st.h r .dead) (k+1) (.arr sz es)⟩
     |_=>False
  |_=>K st
 |_=>K st
def pW(cx:Cx)(id:Nat)(st:St)(K:St→Prop):Prop :=
 match IH cx.pl.cut id with
 |true=>match GB cx.pl.ak (100000+id)with
  |none=>match GB cx.pl.ak (200000+id)with
   |none=>match GB cx.pl.ak (300000+id)with
    |none=>oM cx id st.h fun h'=>∃s:LS,St.le cx ⟨st.t,h'⟩ s∧K s.st
    |some v=>tv st.h (v % 10000) (v / 10000 % 100) (v / 1000000) fun h'=>∃s:LS,St.le cx ⟨st.t,h'⟩ s∧K s.st
   |some v=>tw st (v % 1000) (v / 1000) fun D7=>∃s:LS,St.le cx D7 s∧K s.st
  |some v=>tx st.h (v % 1000) (v / 1000) fun h'=>∃s:LS,St.le cx ⟨st.t,h'⟩ s∧K s.st
 |false=>K st
def Rc(cx:Cx)(c:Code)(Q:Ex→St→Prop)(st:St):Prop :=
 match c with
 |.skip=>Q .normal st
 |.label _=>Q .normal st
 |.region id ops dr=>pW cx id st fun st=>match cx.pl.dyn with
  | []=>Mo cx ops dr st (Q .normal)
  |_=>∃n,Mo { cx with nid:=n } ops dr st (Q .normal)
 |.seq a b=>Rc cx a (fun e D7=>match e with |.normal=>Rc cx b Q D7 |e=>Q e D7) st
 |.cond c a b=>match ev st.t c with
  |.v (.bool true)=>Rc cx a Q st
  |.v (.bool false)=>Rc cx b Q st
  |_=>False
 |.block id c=>Rc cx c (fun e D7=>match e with |.exit j=>(bif Nat.beq j id then Q .normal D7 else Q (.exit j) D7) |e=>Q e D7) st
 |.loop c=>∃(α:Type) (I:α→LS) (μ:α→Nat),(∃x,St.le cx st (I x)) ∧
   ∀x,Rc cx c (fun e D7=>match e with | .normal=>∃y,μ y<μ x∧St.le cx D7 (I y) | e=>Q e D7) (I x).st
 |.exit id=>Q (.exit id) st
 |.ret=>Q .ret st
 |_=>False
def On:List AV→Nat→AV
 | [],_=>.v undef
 |a::r,n=>match n with |0=>a |n+1=>On r n
def kU(T:Gs)(st:St):List ResultVar→(List AV→Prop)→Prop
 | [],K=>K []
 |.tmp i::r,K=>kU T st r fun l=>K (str st.h (st.t i)::l)
 |.cell a t::r,K=>H9 T st.h t (st.t a) fun v=>kU T st r fun l=>K (str st.h v::l)
def kS(cx:Cx)(st:St)(rs:List ResultVar)(K:AV→Prop):Prop :=
 kU cx.T ⟨st.t,OF st.h cx.pl.fin⟩ rs fun
  | [v]=>K v
  |vs=>K (.tup vs)
def nf(cx:Cx)(rs:List ResultVar)(K:AV→Prop)(e:Ex)(st:St):Prop :=
 match e with
 |.normal=>kS cx st rs K
 |.ret=>kS cx st rs K
 |.exit _=>False
def kV(T:Gs)(st:St):List ResultVar→(List AV→Prop)→Prop
 | [],K=>K []
 |.tmp i::r,K=>kV T st r fun l=>K (st.t i::l)
 |.cell a t::r,K=>H9 T st.h t (st.t a) fun v=>kV T st r fun l=>K (v::l)
def cX(cx:Cx)(st:St)(rs:List ResultVar)(σ:IV)(Q:AV→(Nat→HO)→Prop):Prop :=
 kV cx.T ⟨st.t,OF st.h cx.pl.fin⟩ rs fun
  | [v]=>Q (ren (Cf σ) (OF st.h cx.pl.fin) v) (Fz σ (OF st.h cx.pl.fin))
  |vs=>Q (ren (Cf σ) (OF st.h cx.pl.fin) (.tup vs)) (Fz σ (OF st.h cx.pl.fin))
def Xl(cx:Cx)(rs:List ResultVar)(σ:IV)(Q:AV→(Nat→HO)→Prop)(e:Ex)(st:St):Prop :=
 match e with
 |.normal=>cX cx st rs σ Q
 |.ret=>cX cx st rs σ Q
 |.exit _=>False
def Iq(σ:IV):List (Nat×HO)→Bool
 | []=>true
 |(i,_)::r=>Nat.ble 1000 i&&Nat.blt i 2000&&(match Cf σ i with |some j=>Nat.beq j i |none=>false)&&Iq σ r
end Go.Eng
