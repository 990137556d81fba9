/- Lemmas for the claims of this seat, without a condition: part 5 (EngA). -/
import Derived.Test.YtddfphmpfnmknaaGreatDoorCA00
import Derived.WalkKit
import Derived.Still
import Derived.RangeFuncSeq
import Derived.OrdersIn
import Derived.TacticsIn
namespace Go.Eng
inductive Tk | none | full (sz:Nat) | id (r sz:Nat) | ver (r sz v:Nat)
inductive KS | int (k:IntKind) | str | bool
structure EG where
 agg:Bool
 l:List KS
inductive AV
 |v (x:Value)
 |slice (tk:Tk) (es:List (List AV))
 |msl (r n:Nat)
 |agg (cs:List AV)
 |tup (vs:List AV)
 |cptr (cs:List AV)
 |ref (r off:Nat)
 |eref (r n sz i off:Nat)
 |mref (r:Nat)
 |cmap (sh:EG) (BW:List (Value×AV))
 |clo (f:Nat) (caps:List AV)
 |junk
inductive HO
 |free
 |dead
 |cells (cs:List AV)
 |ro (cs:List AV)
 |tok (sz n:Nat)
 |var (sz v n:Nat)
 |vox (v:Nat)
 |arr (sz:Nat) (es:List (List AV))
 |map (sh:EG) (BW:List (Value×AV))
 |mapU (sh:EG) (BW:List (Value×AV))
 |rom (sh:EG) (BW:List (Value×AV))
 |iter (all rem:List (Value×AV)) (Fx:Option (Value×AV))
 |raw (b:Nat) (ob:Obj)
 |hol (sz:Nat) (es:List (List AV)) (i c:Nat) (a:AV)
structure St where
 t:Nat→AV
 h:Nat→HO
def Aa:Nat→HO:=fun _=>.free
def AR(h:Nat→HO)(r:Nat)(o:HO):Nat→HO:=fun i=>bif Nat.beq i r then o else h i
def G0(t:Nat→AV)(d:Nat)(v:AV):Nat→AV:=fun i=>bif Nat.beq i d then v else t i
def St.put(st:St)(d:Option Nat)(v:AV)(h:Nat→HO):St :=
 match d with
 |none=>⟨st.t,h⟩
 |some d=>⟨G0 st.t d v,h⟩
def ev(t:Nat→AV):Operand→AV
 |.tmp i=>t i
 |.const v=>.v v
 |.global g=>.v (.pointer (some ⟨g,0,none⟩))
 |.func f=>.v (.func (.func f) #[] #[])
inductive TD
 |int (k:IntKind) |bool |string |slice (e:Nat) |array (n e:Nat) |struct (fs:List (Nat×Nat)) |ptr (e:Nat) |map (k e:Nat) |func |iface |other
structure TI where
 d:TD
 size:Nat
 bytes:Nat
 zero:Value
 eqok:Bool
def TI.zc(i:TI):List Value:=match i.zero with | .agg cs=>cs.toList | v=>[v]
abbrev Gr:=Nat→TI
structure RK where
 frz:List Nat
 tok:List (Nat×Nat)
 arr:List (Nat×Nat)
 fz:List (Nat×List Nat)
 fin:List Nat
 mku:List Nat
 dyn:List Nat
 tz:List (Nat×(Nat×Nat×Nat×Nat))
 dc:List (Nat×Nat)
 ak:List (Nat×Nat)
 cut:List Nat
def IE(l:List Nat)(n:Nat):Bool :=
 match l with
 | []=>false
 |x::r=>bif Nat.beq x n then true else IE r n
def Gz(l:List (Nat×Nat))(n:Nat):Option Nat :=
 match l with
 | []=>none
 |(x,y)::r=>bif Nat.beq x n then some y else Gz r n
def str0(h:Nat→HO):AV→AV
 |.slice _ es=>.slice .none es
 |.ref r off=>match h r with |.ro cs=>.cptr (cs.drop off) |_=>.junk
 |.mref r=>match h r with |.rom sh BW=>.cmap sh BW |_=>.junk
 |.v x=>.v x
 |.cptr cs=>.cptr cs
 |.cmap s m=>.cmap s m
 |_=>.junk
def str(h:Nat→HO):AV→AV
 |.agg cs=>.agg (cs.map (str0 h))
 |.clo f cs=>.clo f (cs.map (str0 h))
 |a=>str0 h a
def Rg(h:Nat→HO)(BW:List (Value×AV)):List (Value×AV):=BW.map fun p=>(p.1,str h p.2)
def ff(h:Nat→HO)(r:Nat):Nat→HO :=
 match h r with
 |.cells cs=>AR h r (.ro (cs.map (str h)))
 |.map sh BW=>AR h r (.rom sh BW)
 |.mapU sh BW=>AR h r (.rom sh (Rg h BW))
 |_=>h
def OD(h:Nat→HO):List Nat→Nat→HO
 | []=>h
 |r::l=>OD (ff h r) l
def my(l:List (Nat×List Nat))(n:Nat):List Nat :=
 match l with
 | []=>[]
 |(x,y)::r=>bif Nat.beq x n then y else my r n
def pp(l:List (Nat×(Nat×Nat×Nat×Nat)))(n:Nat):Option (Nat×Nat×Nat×Nat) :=
 match l with
 | []=>none
 |(x,y)::r=>bif Nat.beq x n then some y else pp r n
def IY(l:List AV)(n:Nat):AV :=
 match l with
 | []=>.junk
 |x::r=>match n with |0=>x |n+1=>IY r n
def EB(cs:List AV)(o:Nat)(v:AV):List AV :=
 match cs with
 | []=>[]
 |c::cs=>match o with |0=>v::cs |o+1=>c::EB cs o v
def s9(h:Nat→HO)(r k j sz:Nat):Nat→HO :=
 match h r with
 |.cells cs=>match IY cs k with
  |.v (.slice none 0 0)=>match h j with
   |.free=>AR (AR h j (.tok sz 0)) r (.cells (EB cs k (.slice (.id j sz) [])))
   |_=>h
  |_=>h
 |_=>h
def rsv(h:Nat→HO):AV→AV
 |.ref r off=>match h r with |.ro cs=>.cptr (cs.drop off) |_=>.ref r off
 |.mref r=>match h r with |.rom sh BW=>.cmap sh BW |_=>.mref r
 |a=>a
def one:AV→Bool
 |.v x=>x.oneCell'
 |.agg _ |.tup _ |.junk=>false
 |_=>true
def GS:List AV→Bool
 | []=>true
 |a::r=>match one a with |true=>GS r |false=>false
def sf:AV→List AV
 |.agg cs=>cs
 |a=>[a]
def BQ(a:Int):Prop:=-9223372036854775808≤a∧a<9223372036854775808
def L1(cs:List AV)(K:AV→Prop):Prop :=
 match cs with
 |a::_=>K a
 | []=>False
def IK(p:Prop)(K:AV→Prop):Prop:=(p→K (.v (.bool true)))∧(¬p→K (.v (.bool false)))
def Lw(T:Gr)(t:Nat)(cs:List AV)(K:AV→Prop):Prop :=
 match(T t).d with
 |.struct _=>(T t).size≤cs.length∧K (.agg (cs.take (T t).size))
 |.array _ _=>(T t).size≤cs.length∧K (.agg (cs.take (T t).size))
 |.bool=>L1 cs fun |.v (.bool b)=>(b=true→K (.v (.bool true)))∧(b=false→K (.v (.bool false))) |_=>False
 |.other=>False
 |_=>L1 cs K
def lw:List AV→List AV→Prop
 | [],[]=>True
 |.v (.int _ a)::r,.v (.int _ b)::s=>a=b∧lw r s
 |.v (.string a)::r,.v (.string b)::s=>a=b∧lw r s
 |.v (.bool a)::r,.v (.bool b)::s=>a=b∧lw r s
 |_,_=>False
def pg:IntKind→IntKind→Bool
 |.i64,.i64 |.u8,.u8 |.u32,.u32 |.i32,.i32 |.u64,.u64 |.u16,.u16 |.i16,.i16 |.i8,.i8=>true
 |_,_=>false
def Ny(f:Nat→Option (List KS)):Nat→List (Nat×Nat)→Option (List KS)
 |_,[]=>some []
 |n,(t,o)::r=>match Nat.beq o n with
  |true=>match f t with
   |some a=>match Ny f (n+a.length) r with
    |some b=>some (a++b)
    |none=>none
   |none=>none
  |false=>none
def Hr(T:Gr):Nat→Nat→Option (List KS)
 |0,_=>none
 |n+1,t=>match(T t).d with
  |.int k=>match(T t).size with |1=>some [.int k] |_=>none
  |.string=>match(T t).size with |1=>some [.str] |_=>none
  |.bool=>match(T t).size with |1=>some [.bool] |_=>none
  |.struct fs=>match(T t).eqok with
   |true=>match Ny (Hr T n) 0 fs with
    |some l=>match Nat.beq l.length (T t).size with |true=>some l |false=>none
    |none=>none
   |false=>none
  |_=>none
def M9:KS→Value→Bool
 |.int k,.int k' _=>pg k k'
 |.str,.string _=>true
 |.bool,.bool _=>true
 |_,_=>false
def XO:List KS→List AV→Bool
 | [],[]=>true
 |k::r,.v x::s=>match M9 k x with |true=>XO r s |false=>false
 |_,_=>false
def oQ(T:Gr)(t:Nat)(x y:AV)(K:AV→Prop):Prop :=
 match(T t).d with
 |.bool=>match x,y with
  |.v (.bool a),.v (.bool b)=>K (.v (.bool (a == b)))
  |_,_=>False
 |.struct _=>match x,y with
  |.agg xs,.agg ys=>match Hr T 8 t with
   |some l=>match XO l xs with
    |true=>match XO l ys with
     |true=>IK (lw xs ys) K
     |false=>False
    |false=>False
   |none=>False
  |_,_=>False
 |.slice _=>match x,y with
  |.slice _ es,.v (.slice none 0 0)=>(es≠[]→K (.v (.bool false)))∧(es=[]→K (.v (.bool true))∧K (.v (.bool false)))
  |.v (.slice none 0 0),.v (.slice none 0 0)=>K (.v (.bool true))
  |_,_=>False
 |.ptr _=>match x,y with
  |.v (.pointer none),.v (.pointer none)=>K (.v (.bool true))
  |.cptr _,.v (.pointer none)=>K (.v (.bool false))
  |.ref _ _,.v (.pointer none)=>K (.v (.bool false))
  |.eref _ _ _ _ _,.v (.pointer none)=>K (.v (.bool false))
  |_,_=>False
 |_=>False
def cK(K:AV→Prop):AV→Prop
 |.v (.bool true)=>K (.v (.bool false))
 |.v (.bool false)=>K (.v (.bool true))
 |_=>False
def Uy(op:BinOp)(k:IntKind)(a b:Int):Int :=
 match op with
 |.and=>k.wrap (BitVec.ofInt k.bits a &&& BitVec.ofInt k.bits b).toNat
 |.or=>k.wrap (BitVec.ofInt k.bits a |||BitVec.ofInt k.bits b).toNat
 |_=>k.wrap (BitVec.ofInt k.bits a ^^^ BitVec.ofInt k.bits b).toNat
def kZ(op:BinOp)(k:IntKind)(a b:Int):Int :=
 match op with
 |.shl=>k.wrap (a*2 ^ min b.toNat k.bits)
 |_=>a.fdiv (2 ^ min b.toNat k.bits)
def TE(op:BinOp)(k:IntKind)(a b:Int)(K:AV→Prop):Prop :=
 match op with
 |.shl=>0≤b∧K (.v (.int k (kZ .shl k a b)))
 |.shr=>0≤b∧K (.v (.int k (kZ .shr k a b)))
 |_=>False
def VG(op:BinOp)(k:IntKind)(a b:Int)(K:AV→Prop):Prop :=
 match op with
 |.quo=>(0≤a∧0<b∧k.wrap (a / b)=a / b)∧K (.v (.int k (a / b)))
 |.rem=>(0≤a∧0<b)∧K (.v (.int k (a % b)))
 |.and=>K (.v (.int k (Uy .and k a b)))
 |.or=>K (.v (.int k (Uy .or k a b)))
 |.xor=>K (.v (.int k (Uy .xor k a b)))
 |.add=>K (.v (.int k (k.wrap (a+b))))
 |.sub=>K (.v (.int k (k.wrap (a-b))))
 |.mul=>K (.v (.int k (k.wrap (a*b))))
 |op=>TE op k a b K
def RP(op:BinOp)(k:IntKind)(a b:Int)(K:AV→Prop):Prop :=
 match k with
 |.i64=>match op with
  |.add=>BQ (a+b)∧K (.v (.int .i64 (a+b)))
  |.sub=>BQ (a-b)∧K (.v (.int .i64 (a-b)))
  |.mul=>BQ (a*b)∧K (.v (.int .i64 (a*b)))
  |.quo=>(0≤a∧0<b∧BQ a)∧K (.v (.int .i64 (a / b)))
  |.rem=>(0≤a∧0<b)∧K (.v (.int .i64 (a % b)))
  |op=>VG op .i64 a b K
 |k=>VG op k a b K
def RT(T:Gr)(op:BinOp)(t:Nat)(x y:AV)(K:AV→Prop):Prop :=
 match x,y with
 |.v (.int k a),.v (.int k' b)=>match pg k k' with
  |false=>TE op k a b K
  |true=>match op with
   |.eql=>IK (a=b) K
   |.neq=>IK (a≠b) K
   |.lss=>IK (a<b) K
   |.leq=>IK (a≤b) K
   |.gtr=>IK (b<a) K
   |.geq=>IK (b≤a) K
   |op=>RP op k a b K
 |.v (.string a),.v (.string b)=>match op with
   |.eql=>IK (a=b) K
   |.neq=>IK (a≠b) K
   |.lss=>IK (Op.bytesLess a.toList b.toList=true) K
   |.geq=>IK (Op.bytesLess a.toList b.toList=false) K
   |.gtr=>IK (Op.bytesLess b.toList a.toList=true) K
   |.leq=>IK (Op.bytesLess b.toList a.toList=false) K
   |.add=>((a.size+b.size:Nat):Int)≤9223372036854775807∧K (.v (.string (a++b)))
   |_=>False
 |x,y=>match op with
  |.eql=>oQ T t x y K
  |.neq=>oQ T t x y (cK K)
  |_=>False
def WX(T:Gr)(op:BinOp)(t:Nat)(Y:Operand)(x y:AV)(K:AV→Prop):Prop :=
 match Y with
 |.const .nilIface=>match x with
  |.v .nilIface=>match(T t).d with
   |.iface=>match op with
    |.eql=>K (.v (.bool true))
    |.neq=>K (.v (.bool false))
    |_=>False
   |_=>False
  |_=>False
 |_=>RT T op t x y K
def W5(T:Gr)(s t:Nat)(x:AV)(K:AV→Prop):Prop :=
 match(T s).d,(T t).d,x with
 |.int _,.int .i64,.v (.int _ n)=>BQ n∧K (.v (.int .i64 n))
 |.int _,.int k,.v (.int _ n)=>K (.v (.int k (k.wrap n)))
 |.string,.string,.v (.string s)=>K (.v (.string s))
 |.slice e,.string,.slice _ es=>match(T e).d with
  |.int .u8=>∃l:List UInt8,es=l.map (fun b=>[AV.v (.int .u8 b.toNat)])∧K (.v (.string ⟨l.toArray⟩))
  |_=>False
 |_,_,_=>False
def VV(fs:List (Nat×Nat))(n:Nat):Option (Nat×Nat) :=
 match fs with
 | []=>none
 |x::r=>match n with |0=>some x |n+1=>VV r n
def Sn(T:Gr)(s f:Nat)(x:AV)(K:AV→Prop):Prop :=
 match(T s).d with
 |.struct fs=>match VV fs f with
  |some (t,o)=>match(T t).size with
   |0=>False
   |_+1=>match x with
    |.cptr cs=>K (.cptr (cs.drop o))
    |.ref r off=>K (.ref r (off+o))
    |.eref r n z i off=>K (.eref r n z i (off+o))
    |_=>False
  |none=>False
 |_=>False
def Yc(T:Gr)(t:Nat)(cs:List AV)(K:AV→Prop):Prop:=Lw T t cs K
def Oq(T:Gr)(s f:Nat)(x:AV)(K:AV→Prop):Prop :=
 match(T s).d,x with
 |.struct fs,.agg cs=>match VV fs f with
  |some (t,o)=>Yc T t (cs.drop o) K
  |none=>False
 |_,_=>False
def Jh(T:Gr)(t:Nat)(x ix:AV)(K:AV→Prop):Prop :=
 match(T t).d,ix with
 |.slice e,.v (.int .i64 i)=>match(T e).size with
  |0=>False
  |_+1=>match x with
   |.slice _ es=>∃cs,(0≤i∧es[i.toNat]?=some cs)∧cs.length=(T e).size∧K (.cptr cs)
   |.msl r n=>(0≤i∧i<n)∧K (.eref r n (T e).size i.toNat 0)
   |_=>False
 |.array n e,.v (.int .i64 i)=>match(T e).size with
  |0=>False
  |_+1=>match x with
   |.cptr cs=>(0≤i∧i<n)∧K (.cptr (cs.drop (i.toNat*(T e).size)))
   |.ref r off=>(0≤i∧i<n)∧K (.ref r (off+i.toNat*(T e).size))
   |_=>False
 |_,_=>False
def SO(T:Gr)(t:Nat)(x ix:AV)(K:AV→Prop):Prop :=
 match(T t).d,x,ix with
 |.string,.v (.string s),.v (.int .i64 i)=>∃b:UInt8,(0≤i∧s.data[i.toNat]?=some b)∧K (.v (.int .u8 b.toNat))
 |.array n e,.agg cs,.v (.int .i64 i)=>(0≤i∧i<n)∧Yc T e (cs.drop (i.toNat*(T e).size)) K
 |_,_,_=>False
def B3(t:Nat→AV):Option Operand→Option (Option Int)
 |none=>some none
 |some x=>match ev t x with |.v (.int .i64 i)=>some (some i) |_=>none
def over{α:Type}(cs:List α)(o:Nat)(vs:List α):List α :=
 match cs with
 | []=>[]
 |c::cs=>match o with
  |o+1=>c::over cs o vs
  |0=>match vs with
   | []=>c::cs
   |v::vs=>v::over cs 0 vs
structure Gh where
 ρ:Nat→Value
 ln:Nat→Nat
 tk:Nat→Bool
 own:Nat→Option Nat
 S:Nat→Nat→Prop
def I0:List KS→List Value→Bool
 | [],[]=>true
 |k::r,v::s=>match M9 k v with |true=>I0 r s |false=>false
 |_,_=>false
def Ve(sh:EG)(v:Value):Bool :=
 match sh.agg,v with
 |true,.agg cs=>I0 sh.l cs.toList
 |false,v=>I0 sh.l [v]
 |_,_=>false
def G3(sh:EG)(es:Array MapEntry)(ck:Nat)(BW:List (Value×AV)):Prop :=
 es.size=BW.length∧(∀(i:Nat) (kv:Value×AV) (e:MapEntry),BW[i]?=some kv→es[i]?=some e→e.key=kv.1) ∧
 (∀kv∈BW,Ve sh kv.1=true)∧(BW.map (·.1)).Nodup∧(∀(i:Nat) (e:MapEntry),es[i]?=some e→e.born<ck) ∧
 ∀(i j:Nat) (e e' : MapEntry),es[i]?=some e→es[j]?=some e'→e.born=e'.born→i=j
inductive BD(g:Gh)(w:World):(Nat→Prop)→AV→Value→Prop
 |v (U:Nat→Prop) (x:Value):BD g w U (.v x) x
 |junk (U:Nat→Prop) (x:Value):BD g w U .junk x
 |snil (U:Nat→Prop) (a:Option Addr) (cap:Nat):BD g w U (.slice .none []) (.slice a 0 cap)
 |slice (U:Nat→Prop) (es:List (List AV)) (b off sz cap:Nat) (val:Nat→Nat→Value) (hc:es.length≤cap)
   (hl:∀(i:Nat) (cs:List AV),es[i]?=some cs→cs.length=sz)
   (Du:∀(i:Nat) (cs:List AV) (j:Nat) (av:AV),es[i]?=some cs→cs[j]?=some av →
    g.S b (off+i*sz+j)∧w.cell? ⟨b,off+i*sz+j,none⟩=some (val i j)∧(val i j).oneCell'=true)
   (Eg:∀(i:Nat) (cs:List AV) (j:Nat) (av:AV),es[i]?=some cs→cs[j]?=some av→BD g w (fun _=>False) av (val i j)) :
   BD g w U (.slice .none es) (.slice (some ⟨b,off,none⟩) es.length cap)
 |tok (U:Nat→Prop) (r sz:Nat) (es:List (List AV)) (x:Value) (h:BD g w U (.slice .none es) x) (hl:∀c∈es,c.length=sz) (hu:U r) (ht:g.tk r=true) (hn:es.length≤g.ln r)
   (hx:es.length=g.ln r→x=g.ρ r):BD g w U (.slice (.id r sz) es) x
 |ver (U:Nat→Prop) (r sz v:Nat) (es:List (List AV)) (x:Value) (h:BD g w U (.slice .none es) x) (hl:∀c∈es,c.length=sz) (hu:U r) (ht:g.tk r=true) (hn:v≤g.ln r)
   (hx:v=g.ln r→x=g.ρ r):BD g w U (.slice (.ver r sz v) es) x
 |full (U:Nat→Prop) (sz:Nat) (es:List (List AV)) (x:Value) (h:BD g w U (.slice .none es) x) (hl:∀c∈es,c.length=sz) (hx:∃a,x=.slice a es.length es.length):BD g w U (.slice (.full sz) es) x
 |msl (U:Nat→Prop) (r n:Nat) (a:Option Addr) (cap:Nat) (hu:U r) (ht:g.tk r=true) (hn:n≤g.ln r) (ha:n=0∨∃b,a=some ⟨b,0,none⟩) (hx:n=g.ln r→.slice a n cap=g.ρ r) :
   BD g w U (.msl r n) (.slice a n cap)
 |agg (U:Nat→Prop) (cs:List AV) (vs:Array Value) (hs:vs.size=cs.length) (h1:∀(i:Nat) (x:Value),vs[i]?=some x→x.oneCell'=true)
   (h:∀(i:Nat) (av:AV) (x:Value),cs[i]?=some av→vs[i]?=some x→BD g w U av x):BD g w U (.agg cs) (.agg vs)
 |tup (U:Nat→Prop) (cs:List AV) (vs:Array Value) (hs:vs.size=cs.length)
   (h:∀(i:Nat) (av:AV) (x:Value),cs[i]?=some av→vs[i]?=some x→BD g w U av x):BD g w U (.tup cs) (.tuple vs)
 |cptr (U:Nat→Prop) (cs:List AV) (b off:Nat) (val:Nat→Value)
   (Du:∀(j:Nat) (av:AV),cs[j]?=some av→g.S b (off+j)∧w.cell? ⟨b,off+j,none⟩=some (val j)∧(val j).oneCell'=true)
   (Eg:∀(j:Nat) (av:AV),cs[j]?=some av→BD g w (fun _=>False) av (val j)) :
   BD g w U (.cptr cs) (.pointer (some ⟨b,off,none⟩))
 |ref (U:Nat→Prop) (r off b:Nat) (hu:U r) (ht:g.tk r=false) (hx:g.ρ r=.pointer (some ⟨b,0,none⟩)):BD g w U (.ref r off) (.pointer (some ⟨b,off,none⟩))
 |eref (U:Nat→Prop) (r n sz i off b cap:Nat) (hu:U r) (ht:g.tk r=true) (hn:i<n∧n≤g.ln r) (hx:n=g.ln r→g.ρ r=.slice (some ⟨b,0,none⟩) n cap) :
   BD g w U (.eref r n sz i off) (.pointer (some ⟨b,i*sz+off,none⟩))
 |mref (U:Nat→Prop) (r b:Nat) (hu:U r) (ht:g.tk r=false) (hx:g.ρ r=.map (some b)):BD g w U (.mref r) (.map (some b))
 |cmap (U:Nat→Prop) (sh:EG) (BW:List (Value×AV)) (b:Nat) (es:Array MapEntry) (ck:Nat) (hS:g.S b 0) (hb:w.heap[b]?=some (.map es ck)) (hm:G3 sh es ck BW)
   (h:∀(i:Nat) (kv:Value×AV) (e:MapEntry),BW[i]?=some kv→es[i]?=some e→BD g w (fun _=>False) kv.2 e.val):BD g w U (.cmap sh BW) (.map (some b))
 |clo (U:Nat→Prop) (f:Nat) (cs:List AV) (vs:Array Value) (hs:vs.size=cs.length)
   (h:∀(i:Nat) (av:AV) (x:Value),cs[i]?=some av→vs[i]?=some x→BD g w U av x):BD g w U (.clo f cs) (.func (.func f) #[] vs)
def HO.live:HO→Prop
 |.free |.dead |.vox _ |.ro _ |.rom _ _=>False
 |_=>True
def AP(h:Nat→HO)(r:Nat):Prop:=h r≠.free
def Fg:Nat→Prop:=fun _=>False
def Ct(g:Gh)(w:World)(U:Nat→Prop)(cs:List AV)(vs:List Value):Prop :=
 vs.length=cs.length∧(∀x∈vs,x.oneCell'=true)∧∀(i:Nat) (av:AV) (x:Value),cs[i]?=some av→vs[i]?=some x→BD g w U av x
def Od:List Nat→Code→Bool
 |bs,.block id c=>Od (id::bs) c
 |bs,.seq a b=>Od bs a||Od bs b
 |bs,.cond _ a b=>Od bs a||Od bs b
 |bs,.loop c=>Od bs c
 |bs,.exit id=>!(bs.any fun i=>Nat.beq i id)
 |_,_=>false
def py:Obj→Bool
 |.loop r=>Od [] r.body
 |_=>false
def D8(g:Gh)(w:World)(U:Nat→Prop)(r:Nat):HO→Prop
  |.free |.dead=>True
  |.cells cs=>g.tk r=false∧∃b E vs,g.own r=some b∧g.ρ r=.pointer (some ⟨b,0,none⟩)∧w.heap[b]?=some (.cells vs E (0,0))∧Ct g w U cs vs.toList∧∀o,¬g.S b o
  |.ro cs=>g.tk r=false∧∃b,g.ρ r=.pointer (some ⟨b,0,none⟩)∧BD g w Fg (.cptr cs) (.pointer (some ⟨b,0,none⟩))
  |.tok sz n=>g.tk r=true∧g.ln r=n∧∃a cap,g.ρ r=.slice a n cap∧(n=cap∧g.own r=none ∨
      n≤cap∧∃b E vs off,a=some ⟨b,off,none⟩∧g.own r=some b∧w.heap[b]?=some (.cells vs E (0,0))∧vs.size=off+cap*sz∧∀o,g.S b o→o<off+n*sz)
  |.var sz v n=>g.tk r=true∧g.ln r=v∧∃a cap,g.ρ r=.slice a n cap∧(n=cap∧g.own r=none ∨
      n≤cap∧∃b E vs off,a=some ⟨b,off,none⟩∧g.own r=some b∧w.heap[b]?=some (.cells vs E (0,0))∧vs.size=off+cap*sz∧∀o,g.S b o→o<off+n*sz)
  |.vox v=>g.tk r=true∧g.ln r=v
  |.arr sz es=>g.tk r=true∧g.ln r=es.length∧(∀cs∈es,cs.length=sz)∧(es=[]∧g.ρ r=.slice none 0 0∧g.own r=none ∨
      ∃b cap E vs,g.ρ r=.slice (some ⟨b,0,none⟩) es.length cap∧g.own r=some b∧es.length≤cap∧w.heap[b]?=some (.cells vs E (0,0))∧vs.size=cap*sz ∧
        Ct g w Fg es.flatten (vs.toList.take (es.length*sz))∧∀o,¬g.S b o)
  |.map sh BW=>g.tk r=false∧∃b es ck,g.own r=some b∧g.ρ r=.map (some b)∧w.heap[b]?=some (.map es ck)∧G3 sh es ck BW ∧
      (∀(i:Nat) (kv:Value×AV) (e:MapEntry),BW[i]?=some kv→es[i]?=some e→BD g w Fg kv.2 e.val)∧∀o,¬g.S b o
  |.mapU sh BW=>g.tk r=false∧∃b es ck,g.own r=some b∧g.ρ r=.map (some b)∧w.heap[b]?=some (.map es ck)∧G3 sh es ck BW ∧
      (∀(i:Nat) (kv:Value×AV) (e:MapEntry),BW[i]?=some kv→es[i]?=some e→BD g w U kv.2 e.val)∧∀o,¬g.S b o
  |.rom sh BW=>g.tk r=false∧∃b,g.ρ r=.map (some b)∧BD g w Fg (.cmap sh BW) (.map (some b))
  |.iter all rem Fx=>g.tk r=false∧∃b mb JU seen st es ck,g.own r=some b∧g.ρ r=.pointer (some ⟨b,0,none⟩)∧w.heap[b]?=some (.mapIter (some mb) JU seen st) ∧
      g.S mb 0∧w.heap[mb]?=some (.map es ck)∧(∃sh,G3 sh es ck all)∧JU=ck∧st=ck ∧
      (∀(i:Nat) (kv:Value×AV) (e:MapEntry),all[i]?=some kv→es[i]?=some e→BD g w Fg kv.2 e.val) ∧
      (rem.Nodup∧∀kv∈rem,kv∈all)∧(∀(i:Nat) (kv:Value×AV) (e:MapEntry),all[i]?=some kv→es[i]?=some e→(kv∈rem↔e.born∉seen)) ∧
      (match Fx with | none=>True | some kv=>∃(i:Nat) (e:MapEntry),all[i]?=some kv∧es[i]?=some e∧seen.back?=some e.born)∧∀o,¬g.S b o
  |.hol sz es i c a=>g.tk r=true∧g.ln r=es.length∧(∀cs∈es,cs.length=sz)∧∃b cap E vs,g.ρ r=.slice (some ⟨b,0,none⟩) es.length cap∧g.own r=some b∧es.length≤cap∧w.heap[b]?=some (.cells vs E (0,0))∧vs.size=cap*sz ∧
        Ct g w Fg es.flatten (vs.toList.take (es.length*sz))∧(∀o,¬g.S b o)∧i*sz+c<es.length*sz∧∃x,vs[i*sz+c]?=some x∧BD g w U a x
  |.raw b ob=>g.tk r=false∧g.own r=some b∧w.heap[b]?=some ob∧py ob=true∧∀o,¬g.S b o
def gB:Nat:=0
def pW:List (Nat×Nat×Option Value):=[]
def Vv(g:Gh)(w:World):Prop:=(g.S gB 0∧∃m,w.cell? ⟨gB,0,none⟩=some (.int .i64 m))∧∀x∈pW,g.S x.1 x.2.1∧w.cell? ⟨x.1,x.2.1,none⟩=x.2.2
structure DA(w0:World)(g0:Gh)(h0:Nat→HO)(h:Nat→HO)(g:Gh)(w:World):Prop where
 os:w.os=w0.os
 tape:w.tape=w0.tape
 output:w.output=w0.output
 size:w0.heap.size≤w.heap.size
 frame:∀b,b<w0.heap.size→(∀r,(h0 r).live→g0.own r≠some b)→w.heap[b]?=w0.heap[b]?
 slt:∀b o,g.S b o→b<w.heap.size
 objs:∀r,D8 g w (AP h) r (h r)
 inj:∀r r' b,(h r).live→(h r').live→g.own r=some b→g.own r'=some b→r=r'
 loc:∀r b,(h r).live→g.own r=some b→b<w.heap.size∧(w0.heap.size≤b∨∃r',(h0 r').live∧g0.own r'=some b)
 sg:∀b o,g.S b o→g0.S b o∨w0.heap.size≤b∨∃r',(h0 r').live∧g0.own r'=some b
 glob:Vv g w
def EE(g:Gh)(w:World)(g' : Gh)(w' : World):Prop :=
 ∀b o,g.S b o→g'.S b o∧w'.cell? ⟨b,o,none⟩=w.cell? ⟨b,o,none⟩∧∀es ck,w.heap[b]?=some (.map es ck)→w'.heap[b]?=some (.map es ck)
def JY(g g' : Gh)(U:Nat→Prop):Prop :=
 ∀i,U i→g'.tk i=g.tk i∧g.ln i≤g'.ln i∧(g.tk i=false→g'.ρ i=g.ρ i)∧(g'.ln i=g.ln i→g'.ρ i=g.ρ i)
structure Le(h:Nat→HO)(g:Gh)(w:World)(h' : Nat→HO)(g' : Gh)(w' : World):Prop where
 gh:JY g g' (AP h)
 us:∀i,AP h i→AP h' i
 keeps:EE g w g' w'
def F3 (P : Program) (f : Nat) : Prop := ∃ fn, P.funcs[f]? = some fn ∧ (fn.name == "runtime.NumGoroutine") = false ∧ fn.body.isNone = false
def A3(P:Program)(f:Nat)(args:List AV)(h0:Nat→HO)(Q:AV→(Nat→HO)→Prop):Prop :=
 F3 P f∧∀(g:Gh) (w:World) (vals:Array Value),vals.size=args.length→(∀(i:Nat) (av:AV) (x:Value),args[i]?=some av→vals[i]?=some x→BD g w (AP h0) av x) →
  DA w g h0 h0 g w →
  Calls P f vals w fun e w'=>∃v r h' g',e=.returned v∧Q r h'∧BD g' w' (AP h') r v∧DA w g h0 h' g' w'∧Le h0 g w h' g' w'
def I6(P:Program)(f:Nat)(args:List AV)(res:AV):Prop:=A3 P f args Aa fun r h'=>r=res∧h'=Aa
def II(P:Program)(Y:Gh→World→Prop)(l:Nat)(args:List AV)(h0:Nat→HO)(Q:AV→(Nat→HO)→Prop):Prop :=
 ∀(g:Gh) (w:World) (vals:Array Value),vals.size=args.length→(∀(i:Nat) (av:AV) (x:Value),args[i]?=some av→vals[i]?=some x→BD g w (AP h0) av x) →
  DA w g h0 h0 g w→Y g w →
  YieldAt Fence.wide 0 P l vals w fun e w'=>∃v r h' g',e=.returned v∧Q r h'∧BD g' w' (AP h') r v∧DA w g h0 h' g' w'∧Le h0 g w h' g' w'
def mf(P:Program)(Y:Gh→World→Prop)(f:Nat)(args:List AV)(h0:Nat→HO)(Q:AV→(Nat→HO)→Prop):Prop :=
 F3 P f∧∀(g:Gh) (w:World) (vals:Array Value),vals.size=args.length→(∀(i:Nat) (av:AV) (x:Value),args[i]?=some av→vals[i]?=some x→BD g w (AP h0) av x) →
  DA w g h0 h0 g w→Y g w →
  Calls P f vals w fun e w'=>∃v r h' g',e=.returned v∧Q r h'∧BD g' w' (AP h') r v∧DA w g h0 h' g' w'∧Le h0 g w h' g' w'
def F2(P:Program)(Y:Nat→Gh→World→Prop)(F:AV)(args:List AV)(h:Nat→HO)(Q:AV→(Nat→HO)→Prop):Prop :=
 match F with
 |.v (.func (.func f) ⟨[]⟩ ⟨[]⟩)=>A3 P f args h Q
 |.clo f caps=>A3 P f (args++caps) h Q
 |.v (.func (.yield l) ⟨[]⟩ ⟨[]⟩)=>II P (Y l) l args h Q
 |_=>False
def Pm(P:Program)(F:AV)(args:List AV)(res:AV):Prop :=
 match F with
 |.v (.func (.func f) ⟨[]⟩ ⟨[]⟩)=>I6 P f args res
 |.clo f caps=>I6 P f (args++caps) res
 |_=>False
structure Cx where
 P:Program
 T:Gr
 pl:RK
 ext:Bool
 nid:Nat
 yp:Nat→List (Nat×Nat)→Gh→World→Prop
def Ks(cx:Cx)(d:Nat):Nat:=bif IE cx.pl.dyn d then cx.nid else d
abbrev HK:=AV→(Nat→HO)→Prop
def RN(T:Gr)(d:Option Nat)(h:Nat→HO)(e:Nat)(K:HK):Prop :=
 match d with
 |none=>False
 |some d=>match h d with
  |.free=>match(T e).d with
   |.other=>False
   |_=>match GS ((T e).zc.map .v)with
    |true=>K (.ref d 0) (AR h d (.cells ((T e).zc.map .v)))
    |false=>False
  |_=>False
def GU(n:Nat)(a:AV)(K:List AV→Prop):Prop :=
 match a with
 |.agg cs=>match Nat.beq cs.length n with
  |true=>K cs
  |false=>False
 |a=>match one a with
  |true=>match n with
   |1=>K [a]
   |_=>False
  |false=>False
def bx(cx:Cx)(d:Option Nat)(h:Nat→HO)(e:Nat)(x:AV)(K:HK):Prop :=
 match d with
 |none=>False
 |some d=>match h d with
  |.free=>match(cx.T e).d with
   |.other=>False
   |_=>GU (cx.T e).size x fun cs=>match IE cx.pl.frz d with
    |true=>K (.ref d 0) (AR h d (.ro (cs.map (str h))))
    |false=>K (.ref d 0) (AR h d (.cells cs))
  |_=>False
def NX(cx:Cx)(h:Nat→HO)(t:Nat)(p x:AV)(K:HK):Prop :=
 match(cx.T t).d with
 |.other=>False
 |_=>GU (cx.T t).size x fun vs=>match p with
  |.ref r off=>match h r with
   |.cells cs=>off+vs.length≤cs.length∧(match IE cx.pl.frz r with
    |true=>K (.v undef) (AR h r (.ro ((over cs off vs).map (str h))))
    |false=>K (.v undef) (AR h r (.cells (over cs off vs))))
   |_=>False
  |.eref r n sz i off=>match h r with
   |.arr Gp es=>match Nat.beq sz Gp with
    |true=>n=es.length∧∃cs,es[i]?=some cs∧off+vs.length≤sz∧(match vs with
     | [.msl j m]=>K (.v undef) (AR h r (.hol sz (es.set i (over cs off [.junk])) i off (.msl j m)))
     |_=>K (.v undef) (AR h r (.arr sz (es.set i (over cs off (vs.map (str h)))))))
    |false=>False
   |_=>False
  |_=>False
def H3(T:Gr)(h:Nat→HO)(t:Nat)(p:AV)(K:AV→Prop):Prop :=
 match p with
 |.cptr cs=>Lw T t cs K
 |.ref r off=>match h r with
  |.cells cs=>Lw T t (cs.drop off) K
  |.ro cs=>Lw T t (cs.drop off) K
  |_=>False
 |.eref r n sz i off=>match h r with
  |.arr Gp es=>match Nat.beq sz Gp with
   |true=>n=es.length∧∃cs,es[i]?=some cs∧Lw T t (cs.drop off) K
   |false=>False
  |.hol Gp es i' c a=>match Nat.beq sz Gp with
   |true=>(n=es.length∧i=i'∧off=c)∧Lw T t [a] K
   |false=>False
  |_=>False
 |_=>False
def Ku(pl:Nat→Option (Nat×Nat))(cs:List AV)(t:Nat→AV)(ps:List (Nat×Operand))(K:List AV→Prop):Prop :=
 match ps with
 | []=>K cs
 |(i,x)::r=>match pl i with
  |none=>False
  |some (o,n)=>GU n (ev t x) fun vs=>match Nat.ble (o+n) cs.length with
   |true=>Ku pl (over cs o vs) t r K
   |false=>False
def N8(T:Gr):List (Nat×Nat)→Bool
 | []=>true
 |(t,_)::r=>match(T t).size with |0=>false |_+1=>N8 T r
def Pr(T:Gr)(ty:Nat)(t:Nat→AV)(ps:List (Nat×Operand))(K:AV→Prop):Prop :=
 match GS ((T ty).zc.map .v)with
 |false=>False
 |true=>match(T ty).d with
  |.struct fs=>match N8 T fs with
   |false=>False
   |true=>Ku (fun i=>match VV fs i with |some (t,o)=>some (o,(T t).size) |none=>none) ((T ty).zc.map .v) t ps fun cs=>K (.agg cs)
  |.array _ e=>match(T e).size with
   |0=>False
   |_+1=>Ku (fun i=>some (i*(T e).size,(T e).size)) ((T ty).zc.map .v) t ps fun cs=>K (.agg cs)
  |_=>False
def Qy(n sz:Nat)(h:Nat→HO)(es:List (List AV))(t:Nat→AV)(ps:List (Nat×Operand))(K:List (List AV)→Prop):Prop :=
 match ps with
 | []=>K es
 |(i,x)::r=>match Nat.blt i n with
  |true=>GU sz (ev t x) fun vs=>Qy n sz h (es.set i (vs.map (str h))) t r K
  |false=>False
def EA(cx:Cx)(d:Option Nat)(h:Nat→HO)(sz:Nat)(es:List (List AV))(K:HK):Prop :=
 match d with
 |none=>False
 |some d=>match h (Ks cx d)with
  |.free=>match Gz cx.pl.arr d with
   |some _=>K (.msl (Ks cx d) es.length) (AR h (Ks cx d) (.arr sz es))
   |none=>K (.slice (.id (Ks cx d) sz) es) (AR h (Ks cx d) (.tok sz es.length))
  |_=>False
def Im(cx:Cx)(d:Option Nat)(h:Nat→HO)(ty n:Nat)(t:Nat→AV)(ps:List (Nat×Operand))(K:HK):Prop :=
 match(cx.T ty).d with
 |.slice e=>match GS ((cx.T e).zc.map .v),Nat.beq (cx.T e).zc.length (cx.T e).size with
  |true,true=>match(cx.T e).size with
   |0=>False
   |_+1=>match Nat.ble (n*(cx.T e).size) 16777216 with
    |true=>Qy n (cx.T e).size h (List.replicate n ((cx.T e).zc.map .v)) t ps fun es=>EA cx d h (cx.T e).size es K
    |false=>False
  |_,_=>False
 |_=>False
def Kz(t:Nat→AV)(h:Nat→HO)(fn:Fn)(first captured:List Operand)(K:AV→Prop):Prop :=
 match fn,first with
 |.func f,[]=>K (.clo f (captured.map fun x=>rsv h (ev t x)))
 |_,_=>False
def De(sz:Nat):List (List AV)→Prop
 | []=>True
 |c::r=>c.length=sz∧De sz r
def K3(h:Nat→HO)(x:AV)(K:List (List AV)→Prop):Prop :=
 match x with
 |.slice _ es=>K es
 |.v (.slice none 0 0)=>K []
 |.msl r n=>match h r with
  |.arr _ es=>n=es.length∧K es
  |_=>False
 |_=>False
def H8(cx:Cx)(d:Option Nat)(h:Nat→HO)(ty:Nat)(s x:AV)(K:HK):Prop :=
 match(cx.T ty).d with
 |.slice e=>match Nat.beq (cx.T e).zc.length (cx.T e).size with
  |false=>False
  |true=>match(cx.T e).size with
   |0=>False
   |_+1=>K3 h x fun es2=>match s with
    |.v (.slice none 0 0)=>(De (cx.T e).size es2∧es2.length*(cx.T e).bytes≤140737488355328∧es2.length≤9223372036854775807)∧EA cx d h (cx.T e).size es2 K
    |.slice (.full Gp) es=>match Nat.beq Gp (cx.T e).size with
     |true=>(De (cx.T e).size es2∧0<es2.length∧(es.length+es2.length)*(cx.T e).bytes≤140737488355328∧es.length+es2.length≤9223372036854775807)∧EA cx d h (cx.T e).size (es++es2) K
     |false=>False
    |.slice (.id r Gp) es=>match h r with
     |.tok sz n=>match Nat.beq sz (cx.T e).size,Nat.beq Gp sz with
      |true,true=>(De sz es2∧es.length=n∧(es.length+es2.length)*(cx.T e).bytes≤140737488355328∧es.length+es2.length≤9223372036854775807) ∧
        K (.slice (.id r sz) (es++es2)) (AR h r (.tok sz (es.length+es2.length)))
      |_,_=>False
     |_=>False
    |.msl r n=>match h r with
     |.arr sz es=>match Nat.beq sz (cx.T e).size with
      |true=>(De sz es2∧es.length=n∧(es.length+es2.length)*(cx.T e).bytes≤140737488355328∧es.length+es2.length≤9223372036854775807) ∧
        K (.msl r (es.length+es2.length)) (AR h r (.arr sz (es++es2)))
      |false=>False
     |_=>False
    |_=>False
 |_=>False
abbrev IR:=List (Nat×Nat)
inductive pk | pure | rel | gen (σ:IR) (nn:Nat) | geny (σ:IR) (nn:Nat)
def Cf(σ:IR)(n:Nat):Option Nat :=
 match σ with
 | []=>none
 |(i,j)::r=>bif Nat.beq i n then some j else Cf r n
def HF(σ:IR)(n:Nat):Option Nat :=
 match σ with
 | []=>none
 |(i,j)::r=>bif Nat.beq j n then some i else HF r n
def Ek:IR→Bool
 | []=>true
 |(i,j)::r=>(match Cf r i,HF r j with |none,none=>true |_,_=>false)&&Nat.ble 1000 j&&Nat.blt j 2000&&Ek r
def GE:IR→Bool
 | []=>true
 |(i,j)::r=>(match Cf r i,HF r j with |none,none=>true |_,_=>false)&&GE r
def ren0(f:Nat→Option Nat)(h:Nat→HO):AV→AV
 |.slice (.id r sz) es=>match f r with |some r'=>.slice (.id r' sz) es |none=>.slice .none es
 |.slice (.ver r sz v) es=>match f r with |some r'=>.slice (.ver r' sz v) es |none=>.slice .none es
 |.msl r n=>match f r with |some r'=>.msl r' n |none=>.junk
 |.ref r off=>match f r with |some r'=>.ref r' off |none=>str0 h (.ref r off)
 |.eref r n sz i off=>match f r with |some r'=>.eref r' n sz i off |none=>.junk
 |.mref r=>match f r with |some r'=>.mref r' |none=>str0 h (.mref r)
 |a=>str0 h a
def ren1(f:Nat→Option Nat)(h:Nat→HO):AV→AV
 |.agg cs=>.agg (cs.map (ren0 f h))
 |.clo g cs=>.clo g (cs.map (ren0 f h))
 |a=>ren0 f h a
def ren(f:Nat→Option Nat)(h:Nat→HO):AV→AV
 |.tup cs=>.tup (cs.map (ren1 f h))
 |a=>ren1 f h a
def HO.ren(f:Nat→Option Nat)(h:Nat→HO):HO→HO
 |.cells cs=>.cells (cs.map (ren1 f h))
 |.mapU sh BW=>.mapU sh (BW.map fun p=>(p.1,ren1 f h p.2))
 |.hol sz es i c a=>.hol sz es i c (ren1 f h a)
 |o=>o
def Ai(l:List (Nat×HO))(hb:Nat→HO)(i:Nat):HO:=match l with | []=>hb i | (j,v)::r=>bif Nat.beq i j then v else Ai r hb i
def Wu(f:Nat→Option Nat)(h:Nat→HO):IR→List (Nat×HO)
 | []=>[]
 |(i,j)::r=>(j,(h i).ren f h)::Wu f h r
def Fw(σ:IR)(h:Nat→HO):Nat→HO:=Ai (Wu (Cf σ) h σ) Aa
def Bp(d k:Nat):Nat:=10000+100*d+k
def E3(σ:IR)(d nn:Nat)(j:Nat):Option Nat :=
 match HF σ j with
 |some i=>some i
 |none=>match Nat.ble 2000 j&&Nat.blt j (2000+nn)with |true=>some (Bp d (j-2000)) |false=>none
def D6(σ:IR)(d nn:Nat)(h h' : Nat→HO):Nat→HO:=fun i =>
 match Cf σ i with
 |some j=>(h' j).ren (E3 σ d nn) h'
 |none=>match Nat.ble (Bp d 0) i&&Nat.blt i (Bp d nn)with |true=>(h' (2000+(i-Bp d 0))).ren (E3 σ d nn) h' |false=>h i
def Dv(h:Nat→HO)(d:Nat):Nat→Bool
 |0=>true
 |k+1=>(match h (Bp d k)with |.free=>true |_=>false)&&Dv h d k
def Df(σ:IR)(d nn:Nat):Bool :=
 match σ with
 | []=>true
 |(i,_)::r=>!(Nat.ble (Bp d 0) i&&Nat.blt i (Bp d nn))&&Df r d nn
def No(l:List (Nat×Nat))(d:Option Nat):Option Nat:=match d with | none=>none | some d=>Gz l d
def aB:AV→Bool | .tup _=>false | _=>true
def Ti:List AV→Bool
 | []=>true
 |a::r=>match aB a with |true=>Ti r |false=>false
def Vo:List AV→Option (List Value)
 | []=>some []
 |.v x::r=>match Vo r with |some l=>some (x::l) |none=>none
 |_=>none
def QV(cx:Cx)(k:Nat)(d:Option Nat)(h:Nat→HO)(F:AV)(args:List AV)(K:HK):Prop :=
 match d,F,args with
 |some d,.v (.func (.func f) ⟨[]⟩ ⟨[]⟩),.msl r n::l=>match Vo l with
  |some vs=>match h r with
   |.arr sz es=>match k with
    |0=>∃n' Fy,A3 cx.P f (.msl 1000 n::vs.map .v) (Ai [(1000,.arr sz es)] Aa) (fun r' h'=>r'=.msl 1000 n'∧h'=Ai [(1000,.arr sz Fy)] Aa)∧K (.msl r n') (AR h r (.arr sz Fy))
    |_+1=>∃n' Fy,(Dv h d 1&&Nat.blt r 10000000&&!Nat.beq r (Bp d 0))=true∧A3 cx.P f (.msl 1000 n::vs.map .v) (Ai [(1000,.arr sz es)] Aa) (fun r' h'=>r'=.msl 2000 n'∧h'=Ai [(1000,.dead),(2000,.arr sz Fy)] Aa) ∧
      K (.msl (Bp d 0) n') (AR (AR h r .dead) (Bp d 0) (.arr sz Fy))
   |_=>False
  |none=>False
 |_,_,_=>False
def TO(cx:Cx)(d:Option Nat)(st:St)(F:AV)(args:List AV)(K:HK):Prop :=
 match d with
 |none=>False
 |some d=>∃sz es,(Dv st.h d 1&&aB F&&Ti args)=true∧F2 cx.P (fun l=>cx.yp l []) (str st.h F) (args.map (str st.h)) Aa (fun r h'=>r=.slice (.id 2000 sz) es∧h'=Ai [(2000,.tok sz es.length)] Aa) ∧
   K (.slice (.id (Bp d 0) sz) es) (AR st.h (Bp d 0) (.tok sz es.length))
def Qj(cx:Cx)(d:Option Nat)(st:St)(F:AV)(args:List AV)(K:HK):Prop :=
  match d,F,Vo args with
  |some _,.v (.func (.yield l) ⟨[]⟩ ⟨[]⟩),some vs=>match st.h 1000,st.h 1001 with
    |.cells [.slice (.id r sz) es],.tok aW n=>(r=1001∧aW=sz)∧∃v Fy n',II cx.P (cx.yp l [(1000,1000),(1001,1001)]) l (vs.map .v) (Ai [(1000,.cells [.slice (.id 1001 sz) es]),(1001,.tok sz n)] Aa)
          (fun r h'=>r=.v v∧h'=Ai [(1000,.cells [.slice (.id 1001 sz) Fy]),(1001,.tok sz n')] Aa) ∧
        K (.v v) (AR (AR st.h 1001 (.tok sz n')) 1000 (.cells [.slice (.id 1001 sz) Fy]))
    |_,_=>False
  |_,_,_=>False
def jA:List Nat:=[1000,1001,1002,1003,1004,1005,1006,1007]
def Xv(cx:Cx)(d:Option Nat)(st:St)(F:AV)(args:List AV)(K:HK):Prop :=
 match d,F with
 |some d,.v (.func (.func f) ⟨[]⟩ ⟨[]⟩)=>∃(σ:IR) (H0 Hn:List (Nat×HO)) (args' : List AV) (res:AV),
   (∀h2:Nat→HO,(∀r∈jA,h2 r=st.h r)→Fw σ h2=Ai H0 Aa∧args.map (ren (Cf σ) h2)=args')∧(Ek σ&&Df σ d 0&&σ.all fun p=>IE jA p.1)=true ∧
   A3 cx.P f args' (Ai H0 Aa) (fun r h'=>r=res∧h'=Ai Hn Aa)∧K (ren (E3 σ d 0) (Ai Hn Aa) res) (D6 σ d 0 st.h (Ai Hn Aa))
 |_,_=>False
def Pa(cx:Cx)(k:Nat)(d:Option Nat)(st:St)(F:AV)(args:List AV)(K:HK):Prop :=
 match Nat.beq k 4 with
 |true=>Xv cx d st F args K
 |false=>QV cx k d st.h F args K
def Gg(cx:Cx)(dr:Bool)(d:Option Nat)(st:St)(F:AV)(args:List AV)(K:HK):Prop :=
 match dr with
 |true=>match No cx.pl.dc d with
  |none=>∃res,Pm cx.P (str st.h F) (args.map (str st.h)) res∧K res st.h
  |some 0=>match d with
   |none=>False
   |some d=>∃n sz es,(Dv st.h d 1&&aB F&&Ti args)=true∧F2 cx.P (fun l=>cx.yp l []) (str st.h F) (args.map (str st.h)) Aa (fun r h'=>r=.msl 2000 n∧h'=Ai [(2000,.arr sz es)] Aa) ∧
     K (.msl (Bp d 0) n) (AR st.h (Bp d 0) (.arr sz es))
  |some (k+1)=>match Nat.beq k 2 with
   |true=>TO cx d st F args K
   |false=>match Nat.beq k 3 with
    |true=>Qj cx d st F args K
    |false=>Pa cx k d st F args K
 |false=>∃m:pk,match m with
  |.pure=>∃res,Pm cx.P (str st.h F) (args.map (str st.h)) res∧K res st.h
  |.rel=>F2 cx.P (fun _ _ _=>True) (str st.h F) (args.map (str st.h)) Aa fun r h'=>h'=Aa∧K r st.h
  |.gen σ nn=>match d with
   |none=>False
   |some d=>(Ek σ&&Dv st.h d nn&&Df σ d nn)=true ∧
     F2 cx.P (fun l=>cx.yp l σ) (ren (Cf σ) st.h F) (args.map (ren (Cf σ) st.h)) (Fw σ st.h) fun r h'=>K (ren (E3 σ d nn) h' r) (D6 σ d nn st.h h')
  |.geny σ nn=>match d with
   |none=>False
   |some d=>(Ek σ&&Dv st.h d nn&&Df σ d nn)=true ∧
     match ren (Cf σ) st.h F with
     |.clo f caps=>mf cx.P (fun g w=>∀l,cx.yp l σ g w) f (args.map (ren (Cf σ) st.h)++caps) (Fw σ st.h) fun r h'=>K (ren (E3 σ d nn) h' r) (D6 σ d nn st.h h')
     |_=>False
def WD:List AV→Option (List Value)
 | []=>some []
 |.v x::r=>match WD r with |some l=>some (x::l) |none=>none
 |_=>none
def nQ:AV→Option Value
 |.v x=>some x
 |.agg cs=>match WD cs with |some l=>some (.agg l.toArray) |none=>none
 |_=>none
def HJ(T:Gr)(t:Nat):Option EG :=
 match(T t).d with
 |.struct _=>match Hr T 8 t with |some l=>some ⟨true,l⟩ |none=>none
 |_=>match Hr T 1 t with |some l=>some ⟨false,l⟩ |none=>none
def kf:KS→KS→Bool
 |.int k,.int k'=>pg k k'
 |.str,.str=>true
 |.bool,.bool=>true
 |_,_=>false
def SX:List KS→List KS→Bool
 | [],[]=>true
 |a::r,b::s=>match kf a b with |true=>SX r s |false=>false
 |_,_=>false
def ov(a b:EG):Bool :=
 match a.agg,b.agg with
 |true,true=>SX a.l b.l
 |false,false=>SX a.l b.l
 |_,_=>false
def J8(T:Gr)(ty:Nat)(sh:EG)(k:AV)(K:Value→Prop):Prop :=
 match(T ty).d with
 |.map kt _=>match HJ T kt with
  |some s5=>match ov sh s5 with
   |true=>match nQ k with
    |some kx=>match Ve sh kx with
     |true=>K kx
     |false=>False
    |none=>False
   |false=>False
  |none=>False
 |_=>False
open Classical in
noncomputable def ET(BW:List (Value×AV))(k:Value)(a:AV):List (Value×AV) :=
 if ∃a',(k,a')∈BW then BW.map fun p=>if p.1=k then(k,a)else p else BW++[(k,a)]
def KA(T:Gr)(mku:List Nat)(d:Option Nat)(h:Nat→HO)(ty:Nat)(K:HK):Prop :=
 match d with
 |none=>False
 |some d=>match h d with
  |.free=>match(T ty).d with
   |.map kt _=>match HJ T kt with
    |some sh=>match IE mku d with
     |true=>K (.mref d) (AR h d (.mapU sh []))
     |false=>K (.mref d) (AR h d (.map sh []))
    |none=>False
   |_=>False
  |_=>False
def GW(T:Gr)(h:Nat→HO)(ty:Nat)(m k x:AV)(K:HK):Prop :=
 match m with
 |.mref r=>match h r with
  |.map sh BW=>J8 T ty sh k fun kx=>K (.v undef) (AR h r (.map sh (ET BW kx (str h x))))
  |.mapU sh BW=>J8 T ty sh k fun kx=>K (.v undef) (AR h r (.mapU sh (ET BW kx x)))
  |_=>False
 |_=>False
def Ke(T:Gr)(t:Nat)(K:AV→Prop):Prop :=
 match(T t).d with
 |.other=>False
 |_=>match(T t).zero with
  |.agg cs=>match GS (cs.toList.map .v)with |true=>K (.agg (cs.toList.map .v)) |false=>False
  |z=>K (.v z)
def LY(T:Gr)(ty:Nat)(ok:Bool)(BW:List (Value×AV))(kx:Value)(K:AV→Prop):Prop :=
 match(T ty).d with
 |.map _ e=>match ok with
  |true=>(∀a,(kx,a)∈BW→K (.tup [a,.v (.bool true)]))∧((∀a,(kx,a)∉BW)→Ke T e fun z=>K (.tup [z,.v (.bool false)]))
  |false=>(∀a,(kx,a)∈BW→K a)∧((∀a,(kx,a)∉BW)→Ke T e K)
 |_=>False
def LX(T:Gr)(ty:Nat)(ok:Bool)(BW:List (Value×AV))(kx:Value)(K:AV→Prop):Prop :=
 match(T ty).d with
 |.map _ e=>match ok with
  |true=>(∃a,((kx,a)∈BW∧∀b,(kx,b)∈BW→b=a)∧K (.tup [a,.v (.bool true)]))∨((∀a,(kx,a)∉BW)∧Ke T e fun z=>K (.tup [z,.v (.bool false)]))
  |false=>(∃a,((kx,a)∈BW∧∀b,(kx,b)∈BW→b=a)∧K a)∨((∀a,(kx,a)∉BW)∧Ke T e K)
 |_=>False
def MF(T:Gr)(h:Nat→HO)(ty:Nat)(m k:AV)(ok:Bool)(K:AV→Prop):Prop :=
 match m with
 |.cmap sh BW=>J8 T ty sh k fun kx=>LX T ty ok BW kx K
 |.mref r=>match h r with
  |.map sh BW=>J8 T ty sh k fun kx=>LX T ty ok BW kx K
  |.mapU sh BW=>J8 T ty sh k fun kx=>LX T ty ok BW kx K
  |.rom sh BW=>J8 T ty sh k fun kx=>LX T ty ok BW kx K
  |_=>False
 |_=>False
def MG(T:Gr)(h:Nat→HO)(ty:Nat)(m k:AV)(ok:Bool)(K:AV→Prop):Prop :=
 match m with
 |.cmap sh BW=>J8 T ty sh k fun kx=>LY T ty ok BW kx K
 |.mref r=>match h r with
  |.map sh BW=>J8 T ty sh k fun kx=>LY T ty ok BW kx K
  |.mapU sh BW=>J8 T ty sh k fun kx=>LY T ty ok BW kx K
  |.rom sh BW=>J8 T ty sh k fun kx=>LY T ty ok BW kx K
  |_=>False
 |_=>False
def Zy(d:Option Nat)(h:Nat→HO)(x:AV)(K:HK):Prop :=
 match d with
 |none=>False
 |some d=>match h d with
  |.free=>match x with
   |.cmap _ BW=>K (.ref d 0) (AR h d (.iter BW BW none))
   |.mref r=>match h r with
    |.rom _ BW=>K (.ref d 0) (AR h d (.iter BW BW none))
    |.map sh BW=>K (.ref d 0) (AR (AR h r (.rom sh BW)) d (.iter BW BW none))
    |_=>False
   |_=>False
  |_=>False
def gE(h:Nat→HO)(x:AV)(K:HK):Prop :=
 match x with
 |.ref r 0=>match h r with
  |.iter all rem _=>(rem=[]→K (.tup [.v (.bool false)]) h) ∧
    (∀kv NR,rem.Perm (kv::NR)→K (.tup [.v (.bool true),.v kv.1,kv.2]) (AR h r (.iter all NR (some kv))))
  |_=>False
 |_=>False
def YV(h:Nat→HO)(x:AV)(K:AV→Prop):Prop :=
 match x with
 |.ref r 0=>match h r with
  |.iter _ _ (some kv)=>K (.tup [.v kv.1,kv.2])
  |_=>False
 |_=>False
def QH(T:Gr)(t:Nat)(h:Nat→HO)(x:AV)(K:AV→Prop):Prop :=
 match(T t).d with
 |.slice _=>match x with
  |.slice _ es=>K (.v (.int .i64 es.length))
  |.msl _ n=>K (.v (.int .i64 n))
  |.v (.slice none 0 0)=>K (.v (.int .i64 0))
  |_=>False
 |.string=>match x with
  |.v (.string s)=>K (.v (.int .i64 s.size))
  |_=>False
 |.map _ _=>match x with
  |.cmap _ BW=>K (.v (.int .i64 BW.length))
  |.mref r=>match h r with
   |.map _ BW=>K (.v (.int .i64 BW.length))
   |.mapU _ BW=>K (.v (.int .i64 BW.length))
   |.rom _ BW=>K (.v (.int .i64 BW.length))
   |_=>False
  |_=>False
 |_=>False
def Gm(cx:Cx)(d:Option Nat)(h:Nat→HO)(ty:Nat)(x:AV)(lo hi mx:Option (Option Int))(K:HK):Prop :=
 match lo,hi,mx with
 |some lo,some hi,some mx=>match(cx.T ty).d with
  |.string=>match mx,x with
   |none,.v (.string s)=>(0≤lo.getD 0∧lo.getD 0≤hi.getD s.size∧hi.getD s.size≤s.size)∧K (.v (.string (s.extract (lo.getD 0).toNat (hi.getD s.size).toNat))) h
   |_,_=>False
  |.slice e=>match(cx.T e).size with
   |0=>False
   |_+1=>match x with
    |.slice _ es=>match mx with
     |none=>(0≤lo.getD 0∧lo.getD 0≤hi.getD es.length∧hi.getD es.length≤es.length) ∧
       (∀cs∈es,cs.length=(cx.T e).size)∧K (.slice .none ((es.take (hi.getD es.length).toNat).drop (lo.getD 0).toNat)) h
     |some m=>match d,hi with
      |some d,some hi=>match Gz cx.pl.arr d with
       |some _=>(0≤lo.getD 0∧lo.getD 0≤hi∧m=hi∧hi≤es.length)∧(∀cs∈es,cs.length=(cx.T e).size) ∧
         K (.slice (.full (cx.T e).size) ((es.take hi.toNat).drop (lo.getD 0).toNat)) h
       |none=>match h d with
        |.free=>(0≤lo.getD 0∧lo.getD 0≤hi∧m=hi∧hi≤es.length)∧(∀cs∈es,cs.length=(cx.T e).size) ∧
          K (.slice (.id d (cx.T e).size) ((es.take hi.toNat).drop (lo.getD 0).toNat)) (AR h d (.tok (cx.T e).size (hi.toNat-(lo.getD 0).toNat)))
        |_=>False
      |_,_=>False
    |.v (.slice none 0 0)=>(lo.getD 0=0∧hi.getD 0=0∧mx.getD 0=0)∧(mx=none∨hi≠none)∧K (.v (.slice none 0 0)) h
    |.msl r n=>match h r with
     |.arr sz es=>match Nat.beq sz (cx.T e).size with
      |true=>(n=es.length∧0≤lo.getD 0∧lo.getD 0≤hi.getD es.length∧hi.getD es.length≤es.length∧(mx=none∨(mx=hi∧hi≠none))) ∧
        K (.slice .none ((es.take (hi.getD es.length).toNat).drop (lo.getD 0).toNat)) (AR h r .dead)
      |false=>False
     |_=>False
    |_=>False
  |_=>False
 |_,_,_=>False
def Ty(cx:Cx)(d:Option Nat)(h:Nat→HO)(ty:Nat)(x:AV)(lo:Option (Option Int))(hi mx:Option Operand)(K:HK):Prop :=
 match d,lo,hi,mx with
 |some d,some (some lo),none,none=>match(cx.T ty).d with
  |.slice e=>match(cx.T e).size with
   |0=>False
   |_+1=>match x with
    |.slice (.id r sz) es=>match h r with
     |.tok Gp n=>match h (Ks cx d)with
      |.free=>match Nat.beq Gp sz,Nat.beq sz (cx.T e).size with
       |true,true=>(es.length=n∧0≤lo∧lo≤es.length)∧K (.slice (.id (Ks cx d) sz) (es.drop lo.toNat)) (AR (AR h r .dead) (Ks cx d) (.tok sz (es.drop lo.toNat).length))
       |_,_=>False
      |_=>False
     |_=>False
    |_=>False
  |_=>False
 |_,_,_,_=>False
def gY(cx:Cx)(d:Option Nat)(h:Nat→HO)(ty:Nat)(x:AV)(hi:Option (Option Int))(K:HK):Prop :=
 match d,hi with
 |some d,some (some hi)=>match(cx.T ty).d with
  |.slice e=>match(cx.T e).size with
   |0=>False
   |_+1=>match x with
    |.msl r n=>match h r with
     |.arr sz es=>match h (Ks cx d)with
      |.free=>match Nat.beq sz (cx.T e).size,Nat.blt r 10000000&&Nat.blt 0 (Ks cx d)with
       |true,true=>(n=es.length∧0≤hi∧hi≤es.length)∧K (.msl (Ks cx d) hi.toNat) (AR (AR h r .dead) (Ks cx d) (.arr sz (es.take hi.toNat)))
       |_,_=>False
      |_=>False
     |_=>False
    |_=>False
  |_=>False
 |_,_=>False
def Nh(cx:Cx)(d:Option Nat)(h:Nat→HO)(ty:Nat)(x:AV)(lo:Option Operand)(hi:Option (Option Int))(mx:Option Operand)(K:HK):Prop :=
 match lo,mx with
 |none,none=>gY cx d h ty x hi K
 |_,_=>False
def aO(cx:Cx)(d:Option Nat)(h:Nat→HO)(ty:Nat)(x:AV)(t:Nat→AV)(lo hi mx:Option Operand)(K:HK):Prop :=
 match lo with
 |none=>Nh cx d h ty x none (B3 t hi) mx K
 |some lo=>Ty cx d h ty x (B3 t (some lo)) hi mx K
def yJ:AV→AV
 |.slice _ es=>.slice .none es
 |a=>a
def Ob(cx:Cx)(d:Option Nat)(h:Nat→HO)(x:AV)(K:HK):Prop :=
 match d with
 |none=>K x h
 |some d=>match Gz cx.pl.tok d with
  |some sz=>match Nat.beq sz 0 with
   |true=>K (yJ x) h
   |false=>match x with
    |.v (.slice none 0 0)=>match h d with
     |.free=>K (.slice (.id d sz) []) (AR h d (.tok sz 0))
     |_=>False
    |x=>K x h
  |none=>match Gz cx.pl.arr d with
   |some sz=>match x with
    |.v (.slice none 0 0)=>match h d with
     |.free=>K (.msl d 0) (AR h d (.arr sz []))
     |_=>False
    |x=>K x h
   |none=>K x h
def ks(l:List AV)(n:Nat):Option AV :=
 match l with
 | []=>none
 |x::r=>match n with |0=>some x |n+1=>ks r n
def LR(x:AV)(i:Nat)(K:AV→Prop):Prop :=
 match x with
 |.tup vs=>match ks vs i with
  |some a=>K a
  |none=>False
 |_=>False
def KD(x:AV)(K:AV→Prop):Prop :=
 match x with
 |.ref r o=>K (.ref r o)
 |.eref r n z i o=>K (.eref r n z i o)
 |.cptr cs=>K (.cptr cs)
 |.clo f cs=>K (.clo f cs)
 |.v (.func (.func f) a b)=>K (.v (.func (.func f) a b))
 |_=>False
def Ye(c a b:AV)(K:AV→Prop):Prop :=
 match c with
 |.v (.bool true)=>K a
 |.v (.bool false)=>K b
 |_=>False
def km(f:Int→Int→Int)(x y:AV)(K:AV→Prop):Prop :=
 match x,y with
 |.v (.int k a),.v (.int k' b)=>match pg k k' with
  |true=>K (.v (.int k (f a b)))
  |false=>False
 |_,_=>False
def Jj(cx:Cx)(d:Option Nat)(h:Nat→HO)(ty:Nat)(len cap:AV)(K:HK):Prop :=
 match(cx.T ty).d,len,cap with
 |.slice e,.v (.int .i64 n),.v (.int .i64 c)=>match GS ((cx.T e).zc.map .v)with
  |true=>match Nat.beq (cx.T e).zc.length (cx.T e).size with
   |true=>match(cx.T e).size with
    |0=>False
    |_+1=>(0≤n∧n≤c∧c*(cx.T e).bytes≤140737488355328∧c≤9223372036854775807)∧EA cx d h (cx.T e).size (List.replicate n.toNat ((cx.T e).zc.map .v)) K
   |false=>False
  |false=>False
 |_,_,_=>False
def Yr(op:UnOp)(x:AV)(K:AV→Prop):Prop :=
 match op,x with
 |.not,x=>cK K x
 |.neg,.v (.int .i64 a)=>BQ (-a)∧K (.v (.int .i64 (-a)))
 |.xor,.v (.int k a)=>K (.v (.int k (Uy .xor k (if k.signed then -1 else k.max) a)))
 |_,_=>False
def FW(cx:Cx)(d:Option Nat)(h:Nat→HO)(b:Builtin)(GG:List Nat)(args:List AV)(K:HK):Prop :=
 match b,args,GG with
 |.len,[x],[t]=>QH cx.T t h x fun v=>K v h
 |.append,[s,x],[t,t']=>match Nat.beq t t' with
  |true=>H8 cx d h t s x K
  |false=>False
 |.max,[x,y],_=>km max x y fun v=>K v h
 |.min,[x,y],_=>km min x y fun v=>K v h
 |_,_,_=>False
def FL(cx:Cx)(dr:Bool)(o:Oper)(st:St)(K:HK):Prop :=
 match o.op with
 |.move x=>K (ev st.t x) st.h
 |.assign x=>Ob cx o.dst st.h (ev st.t x) K
 |.pick c a b=>Ye (ev st.t c) (ev st.t a) (ev st.t b) fun v=>K v st.h
 |.alloc e=>RN cx.T o.dst st.h e K
 |.box e x=>bx cx o.dst st.h e (ev st.t x) K
 |.build ty ps=>Pr cx.T ty st.t ps.toList fun v=>K v st.h
 |.buildSlice ty n ps=>Im cx o.dst st.h ty n st.t ps.toList K
 |.insert ty m k x=>GW cx.T st.h ty (ev st.t m) (ev st.t k) (ev st.t x) K
 |.load ty x=>H3 cx.T st.h ty (ev st.t x) fun v=>K v st.h
 |.store ty p x=>NX cx st.h ty (ev st.t p) (ev st.t x) K
 |.nilCheck x=>KD (ev st.t x) fun v=>K v st.h
 |.binOp op ty x y _=>WX cx.T op ty y (ev st.t x) (ev st.t y) fun v=>K v st.h
 |.unOp op _ x=>Yr op (ev st.t x) fun v=>K v st.h
 |.convert s ty x=>W5 cx.T s ty (ev st.t x) fun v=>K v st.h
 |.makeFunc fn first cap=>Kz st.t st.h fn first.toList cap.toList fun v=>K v st.h
 |.makeMap ty none=>KA cx.T cx.pl.mku o.dst st.h ty K
 |.makeSlice ty n c=>Jj cx o.dst st.h ty (ev st.t n) (ev st.t c) K
 |.slice ty x lo hi mx=>match dr with
  |true=>match No cx.pl.tok o.dst with
   |none=>Gm cx o.dst st.h ty (ev st.t x) (B3 st.t lo) (B3 st.t hi) (B3 st.t mx) K
   |some _=>Nh cx o.dst st.h ty (ev st.t x) lo (B3 st.t hi) mx K
  |false=>match No cx.pl.tok o.dst with
   |none=>Gm cx o.dst st.h ty (ev st.t x) (B3 st.t lo) (B3 st.t hi) (B3 st.t mx) K
   |some _=>aO cx o.dst st.h ty (ev st.t x) st.t lo hi mx K
 |.fieldAddr s x f=>Sn cx.T s f (ev st.t x) fun v=>K v st.h
 |.field s x f=>Oq cx.T s f (ev st.t x) fun v=>K v st.h
 |.indexAddr ty x ix=>Jh cx.T ty (ev st.t x) (ev st.t ix) fun v=>K v st.h
 |.index ty x ix=>SO cx.T ty (ev st.t x) (ev st.t ix) fun v=>K v st.h
 |.lookup ty x ix ok=>match dr with
  |true=>MF cx.T st.h ty (ev st.t x) (ev st.t ix) ok fun v=>K v st.h
  |false=>MG cx.T st.h ty (ev st.t x) (ev st.t ix) ok fun v=>K v st.h
 |.mapUpdate ty m k x=>GW cx.T st.h ty (ev st.t m) (ev st.t k) (ev st.t x) K
 |.range ty x=>match(cx.T ty).d with |.map _ _=>Zy o.dst st.h (ev st.t x) K |_=>False
 |.next it false=>gE st.h (ev st.t it) K
 |.entry it=>YV st.h (ev st.t it) fun v=>K v st.h
 |.extract x i=>LR (ev st.t x) i fun v=>K v st.h
 |.call c=>match c.callee with
  |.builtin b=>FW cx o.dst st.h b c.argTypes.toList (c.args.toList.map (ev st.t)) K
  |.value f=>Gg cx dr o.dst st (ev st.t f) (c.args.toList.map (ev st.t)) K
  |_=>False
 |_=>False
def Ka(ops:List Oper)(j:Nat):Option Nat:=match ops with | []=>none | o::r=>match j with | 0=>o.dst | j+1=>Ka r j
def gZ(cx:Cx)(o:Oper)(st:St):St :=
 match o.dst with
 |none=>st
 |some d=>match pp cx.pl.tz d with
  |some (r,k,j,sz)=>⟨st.t,s9 st.h r k j sz⟩
  |none=>match my cx.pl.fz d with
   | []=>st
   |l=>⟨st.t,OD st.h l⟩
def te(cx:Cx)(o:Oper)(st:St)(K:St→Prop):Prop :=
 match o.dst with
 |none=>K st
 |some d=>match Gz cx.pl.ak d with
  |none=>K st
  |some s=>match st.t s with
   |.msl r n=>match st.h r with
    |.arr sz es=>n=es.length∧K ⟨G0 st.t s (.slice (.id r sz) es),AR st.h r (.tok sz es.length)⟩
    |_=>K st
   |_=>K st
def dV(cx:Cx)(dr:Bool)(o:Oper)(st:St)(K:St→Prop):Prop :=
 match dr with
 |true=>FL cx true o st fun v h=>K (st.put o.dst v h)
 |false=>te cx o (gZ cx o st) fun Eb=>FL cx false o Eb fun v h=>K (Eb.put o.dst v h)
def G4(cx:Cx)(dr:Bool)(all:List Oper)(o:Oper)(st:St)(K:St→Prop):Prop :=
 match o.guard with
 |none=>dV cx dr o st K
 |some (j,want)=>match Ka all j with
  |none=>False
  |some d=>match st.t d,want with
   |.v (.bool true),true=>dV cx dr o st K
   |.v (.bool false),false=>dV cx dr o st K
   |.v (.bool true),false=>K (st.put o.dst (.v undef) st.h)
   |.v (.bool false),true=>K (st.put o.dst (.v undef) st.h)
   |.v (.tuple _),_=>K (st.put o.dst (.v undef) st.h)
   |_,_=>False
def SU(o o2:Oper):Bool :=
 match o2.op with
 |.call c=>match c.callee with
  |.builtin .clear=>match o.op with
   |.slice ty _ (some _) none none=>match o.dst,o2.dst,c.args.toList,c.argTypes.toList,o.guard,o2.guard with
    |some d,none,[.tmp d'],[yI],none,none=>Nat.beq d d'&&Nat.beq ty yI
    |_,_,_,_,_,_=>false
   |_=>false
  |_=>false
 |_=>false
def pP(d:Nat)(st:St)(r i sz:Nat)(es:List (List AV))(z:List Value)(K:St→Prop):Prop :=
 match z.all Value.oneCell' with
 |true=>K ⟨G0 st.t d .junk,AR st.h r (.arr sz (es.take i++List.replicate (es.length-i) (z.map AV.v)))⟩
 |false=>False
def bE(cx:Cx)(o:Oper)(st:St)(K:St→Prop):Prop :=
 match o.op with
 |.slice ty x (some lo) none none=>match o.dst with
  |some d=>match(cx.T ty).d with
   |.slice e=>match ev st.t x with
    |.msl r n=>match ev st.t lo with
     |.v (.int .i64 i)=>match st.h r with
      |.arr sz es=>match Nat.beq sz (cx.T e).size with
       |true=>match(cx.T e).size with
        |0=>False
        |_+1=>match Nat.beq (cx.T e).zc.length sz with
         |true=>(n=es.length∧0≤i∧i≤es.length)∧pP d st r i.toNat sz es (cx.T e).zc K
         |false=>False
       |false=>False
      |_=>False
     |_=>False
    |_=>False
   |_=>False
  |none=>False
 |_=>False
def T2(cx:Cx)(all l:List Oper)(st:St)(K:St→Prop):Prop :=
 match l with
 | []=>K st
 | [o]=>G4 cx false all o st K
 |o::o2::r=>match SU o o2 with
  |true=>bE cx o st fun Eb=>T2 cx all r Eb K
  |false=>G4 cx false all o st fun Eb=>T2 cx all (o2::r) Eb K
def Uc:AV→List Nat
 |.ref r _=>[r]
 |.mref r=>[r]
 |_=>[]
def j8:List AV→List Nat
 | []=>[]
 |a::r=>Uc a++j8 r
def Ud:AV→List Nat
 |.agg cs=>j8 cs
 |.clo _ cs=>j8 cs
 |a=>Uc a
def nO:List AV→List Nat
 | []=>[]
 |a::r=>Ud a++nO r
def WM:AV→List Nat
 |.agg cs=>nO cs
 |a=>Ud a
def SK:List AV→List Nat
 | []=>[]
 |a::r=>WM a++SK r
abbrev Fs:=List Nat×Option Nat
def Io(d:Option Nat)(l:List Nat):Option Fs:=match d with | some d=>some (d::l,some d) | none=>none
def cA:AV→List Nat
 |.msl r _=>[r]
 |_=>[]
def VW(cx:Cx)(d:Option Nat)(s x:AV):Option Fs :=
 match s with
 |.v (.slice none 0 0)=>Io (d.map (Ks cx)) (cA x)
 |.slice (.full _) _=>Io (d.map (Ks cx)) (cA x)
 |.slice (.id r _) _=>Io (some r) (cA x)
 |.msl r _=>Io (some r) (cA x)
 |_=>none
def ZY(d:Option Nat)(args:List AV):Option Fs :=
 match d with
 |some d=>match args with
  |.msl r _::_=>some ([r,Bp d 0],some (r+10000000*Bp d 0))
  |_=>none
 |none=>none
theorem YZ{d:Option Nat}{args:List AV}{f:Fs}(h:ZY d args=some f):∃d' r n l,d=some d'∧args=.msl r n::l∧f=([r,Bp d' 0],some (r+10000000*Bp d' 0)):=by
 unfold ZY at h;split at h
 ·split at h
  ·cases h;exact⟨_,_,_,_,rfl,rfl,rfl⟩
  ·cases h
 ·cases h
def fb(d:Option Nat)(x:AV):Option Fs :=
 match d with
 |some d=>match x with
  |.msl r _=>some ([r,d],some (r+10000000*d))
  |_=>none
 |none=>none
theorem Y0{d:Option Nat}{x:AV}{f:Fs}(h:fb d x=some f):∃d' r n,d=some d'∧x=.msl r n∧f=([r,d'],some (r+10000000*d')):=by
 unfold fb at h;split at h
 ·split at h
  ·cases h;exact⟨_,_,_,rfl,rfl,rfl⟩
  ·cases h
 ·cases h
def fc(args:List AV):Option Fs:=match Vo args with | some _=>some ([1000,1001],some 10010001000) | none=>none
def VD:Nat:=99999999999999
def eZ(k:Nat)(d:Option Nat)(args:List AV):Option Fs :=
 match Nat.beq k 3 with
 |true=>some (jA,some VD)
 |false=>ZY d args
def GL(cx:Cx)(d:Option Nat)(c:Callee)(t:Nat→AV)(args:List AV):Option Fs :=
 match c,args with
 |.builtin .len,[.mref r]=>some ([r],none)
 |.builtin .len,[_]=>some ([],none)
 |.builtin .max,_=>some ([],none)
 |.builtin .min,_=>some ([],none)
 |.builtin .append,[s,x]=>VW cx d s x
 |.value f,args=>match No cx.pl.dc d with
  |none=>some (WM (ev t f)++SK args,none)
  |some 0=>Io (d.map fun d=>Bp d 0) (WM (ev t f)++SK args)
  |some 1=>match args with |.msl r _::_=>some ([r],some r) |_=>none
  |some (k+2)=>match Nat.beq k 1 with
   |true=>Io (d.map fun d=>Bp d 0) (WM (ev t f)++SK args)
   |false=>match Nat.beq k 2 with
    |true=>fc args
    |false=>eZ k d args
 |_,_=>none
def Fb(cx:Cx)(o:Oper)(st:St):Option Fs :=
 match o.op with
 |.move _ |.pick .. |.nilCheck _ |.unOp .. |.convert .. |.fieldAddr .. |.field .. |.indexAddr .. |.index .. |.extract .. |.build ..=>some ([],none)
 |.binOp _ _ x _ _=>match ev st.t x with |.slice ..=>none |_=>some ([],none)
 |.assign x=>match ev st.t x with |.v (.slice ..)=>none |_=>some ([],none)
 |.load _ p=>match ev st.t p with |.cptr _=>some ([],none) |.ref r _=>some ([r],none) |.eref r ..=>some ([r],none) |_=>none
 |.call c=>GL cx o.dst c.callee st.t (c.args.toList.map (ev st.t))
 |.alloc _=>Io o.dst []
 |.box _ x=>Io o.dst (WM (ev st.t x))
 |.buildSlice _ _ ps=>Io (o.dst.map (Ks cx)) (SK (ps.toList.map fun p=>ev st.t p.2))
 |.store _ p x=>match ev st.t p with
  |.ref r _=>match IE cx.pl.frz r with |true=>none |false=>Io (some r) []
  |.eref r ..=>Io (some r) (WM (ev st.t x))
  |_=>none
 |.slice _ x _ _ mx=>match No cx.pl.tok o.dst with
  |some _=>fb (o.dst.map (Ks cx)) (ev st.t x)
  |none=>match mx,ev st.t x with
   |none,.msl ..=>none
   |none,_=>some ([],none)
   |some _,.slice ..=>Io o.dst []
   |_,_=>none
 |.makeFunc _ _ cap=>some (SK (cap.toList.map (ev st.t)),none)
 |.mapUpdate _ m _ x=>match ev st.t m with |.mref r=>Io (some r) (WM (ev st.t x)) |_=>none
 |.makeSlice ..=>Io (o.dst.map (Ks cx)) []
 |.lookup _ m _ _=>match ev st.t m with |.cmap ..=>some ([],none) |.mref r=>some ([r],none) |_=>none
 |.makeMap ..=>Io o.dst []
 |_=>none
def M7(cx:Cx)(all:List Oper)(o:Oper)(st:St):Option Fs :=
 match o.guard with
 |none=>Fb cx o st
 |some (j,want)=>match Ka all j with
  |none=>none
  |some d=>match st.t d,want with
   |.v (.bool true),true=>Fb cx o st
   |.v (.bool false),false=>Fb cx o st
   |_,_=>some ([],none)
def rb(l:List Nat):Bool:=match l with | []=>true | _=>false
def X7(l:List Nat)(r:Nat):Bool:=bif Nat.beq r VD then rb l else !IE l r&&(Nat.blt r 10000000||(!IE l (r % 10000000)&&!IE l (r / 10000000)))
def Sf(a b:Fs):Bool :=
 (match a.2 with | some r=>X7 b.1 r | none=>true)&&(match b.2 with | some r=>X7 a.1 r | none=>true)
def OE(o:Oper)(i:Nat)(D:List Nat):Bool:=o.after.toList.any fun e=>Region.binds .any e&&(Nat.beq e.on i||IE D e.on)
def Pv(i:Nat)(D:List Nat)(k:Nat):List Oper→List Nat
 | []=>D
 |o::r=>match OE o i D with
  |true=>Pv i (k::D) (k+1) r
  |false=>Pv i D (k+1) r
def TJ(i:Nat)(D:List Nat)(k:Nat):List Oper→Bool
 | []=>true
 |o::r=>(OE o i D||!IE D k)&&TJ i D (k+1) r
def Il(ops:Array Oper)(oi:Oper)(fi:Fs)(D:List Nat)(k:Nat):List Oper→List Fs→Bool
 |o::r,f::fs=>(IE D k||(oi.apart ops o&&Sf fi f))&&Il ops oi fi D (k+1) r fs
 | [],[]=>true
 |_,_=>false
def LQ(ops:Array Oper)(all:List Oper)(k:Nat):List Oper→List Fs→Bool
 |o::r,f::fs =>
  let D:=Pv k [] 0 all
  (o.after.toList.all fun e=>!Region.binds .any e||Nat.blt e.on k)&&TJ k D 0 all&&(D.all fun j=>Nat.blt k j&&Nat.blt j all.length)&&Il ops o f D (k+1) r fs&&LQ ops all (k+1) r fs
 | [],[]=>true
 |_,_=>false
def Sg(ops:Array Oper)(fs:List Fs):Bool:=Region.noSelect ops&&LQ ops ops.toList 0 ops.toList fs
def WW(cx:Cx)(ops:Array Oper)(l:List Oper)(fs:List Fs)(st:St)(K:St→Prop):Prop :=
 match l with
 | []=>Sg ops fs.reverse=true∧K st
 |o::r=>match M7 cx ops.toList o st with
  |some f=>G4 cx true ops.toList o st fun Eb=>WW cx ops r (f::fs) Eb K
  |none=>False
def Sj(l:List (Nat×AV))(i:Nat):AV:=match l with | []=>.junk | (j,v)::r=>bif Nat.beq i j then v else Sj r i
structure LS where
 t:List (Nat×AV)
 h:List (Nat×HO)
 hb:Nat→HO
def LS.st(s:LS):St:=⟨Sj s.t,Ai s.h s.hb⟩
def Re(h:Nat→HO)(r:Nat):Bool:=match h r with | .free=>false | _=>true
def ids0(h:Nat→HO):AV→Bool
 |.slice (.id r _) _=>Re h r
 |.slice (.ver r _ _) _=>Re h r
 |.msl r _=>Re h r
 |.ref r _=>Re h r
 |.eref r _ _ _ _=>Re h r
 |.mref r=>Re h r
 |.agg _ |.tup _ |.clo ..=>false
 |_=>true
def XJ(h:Nat→HO):List AV→Bool
 | []=>true
 |a::r=>match ids0 h a with |true=>XJ h r |false=>false
def Ue(h:Nat→HO):AV→Bool
 |.agg cs=>XJ h cs
 |.tup cs=>XJ h cs
 |.clo _ cs=>XJ h cs
 |a=>ids0 h a
def QD(h:Nat→HO):List (Value×AV)→Bool
 | []=>true
 |p::r=>match Ue h p.2 with |true=>QD h r |false=>false
def j9(h:Nat→HO):List AV→Bool
 | []=>true
 |a::r=>match Ue h a with |true=>j9 h r |false=>false
def XI(h:Nat→HO):HO→Bool
 |.cells cs=>j9 h cs
 |.mapU _ BW=>QD h BW
 |.hol _ _ _ _ a=>Ue h a
 |_=>true
def vO(st:St)(h:Nat→HO):List (Nat×AV)→Prop
 | []=>True
 |(j,a)::r=>(st.t j=a∧Ue h a=true)∧vO st h r
def vN(st:St)(h:Nat→HO):List (Nat×HO)→Prop
 | []=>True
 |(j,o)::r=>(st.h j=o∧XI h o=true)∧vN st h r
def St.le(cx:Cx)(st:St)(s:LS):Prop :=
 vO st s.st.h s.t∧vN st s.st.h s.h∧(∀j,s.hb j=.free∨(st.h j=s.hb j∧XI s.st.h (s.hb j)=true)) ∧
 match cx.ext with
 |false=>True
 |true=>∀j,1000≤j→j<2000→st.h j≠.free→s.st.h j≠.free
def Ms(cx:Cx)(ops:Array Oper)(dr:Bool)(st:St)(K:St→Prop):Prop :=
 match dr with
 |false=>T2 cx ops.toList ops.toList st K
 |true=>WW cx ops ops.toList [] st K
inductive Ex | normal | exit (id:Nat) | ret
def th(h:Nat→HO)(o k:Nat)(K:(Nat→HO)→Prop):Prop :=
 match h o with
 |.cells cs=>match IY cs k with
  |.msl r n=>match h r with
   |.arr sz es=>n=es.length∧K (AR (AR h r (.tok sz es.length)) o (.cells (EB cs k (.slice (.id r sz) es))))
   |_=>K h
  |_=>K h
 |_=>K h
def tf(h:Nat→HO)(o k j:Nat)(K:(Nat→HO)→Prop):Prop :=
 match h o with
 |.cells cs=>match IY cs k with
  |.msl r n=>match h r with
   |.arr sz es=>match h j with
    |.free=>n=es.length∧K (AR (AR (AR h r .dead) j (.arr sz es)) o (.cells (EB cs k (.msl j n))))
    |_=>False
   |_=>False
  |_=>False
 |_=>False
def wZ(h:Nat→HO)(o k d:Nat)(K:(Nat→HO)→Prop):Prop :=
 match h o with
 |.cells cs=>match IY cs k with
  |.slice (.ver r sz v) es=>match h r with
   |.var Gp v' _=>match h d with
    |.free=>(v=v'∧sz=Gp)∧K (AR (AR (AR h r (.vox v)) d (.tok sz es.length)) o (.cells (EB cs k (.slice (.id d sz) es))))
    |_=>False
   |_=>False
  |_=>K h
 |_=>False
def sX(h:Nat→HO)(o k r:Nat)(K:(Nat→HO)→Prop):Prop :=
 match h o with
 |.cells cs=>match IY cs k with
  |.slice (.id d sz) es=>match h d with
   |.tok Gp n=>match h r with
    |.vox v=>(es.length=n∧sz=Gp)∧K (AR (AR (AR h d .dead) r (.var sz (v+1) n)) o (.cells (EB cs k (.slice (.ver r sz (v+1)) es))))
    |_=>False
   |_=>False
  |_=>K h
 |_=>False
def vP(h:Nat→HO)(r:Nat)(K:(Nat→HO)→Prop):Prop :=
 match h r with
 |.free=>K (AR h r (.vox 0))
 |_=>False
def sW(h:Nat→HO)(o k:Nat)(K:(Nat→HO)→Prop):Prop :=
 match h o with
 |.cells cs=>match IY cs k with
  |.mref r=>match h r with
   |.rom sh BW=>K (AR h o (.cells (EB cs k (.cmap sh BW))))
   |_=>False
  |_=>False
 |_=>False
def xe(h:Nat→HO)(o k j sz:Nat)(K:(Nat→HO)→Prop):Prop :=
 match h o with
 |.cells cs=>match IY cs k with
  |.v (.slice none 0 0)=>match h j with
   |.free=>K (AR (AR h j (.arr sz [])) o (.cells (EB cs k (.msl j 0))))
   |_=>False
  |_=>False
 |_=>False
def uf(cx:Cx)(id:Nat)(h:Nat→HO)(K:(Nat→HO)→Prop):Prop :=
 match Gz cx.pl.ak (850000+id)with
 |some v=>K (ff h v)
 |none=>K h
def sV(cx:Cx)(id:Nat)(h:Nat→HO)(K:(Nat→HO)→Prop):Prop :=
 match Gz cx.pl.ak (800000+id)with
 |some v=>sW h (v % 10000) (v / 10000 % 100) K
 |none=>K h
def rv(cx:Cx)(id:Nat)(h:Nat→HO)(K:(Nat→HO)→Prop):Prop :=
 match Gz cx.pl.ak (810000+id)with
 |some v=>sW h (v % 10000) (v / 10000 % 100) K
 |none=>K h
def pj(cx:Cx)(id:Nat)(h:Nat→HO)(K:(Nat→HO)→Prop):Prop :=
 match Gz cx.pl.ak (900000+id)with
 |some v=>xe h (v % 10000) (v / 10000 % 100) (v / 1000000 % 10000) (v / 10000000000) K
 |none=>K h
def u9(h:Nat→HO)(r:Nat)(K:(Nat→HO)→Prop):Prop :=
 match h r with
 |.hol sz es i c (.msl j m)=>match Nat.beq r j with
  |true=>False
  |false=>match h j with
   |.arr aW qs=>m=qs.length∧∃cs,es[i]?=some cs∧c<sz∧K (AR (AR (AR h j (.tok aW qs.length)) j .dead) r (.arr sz (es.set i (over cs c [.slice .none qs]))))
   |_=>False
 |_=>False
def oC(cx:Cx)(id:Nat)(h:Nat→HO)(K:(Nat→HO)→Prop):Prop :=
 match Gz cx.pl.ak (500000+id)with
 |some v=>wZ h (v % 10000) (v / 10000 % 100) (v / 1000000) K
 |none=>match Gz cx.pl.ak (600000+id)with
  |some v=>sX h (v % 10000) (v / 10000 % 100) (v / 1000000) K
  |none=>match Gz cx.pl.ak (700000+id)with
   |some v=>vP h v K
   |none=>match Gz cx.pl.ak (950000+id)with
    |some v=>u9 h v K
    |none=>uf cx id h fun h=>sV cx id h fun h=>rv cx id h fun h=>pj cx id h K
def tg(st:St)(s k:Nat)(K:St→Prop):Prop :=
 match st.t s with
 |.msl r n=>match st.h r with
  |.arr sz es=>match k with
   |0=>n=es.length∧K ⟨G0 st.t s (.slice .none es),AR (AR st.h r (.tok sz es.length)) r .dead⟩
   |k+1=>match Nat.beq r (k+1)with
    |true=>K st
    |false=>match st.h (k+1)with
     |.free=>n=es.length∧K ⟨G0 st.t s (.msl (k+1) n),AR (AR st.h r .dead) (k+1) (.arr sz es)⟩
     |_=>False
  |_=>K st
 |_=>K st
def pQ(cx:Cx)(id:Nat)(st:St)(K:St→Prop):Prop :=
 match IE cx.pl.cut id with
 |true=>match Gz cx.pl.ak (100000+id)with
  |none=>match Gz cx.pl.ak (200000+id)with
   |none=>match Gz cx.pl.ak (300000+id)with
    |none=>oC cx id st.h fun h'=>∃s:LS,St.le cx ⟨st.t,h'⟩ s∧K s.st
    |some v=>tf st.h (v % 10000) (v / 10000 % 100) (v / 1000000) fun h'=>∃s:LS,St.le cx ⟨st.t,h'⟩ s∧K s.st
   |some v=>tg st (v % 1000) (v / 1000) fun Eb=>∃s:LS,St.le cx Eb s∧K s.st
  |some v=>th st.h (v % 1000) (v / 1000) fun h'=>∃s:LS,St.le cx ⟨st.t,h'⟩ s∧K s.st
 |false=>K st
def QX(cx:Cx)(c:Code)(Q:Ex→St→Prop)(st:St):Prop :=
 match c with
 |.skip=>Q .normal st
 |.label _=>Q .normal st
 |.region id ops dr=>pQ cx id st fun st=>match cx.pl.dyn with
  | []=>Ms cx ops dr st (Q .normal)
  |_=>∃n,Ms { cx with nid:=n } ops dr st (Q .normal)
 |.seq a b=>QX cx a (fun e Eb=>match e with |.normal=>QX cx b Q Eb |e=>Q e Eb) st
 |.cond c a b=>match ev st.t c with
  |.v (.bool true)=>QX cx a Q st
  |.v (.bool false)=>QX cx b Q st
  |_=>False
 |.block id c=>QX cx c (fun e Eb=>match e with |.exit j=>(bif Nat.beq j id then Q .normal Eb else Q (.exit j) Eb) |e=>Q e Eb) st
 |.loop c=>∃(α:Type) (I:α→LS) (μ:α→Nat),(∃x,St.le cx st (I x)) ∧
   ∀x,QX cx c (fun e Eb=>match e with | .normal=>∃y,μ y<μ x∧St.le cx Eb (I y) | e=>Q e Eb) (I x).st
 |.exit id=>Q (.exit id) st
 |.ret=>Q .ret st
 |_=>False
def Ol:List AV→Nat→AV
 | [],_=>.v undef
 |a::r,n=>match n with |0=>a |n+1=>Ol r n
def kF(T:Gr)(st:St):List ResultVar→(List AV→Prop)→Prop
 | [],K=>K []
 |.tmp i::r,K=>kF T st r fun l=>K (str st.h (st.t i)::l)
 |.cell a t::r,K=>H3 T st.h t (st.t a) fun v=>kF T st r fun l=>K (str st.h v::l)
def kD(cx:Cx)(st:St)(rs:List ResultVar)(K:AV→Prop):Prop :=
 kF cx.T ⟨st.t,OD st.h cx.pl.fin⟩ rs fun
  | [v]=>K v
  |vs=>K (.tup vs)
def mV(cx:Cx)(rs:List ResultVar)(K:AV→Prop)(e:Ex)(st:St):Prop :=
 match e with
 |.normal=>kD cx st rs K
 |.ret=>kD cx st rs K
 |.exit _=>False
def kG(T:Gr)(st:St):List ResultVar→(List AV→Prop)→Prop
 | [],K=>K []
 |.tmp i::r,K=>kG T st r fun l=>K (st.t i::l)
 |.cell a t::r,K=>H3 T st.h t (st.t a) fun v=>kG T st r fun l=>K (v::l)
def cR(cx:Cx)(st:St)(rs:List ResultVar)(σ:IR)(Q:AV→(Nat→HO)→Prop):Prop :=
 kG cx.T ⟨st.t,OD st.h cx.pl.fin⟩ rs fun
  | [v]=>Q (ren (Cf σ) (OD st.h cx.pl.fin) v) (Fw σ (OD st.h cx.pl.fin))
  |vs=>Q (ren (Cf σ) (OD st.h cx.pl.fin) (.tup vs)) (Fw σ (OD st.h cx.pl.fin))
def Xc(cx:Cx)(rs:List ResultVar)(σ:IR)(Q:AV→(Nat→HO)→Prop)(e:Ex)(st:St):Prop :=
 match e with
 |.normal=>cR cx st rs σ Q
 |.ret=>cR cx st rs σ Q
 |.exit _=>False
def In(σ:IR):List (Nat×HO)→Bool
 | []=>true
 |(i,_)::r=>Nat.ble 1000 i&&Nat.blt i 2000&&(match Cf σ i with |some j=>Nat.beq j i |none=>false)&&In σ r
end Go.Eng
