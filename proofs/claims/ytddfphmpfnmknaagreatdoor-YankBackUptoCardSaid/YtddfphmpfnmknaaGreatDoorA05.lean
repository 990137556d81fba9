/- Lemmas for the claims of this seat, without a condition: part 5 (EngA). -/
import Derived.Test.YtddfphmpfnmknaaGreatDoorA00
import Derived.WalkKit
import Derived.Still
import Derived.RangeFuncSeq
import Derived.OrdersIn
import Derived.TacticsIn
namespace Go.Eng
inductive Tk | none | full (sz:Nat) | id (r sz:Nat) | ver (r sz v:Nat)
inductive KS | int (k:IntKind) | str | bool
structure EB where
 agg:Bool
 l:List KS
inductive AV
 |v (x:Value)
 |slice (tk:Tk) (es:List (List AV))
 |msl (r n:Nat)
 |agg (cs:List AV)
 |tup (vs:List AV)
 |cptr (cs:List AV)
 |ref (r off:Nat)
 |eref (r n sz i off:Nat)
 |mref (r:Nat)
 |cmap (sh:EB) (BU:List (Value×AV))
 |clo (f:Nat) (caps:List AV)
 |junk
inductive HO
 |free
 |dead
 |cells (cs:List AV)
 |ro (cs:List AV)
 |tok (sz n:Nat)
 |var (sz v n:Nat)
 |vox (v:Nat)
 |arr (sz:Nat) (es:List (List AV))
 |map (sh:EB) (BU:List (Value×AV))
 |mapU (sh:EB) (BU:List (Value×AV))
 |rom (sh:EB) (BU:List (Value×AV))
 |iter (all rem:List (Value×AV)) (Fs:Option (Value×AV))
 |raw (b:Nat) (ob:Obj)
 |hol (sz:Nat) (es:List (List AV)) (i c:Nat) (a:AV)
structure St where
 t:Nat→AV
 h:Nat→HO
def Aa:Nat→HO:=fun _=>.free
def AS(h:Nat→HO)(r:Nat)(o:HO):Nat→HO:=fun i=>bif Nat.beq i r then o else h i
def GT(t:Nat→AV)(d:Nat)(v:AV):Nat→AV:=fun i=>bif Nat.beq i d then v else t i
def St.put(st:St)(d:Option Nat)(v:AV)(h:Nat→HO):St :=
 match d with
 |none=>⟨st.t,h⟩
 |some d=>⟨GT st.t d v,h⟩
def ev(t:Nat→AV):Operand→AV
 |.tmp i=>t i
 |.const v=>.v v
 |.global g=>.v (.pointer (some ⟨g,0,none⟩))
 |.func f=>.v (.func (.func f) #[] #[])
inductive TD
 |int (k:IntKind) |bool |string |slice (e:Nat) |array (n e:Nat) |struct (fs:List (Nat×Nat)) |ptr (e:Nat) |map (k e:Nat) |func |iface |other
structure TI where
 d:TD
 size:Nat
 bytes:Nat
 zero:Value
 eqok:Bool
def TI.zc(i:TI):List Value:=match i.zero with | .agg cs=>cs.toList | v=>[v]
abbrev Gg:=Nat→TI
structure Ro where
 frz:List Nat
 tok:List (Nat×Nat)
 arr:List (Nat×Nat)
 fz:List (Nat×List Nat)
 fin:List Nat
 mku:List Nat
 dyn:List Nat
 tz:List (Nat×(Nat×Nat×Nat×Nat))
 dc:List (Nat×Nat)
 ak:List (Nat×Nat)
 cut:List Nat
def Iy(l:List Nat)(n:Nat):Bool :=
 match l with
 | []=>false
 |x::r=>bif Nat.beq x n then true else Iy r n
def Gq(l:List (Nat×Nat))(n:Nat):Option Nat :=
 match l with
 | []=>none
 |(x,y)::r=>bif Nat.beq x n then some y else Gq r n
def str0(h:Nat→HO):AV→AV
 |.slice _ es=>.slice .none es
 |.ref r off=>match h r with |.ro cs=>.cptr (cs.drop off) |_=>.junk
 |.mref r=>match h r with |.rom sh BU=>.cmap sh BU |_=>.junk
 |.v x=>.v x
 |.cptr cs=>.cptr cs
 |.cmap s m=>.cmap s m
 |_=>.junk
def str(h:Nat→HO):AV→AV
 |.agg cs=>.agg (cs.map (str0 h))
 |.clo f cs=>.clo f (cs.map (str0 h))
 |a=>str0 h a
def QM(h:Nat→HO)(BU:List (Value×AV)):List (Value×AV):=BU.map fun p=>(p.1,str h p.2)
def dT(h:Nat→HO)(r:Nat):Nat→HO :=
 match h r with
 |.cells cs=>AS h r (.ro (cs.map (str h)))
 |.map sh BU=>AS h r (.rom sh BU)
 |.mapU sh BU=>AS h r (.rom sh (QM h BU))
 |_=>h
def Og(h:Nat→HO):List Nat→Nat→HO
 | []=>h
 |r::l=>Og (dT h r) l
def lI(l:List (Nat×List Nat))(n:Nat):List Nat :=
 match l with
 | []=>[]
 |(x,y)::r=>bif Nat.beq x n then y else lI r n
def oA(l:List (Nat×(Nat×Nat×Nat×Nat)))(n:Nat):Option (Nat×Nat×Nat×Nat) :=
 match l with
 | []=>none
 |(x,y)::r=>bif Nat.beq x n then some y else oA r n
def IU(l:List AV)(n:Nat):AV :=
 match l with
 | []=>.junk
 |x::r=>match n with |0=>x |n+1=>IU r n
def Et(cs:List AV)(o:Nat)(v:AV):List AV :=
 match cs with
 | []=>[]
 |c::cs=>match o with |0=>v::cs |o+1=>c::Et cs o v
def sa(h:Nat→HO)(r k j sz:Nat):Nat→HO :=
 match h r with
 |.cells cs=>match IU cs k with
  |.v (.slice none 0 0)=>match h j with
   |.free=>AS (AS h j (.tok sz 0)) r (.cells (Et cs k (.slice (.id j sz) [])))
   |_=>h
  |_=>h
 |_=>h
def rsv(h:Nat→HO):AV→AV
 |.ref r off=>match h r with |.ro cs=>.cptr (cs.drop off) |_=>.ref r off
 |.mref r=>match h r with |.rom sh BU=>.cmap sh BU |_=>.mref r
 |a=>a
def one:AV→Bool
 |.v x=>x.oneCell'
 |.agg _ |.tup _ |.junk=>false
 |_=>true
def GL:List AV→Bool
 | []=>true
 |a::r=>match one a with |true=>GL r |false=>false
def rl:AV→List AV
 |.agg cs=>cs
 |a=>[a]
def BK(a:Int):Prop:=-9223372036854775808≤a∧a<9223372036854775808
def LJ(cs:List AV)(K:AV→Prop):Prop :=
 match cs with
 |a::_=>K a
 | []=>False
def IF(p:Prop)(K:AV→Prop):Prop:=(p→K (.v (.bool true)))∧(¬p→K (.v (.bool false)))
def Ld(T:Gg)(t:Nat)(cs:List AV)(K:AV→Prop):Prop :=
 match(T t).d with
 |.struct _=>(T t).size≤cs.length∧K (.agg (cs.take (T t).size))
 |.array _ _=>(T t).size≤cs.length∧K (.agg (cs.take (T t).size))
 |.bool=>LJ cs fun |.v (.bool b)=>(b=true→K (.v (.bool true)))∧(b=false→K (.v (.bool false))) |_=>False
 |.other=>False
 |_=>LJ cs K
def ky:List AV→List AV→Prop
 | [],[]=>True
 |.v (.int _ a)::r,.v (.int _ b)::s=>a=b∧ky r s
 |.v (.string a)::r,.v (.string b)::s=>a=b∧ky r s
 |.v (.bool a)::r,.v (.bool b)::s=>a=b∧ky r s
 |_,_=>False
def ol:IntKind→IntKind→Bool
 |.i64,.i64 |.u8,.u8 |.u32,.u32 |.i32,.i32 |.u64,.u64 |.u16,.u16 |.i16,.i16 |.i8,.i8=>true
 |_,_=>false
def Ng(f:Nat→Option (List KS)):Nat→List (Nat×Nat)→Option (List KS)
 |_,[]=>some []
 |n,(t,o)::r=>match Nat.beq o n with
  |true=>match f t with
   |some a=>match Ng f (n+a.length) r with
    |some b=>some (a++b)
    |none=>none
   |none=>none
  |false=>none
def Hl(T:Gg):Nat→Nat→Option (List KS)
 |0,_=>none
 |n+1,t=>match(T t).d with
  |.int k=>match(T t).size with |1=>some [.int k] |_=>none
  |.string=>match(T t).size with |1=>some [.str] |_=>none
  |.bool=>match(T t).size with |1=>some [.bool] |_=>none
  |.struct fs=>match(T t).eqok with
   |true=>match Ng (Hl T n) 0 fs with
    |some l=>match Nat.beq l.length (T t).size with |true=>some l |false=>none
    |none=>none
   |false=>none
  |_=>none
def MU:KS→Value→Bool
 |.int k,.int k' _=>ol k k'
 |.str,.string _=>true
 |.bool,.bool _=>true
 |_,_=>false
def Xe:List KS→List AV→Bool
 | [],[]=>true
 |k::r,.v x::s=>match MU k x with |true=>Xe r s |false=>false
 |_,_=>false
def nR(T:Gg)(t:Nat)(x y:AV)(K:AV→Prop):Prop :=
 match(T t).d with
 |.bool=>match x,y with
  |.v (.bool a),.v (.bool b)=>K (.v (.bool (a == b)))
  |_,_=>False
 |.struct _=>match x,y with
  |.agg xs,.agg ys=>match Hl T 8 t with
   |some l=>match Xe l xs with
    |true=>match Xe l ys with
     |true=>IF (ky xs ys) K
     |false=>False
    |false=>False
   |none=>False
  |_,_=>False
 |.slice _=>match x,y with
  |.slice _ es,.v (.slice none 0 0)=>(es≠[]→K (.v (.bool false)))∧(es=[]→K (.v (.bool true))∧K (.v (.bool false)))
  |.v (.slice none 0 0),.v (.slice none 0 0)=>K (.v (.bool true))
  |_,_=>False
 |.ptr _=>match x,y with
  |.v (.pointer none),.v (.pointer none)=>K (.v (.bool true))
  |.cptr _,.v (.pointer none)=>K (.v (.bool false))
  |.ref _ _,.v (.pointer none)=>K (.v (.bool false))
  |.eref _ _ _ _ _,.v (.pointer none)=>K (.v (.bool false))
  |_,_=>False
 |_=>False
def bM(K:AV→Prop):AV→Prop
 |.v (.bool true)=>K (.v (.bool false))
 |.v (.bool false)=>K (.v (.bool true))
 |_=>False
def X7(op:BinOp)(k:IntKind)(a b:Int)(K:AV→Prop):Prop :=
 match op with
 |.add=>K (.v (.int k (k.wrap (a+b))))
 |.sub=>K (.v (.int k (k.wrap (a-b))))
 |.mul=>K (.v (.int k (k.wrap (a*b))))
 |_=>False
def Ru(op:BinOp)(k:IntKind)(a b:Int)(K:AV→Prop):Prop :=
 match k with
 |.i64=>match op with
  |.add=>BK (a+b)∧K (.v (.int .i64 (a+b)))
  |.sub=>BK (a-b)∧K (.v (.int .i64 (a-b)))
  |.mul=>BK (a*b)∧K (.v (.int .i64 (a*b)))
  |.quo=>(0≤a∧0<b∧BK a)∧K (.v (.int .i64 (a / b)))
  |.rem=>(0≤a∧0<b)∧K (.v (.int .i64 (a % b)))
  |_=>False
 |k=>X7 op k a b K
def Ry(T:Gg)(op:BinOp)(t:Nat)(x y:AV)(K:AV→Prop):Prop :=
 match x,y with
 |.v (.int k a),.v (.int k' b)=>match ol k k' with
  |false=>False
  |true=>match op with
   |.eql=>IF (a=b) K
   |.neq=>IF (a≠b) K
   |.lss=>IF (a<b) K
   |.leq=>IF (a≤b) K
   |.gtr=>IF (b<a) K
   |.geq=>IF (b≤a) K
   |op=>Ru op k a b K
 |.v (.string a),.v (.string b)=>match op with
   |.eql=>IF (a=b) K
   |.neq=>IF (a≠b) K
   |.lss=>IF (Op.bytesLess a.toList b.toList=true) K
   |.geq=>IF (Op.bytesLess a.toList b.toList=false) K
   |.gtr=>IF (Op.bytesLess b.toList a.toList=true) K
   |.leq=>IF (Op.bytesLess b.toList a.toList=false) K
   |.add=>((a.size+b.size:Nat):Int)≤9223372036854775807∧K (.v (.string (a++b)))
   |_=>False
 |x,y=>match op with
  |.eql=>nR T t x y K
  |.neq=>nR T t x y (bM K)
  |_=>False
def Wt(T:Gg)(op:BinOp)(t:Nat)(Y:Operand)(x y:AV)(K:AV→Prop):Prop :=
 match Y with
 |.const .nilIface=>match x with
  |.v .nilIface=>match(T t).d with
   |.iface=>match op with
    |.eql=>K (.v (.bool true))
    |.neq=>K (.v (.bool false))
    |_=>False
   |_=>False
  |_=>False
 |_=>Ry T op t x y K
def WA(T:Gg)(s t:Nat)(x:AV)(K:AV→Prop):Prop :=
 match(T s).d,(T t).d,x with
 |.int _,.int .i64,.v (.int _ n)=>BK n∧K (.v (.int .i64 n))
 |.int _,.int k,.v (.int _ n)=>K (.v (.int k (k.wrap n)))
 |.string,.string,.v (.string s)=>K (.v (.string s))
 |.slice e,.string,.slice _ es=>match(T e).d with
  |.int .u8=>∃l:List UInt8,es=l.map (fun b=>[AV.v (.int .u8 b.toNat)])∧K (.v (.string ⟨l.toArray⟩))
  |_=>False
 |_,_,_=>False
def Vt(fs:List (Nat×Nat))(n:Nat):Option (Nat×Nat) :=
 match fs with
 | []=>none
 |x::r=>match n with |0=>some x |n+1=>Vt r n
def RP(T:Gg)(s f:Nat)(x:AV)(K:AV→Prop):Prop :=
 match(T s).d with
 |.struct fs=>match Vt fs f with
  |some (t,o)=>match(T t).size with
   |0=>False
   |_+1=>match x with
    |.cptr cs=>K (.cptr (cs.drop o))
    |.ref r off=>K (.ref r (off+o))
    |.eref r n z i off=>K (.eref r n z i (off+o))
    |_=>False
  |none=>False
 |_=>False
def XD(T:Gg)(t:Nat)(cs:List AV)(K:AV→Prop):Prop:=Ld T t cs K
def N6(T:Gg)(s f:Nat)(x:AV)(K:AV→Prop):Prop :=
 match(T s).d,x with
 |.struct fs,.agg cs=>match Vt fs f with
  |some (t,o)=>XD T t (cs.drop o) K
  |none=>False
 |_,_=>False
def Jb(T:Gg)(t:Nat)(x ix:AV)(K:AV→Prop):Prop :=
 match(T t).d,ix with
 |.slice e,.v (.int .i64 i)=>match(T e).size with
  |0=>False
  |_+1=>match x with
   |.slice _ es=>∃cs,(0≤i∧es[i.toNat]?=some cs)∧cs.length=(T e).size∧K (.cptr cs)
   |.msl r n=>(0≤i∧i<n)∧K (.eref r n (T e).size i.toNat 0)
   |_=>False
 |.array n e,.v (.int .i64 i)=>match(T e).size with
  |0=>False
  |_+1=>match x with
   |.cptr cs=>(0≤i∧i<n)∧K (.cptr (cs.drop (i.toNat*(T e).size)))
   |.ref r off=>(0≤i∧i<n)∧K (.ref r (off+i.toNat*(T e).size))
   |_=>False
 |_,_=>False
def Ss(T:Gg)(t:Nat)(x ix:AV)(K:AV→Prop):Prop :=
 match(T t).d,x,ix with
 |.string,.v (.string s),.v (.int .i64 i)=>∃b:UInt8,(0≤i∧s.data[i.toNat]?=some b)∧K (.v (.int .u8 b.toNat))
 |.array n e,.agg cs,.v (.int .i64 i)=>(0≤i∧i<n)∧XD T e (cs.drop (i.toNat*(T e).size)) K
 |_,_,_=>False
def BY(t:Nat→AV):Option Operand→Option (Option Int)
 |none=>some none
 |some x=>match ev t x with |.v (.int .i64 i)=>some (some i) |_=>none
def over{α:Type}(cs:List α)(o:Nat)(vs:List α):List α :=
 match cs with
 | []=>[]
 |c::cs=>match o with
  |o+1=>c::over cs o vs
  |0=>match vs with
   | []=>c::cs
   |v::vs=>v::over cs 0 vs
structure Gh where
 ρ:Nat→Value
 ln:Nat→Nat
 tk:Nat→Bool
 own:Nat→Option Nat
 S:Nat→Nat→Prop
def IW:List KS→List Value→Bool
 | [],[]=>true
 |k::r,v::s=>match MU k v with |true=>IW r s |false=>false
 |_,_=>false
def UP(sh:EB)(v:Value):Bool :=
 match sh.agg,v with
 |true,.agg cs=>IW sh.l cs.toList
 |false,v=>IW sh.l [v]
 |_,_=>false
def GW(sh:EB)(es:Array MapEntry)(ck:Nat)(BU:List (Value×AV)):Prop :=
 es.size=BU.length∧(∀(i:Nat) (kv:Value×AV) (e:MapEntry),BU[i]?=some kv→es[i]?=some e→e.key=kv.1) ∧
 (∀kv∈BU,UP sh kv.1=true)∧(BU.map (·.1)).Nodup∧(∀(i:Nat) (e:MapEntry),es[i]?=some e→e.born<ck) ∧
 ∀(i j:Nat) (e e' : MapEntry),es[i]?=some e→es[j]?=some e'→e.born=e'.born→i=j
inductive BC(g:Gh)(w:World):(Nat→Prop)→AV→Value→Prop
 |v (U:Nat→Prop) (x:Value):BC g w U (.v x) x
 |junk (U:Nat→Prop) (x:Value):BC g w U .junk x
 |snil (U:Nat→Prop) (a:Option Addr) (cap:Nat):BC g w U (.slice .none []) (.slice a 0 cap)
 |slice (U:Nat→Prop) (es:List (List AV)) (b off sz cap:Nat) (val:Nat→Nat→Value) (hc:es.length≤cap)
   (hl:∀(i:Nat) (cs:List AV),es[i]?=some cs→cs.length=sz)
   (Dv:∀(i:Nat) (cs:List AV) (j:Nat) (av:AV),es[i]?=some cs→cs[j]?=some av →
    g.S b (off+i*sz+j)∧w.cell? ⟨b,off+i*sz+j,none⟩=some (val i j)∧(val i j).oneCell'=true)
   (Eb:∀(i:Nat) (cs:List AV) (j:Nat) (av:AV),es[i]?=some cs→cs[j]?=some av→BC g w (fun _=>False) av (val i j)) :
   BC g w U (.slice .none es) (.slice (some ⟨b,off,none⟩) es.length cap)
 |tok (U:Nat→Prop) (r sz:Nat) (es:List (List AV)) (x:Value) (h:BC g w U (.slice .none es) x) (hl:∀c∈es,c.length=sz) (hu:U r) (ht:g.tk r=true) (hn:es.length≤g.ln r)
   (hx:es.length=g.ln r→x=g.ρ r):BC g w U (.slice (.id r sz) es) x
 |ver (U:Nat→Prop) (r sz v:Nat) (es:List (List AV)) (x:Value) (h:BC g w U (.slice .none es) x) (hl:∀c∈es,c.length=sz) (hu:U r) (ht:g.tk r=true) (hn:v≤g.ln r)
   (hx:v=g.ln r→x=g.ρ r):BC g w U (.slice (.ver r sz v) es) x
 |full (U:Nat→Prop) (sz:Nat) (es:List (List AV)) (x:Value) (h:BC g w U (.slice .none es) x) (hl:∀c∈es,c.length=sz) (hx:∃a,x=.slice a es.length es.length):BC g w U (.slice (.full sz) es) x
 |msl (U:Nat→Prop) (r n:Nat) (a:Option Addr) (cap:Nat) (hu:U r) (ht:g.tk r=true) (hn:n≤g.ln r) (ha:n=0∨∃b,a=some ⟨b,0,none⟩) (hx:n=g.ln r→.slice a n cap=g.ρ r) :
   BC g w U (.msl r n) (.slice a n cap)
 |agg (U:Nat→Prop) (cs:List AV) (vs:Array Value) (hs:vs.size=cs.length) (h1:∀(i:Nat) (x:Value),vs[i]?=some x→x.oneCell'=true)
   (h:∀(i:Nat) (av:AV) (x:Value),cs[i]?=some av→vs[i]?=some x→BC g w U av x):BC g w U (.agg cs) (.agg vs)
 |tup (U:Nat→Prop) (cs:List AV) (vs:Array Value) (hs:vs.size=cs.length)
   (h:∀(i:Nat) (av:AV) (x:Value),cs[i]?=some av→vs[i]?=some x→BC g w U av x):BC g w U (.tup cs) (.tuple vs)
 |cptr (U:Nat→Prop) (cs:List AV) (b off:Nat) (val:Nat→Value)
   (Dv:∀(j:Nat) (av:AV),cs[j]?=some av→g.S b (off+j)∧w.cell? ⟨b,off+j,none⟩=some (val j)∧(val j).oneCell'=true)
   (Eb:∀(j:Nat) (av:AV),cs[j]?=some av→BC g w (fun _=>False) av (val j)) :
   BC g w U (.cptr cs) (.pointer (some ⟨b,off,none⟩))
 |ref (U:Nat→Prop) (r off b:Nat) (hu:U r) (ht:g.tk r=false) (hx:g.ρ r=.pointer (some ⟨b,0,none⟩)):BC g w U (.ref r off) (.pointer (some ⟨b,off,none⟩))
 |eref (U:Nat→Prop) (r n sz i off b cap:Nat) (hu:U r) (ht:g.tk r=true) (hn:i<n∧n≤g.ln r) (hx:n=g.ln r→g.ρ r=.slice (some ⟨b,0,none⟩) n cap) :
   BC g w U (.eref r n sz i off) (.pointer (some ⟨b,i*sz+off,none⟩))
 |mref (U:Nat→Prop) (r b:Nat) (hu:U r) (ht:g.tk r=false) (hx:g.ρ r=.map (some b)):BC g w U (.mref r) (.map (some b))
 |cmap (U:Nat→Prop) (sh:EB) (BU:List (Value×AV)) (b:Nat) (es:Array MapEntry) (ck:Nat) (hS:g.S b 0) (hb:w.heap[b]?=some (.map es ck)) (hm:GW sh es ck BU)
   (h:∀(i:Nat) (kv:Value×AV) (e:MapEntry),BU[i]?=some kv→es[i]?=some e→BC g w (fun _=>False) kv.2 e.val):BC g w U (.cmap sh BU) (.map (some b))
 |clo (U:Nat→Prop) (f:Nat) (cs:List AV) (vs:Array Value) (hs:vs.size=cs.length)
   (h:∀(i:Nat) (av:AV) (x:Value),cs[i]?=some av→vs[i]?=some x→BC g w U av x):BC g w U (.clo f cs) (.func (.func f) #[] vs)
def HO.live:HO→Prop
 |.free |.dead |.vox _ |.ro _ |.rom _ _=>False
 |_=>True
def AP(h:Nat→HO)(r:Nat):Prop:=h r≠.free
def E9:Nat→Prop:=fun _=>False
def Cs(g:Gh)(w:World)(U:Nat→Prop)(cs:List AV)(vs:List Value):Prop :=
 vs.length=cs.length∧(∀x∈vs,x.oneCell'=true)∧∀(i:Nat) (av:AV) (x:Value),cs[i]?=some av→vs[i]?=some x→BC g w U av x
def NT:List Nat→Code→Bool
 |bs,.block id c=>NT (id::bs) c
 |bs,.seq a b=>NT bs a||NT bs b
 |bs,.cond _ a b=>NT bs a||NT bs b
 |bs,.loop c=>NT bs c
 |bs,.exit id=>!(bs.any fun i=>Nat.beq i id)
 |_,_=>false
def oG:Obj→Bool
 |.loop r=>NT [] r.body
 |_=>false
def D3(g:Gh)(w:World)(U:Nat→Prop)(r:Nat):HO→Prop
  |.free |.dead=>True
  |.cells cs=>g.tk r=false∧∃b E vs,g.own r=some b∧g.ρ r=.pointer (some ⟨b,0,none⟩)∧w.heap[b]?=some (.cells vs E (0,0))∧Cs g w U cs vs.toList∧∀o,¬g.S b o
  |.ro cs=>g.tk r=false∧∃b,g.ρ r=.pointer (some ⟨b,0,none⟩)∧BC g w E9 (.cptr cs) (.pointer (some ⟨b,0,none⟩))
  |.tok sz n=>g.tk r=true∧g.ln r=n∧∃a cap,g.ρ r=.slice a n cap∧(n=cap∧g.own r=none ∨
      n≤cap∧∃b E vs off,a=some ⟨b,off,none⟩∧g.own r=some b∧w.heap[b]?=some (.cells vs E (0,0))∧vs.size=off+cap*sz∧∀o,g.S b o→o<off+n*sz)
  |.var sz v n=>g.tk r=true∧g.ln r=v∧∃a cap,g.ρ r=.slice a n cap∧(n=cap∧g.own r=none ∨
      n≤cap∧∃b E vs off,a=some ⟨b,off,none⟩∧g.own r=some b∧w.heap[b]?=some (.cells vs E (0,0))∧vs.size=off+cap*sz∧∀o,g.S b o→o<off+n*sz)
  |.vox v=>g.tk r=true∧g.ln r=v
  |.arr sz es=>g.tk r=true∧g.ln r=es.length∧(∀cs∈es,cs.length=sz)∧(es=[]∧g.ρ r=.slice none 0 0∧g.own r=none ∨
      ∃b cap E vs,g.ρ r=.slice (some ⟨b,0,none⟩) es.length cap∧g.own r=some b∧es.length≤cap∧w.heap[b]?=some (.cells vs E (0,0))∧vs.size=cap*sz ∧
        Cs g w E9 es.flatten (vs.toList.take (es.length*sz))∧∀o,¬g.S b o)
  |.map sh BU=>g.tk r=false∧∃b es ck,g.own r=some b∧g.ρ r=.map (some b)∧w.heap[b]?=some (.map es ck)∧GW sh es ck BU ∧
      (∀(i:Nat) (kv:Value×AV) (e:MapEntry),BU[i]?=some kv→es[i]?=some e→BC g w E9 kv.2 e.val)∧∀o,¬g.S b o
  |.mapU sh BU=>g.tk r=false∧∃b es ck,g.own r=some b∧g.ρ r=.map (some b)∧w.heap[b]?=some (.map es ck)∧GW sh es ck BU ∧
      (∀(i:Nat) (kv:Value×AV) (e:MapEntry),BU[i]?=some kv→es[i]?=some e→BC g w U kv.2 e.val)∧∀o,¬g.S b o
  |.rom sh BU=>g.tk r=false∧∃b,g.ρ r=.map (some b)∧BC g w E9 (.cmap sh BU) (.map (some b))
  |.iter all rem Fs=>g.tk r=false∧∃b mb JI seen st es ck,g.own r=some b∧g.ρ r=.pointer (some ⟨b,0,none⟩)∧w.heap[b]?=some (.mapIter (some mb) JI seen st) ∧
      g.S mb 0∧w.heap[mb]?=some (.map es ck)∧(∃sh,GW sh es ck all)∧JI=ck∧st=ck ∧
      (∀(i:Nat) (kv:Value×AV) (e:MapEntry),all[i]?=some kv→es[i]?=some e→BC g w E9 kv.2 e.val) ∧
      (rem.Nodup∧∀kv∈rem,kv∈all)∧(∀(i:Nat) (kv:Value×AV) (e:MapEntry),all[i]?=some kv→es[i]?=some e→(kv∈rem↔e.born∉seen)) ∧
      (match Fs with | none=>True | some kv=>∃(i:Nat) (e:MapEntry),all[i]?=some kv∧es[i]?=some e∧seen.back?=some e.born)∧∀o,¬g.S b o
  |.hol sz es i c a=>g.tk r=true∧g.ln r=es.length∧(∀cs∈es,cs.length=sz)∧∃b cap E vs,g.ρ r=.slice (some ⟨b,0,none⟩) es.length cap∧g.own r=some b∧es.length≤cap∧w.heap[b]?=some (.cells vs E (0,0))∧vs.size=cap*sz ∧
        Cs g w E9 es.flatten (vs.toList.take (es.length*sz))∧(∀o,¬g.S b o)∧i*sz+c<es.length*sz∧∃x,vs[i*sz+c]?=some x∧BC g w U a x
  |.raw b ob=>g.tk r=false∧g.own r=some b∧w.heap[b]?=some ob∧oG ob=true∧∀o,¬g.S b o
def gB:Nat:=0
def pc:List (Nat×Nat×Option Value):=[]
def U5(g:Gh)(w:World):Prop:=(g.S gB 0∧∃m,w.cell? ⟨gB,0,none⟩=some (.int .i64 m))∧∀x∈pc,g.S x.1 x.2.1∧w.cell? ⟨x.1,x.2.1,none⟩=x.2.2
structure DA(w0:World)(g0:Gh)(h0:Nat→HO)(h:Nat→HO)(g:Gh)(w:World):Prop where
 os:w.os=w0.os
 tape:w.tape=w0.tape
 output:w.output=w0.output
 size:w0.heap.size≤w.heap.size
 frame:∀b,b<w0.heap.size→(∀r,(h0 r).live→g0.own r≠some b)→w.heap[b]?=w0.heap[b]?
 slt:∀b o,g.S b o→b<w.heap.size
 objs:∀r,D3 g w (AP h) r (h r)
 inj:∀r r' b,(h r).live→(h r').live→g.own r=some b→g.own r'=some b→r=r'
 loc:∀r b,(h r).live→g.own r=some b→b<w.heap.size∧(w0.heap.size≤b∨∃r',(h0 r').live∧g0.own r'=some b)
 sg:∀b o,g.S b o→g0.S b o∨w0.heap.size≤b∨∃r',(h0 r').live∧g0.own r'=some b
 glob:U5 g w
def Ez(g:Gh)(w:World)(g' : Gh)(w' : World):Prop :=
 ∀b o,g.S b o→g'.S b o∧w'.cell? ⟨b,o,none⟩=w.cell? ⟨b,o,none⟩∧∀es ck,w.heap[b]?=some (.map es ck)→w'.heap[b]?=some (.map es ck)
def JM(g g' : Gh)(U:Nat→Prop):Prop :=
 ∀i,U i→g'.tk i=g.tk i∧g.ln i≤g'.ln i∧(g.tk i=false→g'.ρ i=g.ρ i)∧(g'.ln i=g.ln i→g'.ρ i=g.ρ i)
structure Le(h:Nat→HO)(g:Gh)(w:World)(h' : Nat→HO)(g' : Gh)(w' : World):Prop where
 gh:JM g g' (AP h)
 us:∀i,AP h i→AP h' i
 keeps:Ez g w g' w'
def FU (P : Program) (f : Nat) : Prop := ∃ fn, P.funcs[f]? = some fn ∧ (fn.name == "runtime.NumGoroutine") = false ∧ fn.body.isNone = false
def A3(P:Program)(f:Nat)(args:List AV)(h0:Nat→HO)(Q:AV→(Nat→HO)→Prop):Prop :=
 FU P f∧∀(g:Gh) (w:World) (vals:Array Value),vals.size=args.length→(∀(i:Nat) (av:AV) (x:Value),args[i]?=some av→vals[i]?=some x→BC g w (AP h0) av x) →
  DA w g h0 h0 g w →
  Calls P f vals w fun e w'=>∃v r h' g',e=.returned v∧Q r h'∧BC g' w' (AP h') r v∧DA w g h0 h' g' w'∧Le h0 g w h' g' w'
def I2(P:Program)(f:Nat)(args:List AV)(res:AV):Prop:=A3 P f args Aa fun r h'=>r=res∧h'=Aa
def ID(P:Program)(Y:Gh→World→Prop)(l:Nat)(args:List AV)(h0:Nat→HO)(Q:AV→(Nat→HO)→Prop):Prop :=
 ∀(g:Gh) (w:World) (vals:Array Value),vals.size=args.length→(∀(i:Nat) (av:AV) (x:Value),args[i]?=some av→vals[i]?=some x→BC g w (AP h0) av x) →
  DA w g h0 h0 g w→Y g w →
  YieldAt Fence.wide 0 P l vals w fun e w'=>∃v r h' g',e=.returned v∧Q r h'∧BC g' w' (AP h') r v∧DA w g h0 h' g' w'∧Le h0 g w h' g' w'
def lr(P:Program)(Y:Gh→World→Prop)(f:Nat)(args:List AV)(h0:Nat→HO)(Q:AV→(Nat→HO)→Prop):Prop :=
 FU P f∧∀(g:Gh) (w:World) (vals:Array Value),vals.size=args.length→(∀(i:Nat) (av:AV) (x:Value),args[i]?=some av→vals[i]?=some x→BC g w (AP h0) av x) →
  DA w g h0 h0 g w→Y g w →
  Calls P f vals w fun e w'=>∃v r h' g',e=.returned v∧Q r h'∧BC g' w' (AP h') r v∧DA w g h0 h' g' w'∧Le h0 g w h' g' w'
def FS(P:Program)(Y:Nat→Gh→World→Prop)(F:AV)(args:List AV)(h:Nat→HO)(Q:AV→(Nat→HO)→Prop):Prop :=
 match F with
 |.v (.func (.func f) ⟨[]⟩ ⟨[]⟩)=>A3 P f args h Q
 |.clo f caps=>A3 P f (args++caps) h Q
 |.v (.func (.yield l) ⟨[]⟩ ⟨[]⟩)=>ID P (Y l) l args h Q
 |_=>False
def OU(P:Program)(F:AV)(args:List AV)(res:AV):Prop :=
 match F with
 |.v (.func (.func f) ⟨[]⟩ ⟨[]⟩)=>I2 P f args res
 |.clo f caps=>I2 P f (args++caps) res
 |_=>False
structure Cx where
 P:Program
 T:Gg
 pl:Ro
 ext:Bool
 nid:Nat
 yp:Nat→List (Nat×Nat)→Gh→World→Prop
def Kj(cx:Cx)(d:Nat):Nat:=bif Iy cx.pl.dyn d then cx.nid else d
abbrev HK:=AV→(Nat→HO)→Prop
def Rs(T:Gg)(d:Option Nat)(h:Nat→HO)(e:Nat)(K:HK):Prop :=
 match d with
 |none=>False
 |some d=>match h d with
  |.free=>match(T e).d with
   |.other=>False
   |_=>match GL ((T e).zc.map .v)with
    |true=>K (.ref d 0) (AS h d (.cells ((T e).zc.map .v)))
    |false=>False
  |_=>False
def GN(n:Nat)(a:AV)(K:List AV→Prop):Prop :=
 match a with
 |.agg cs=>match Nat.beq cs.length n with
  |true=>K cs
  |false=>False
 |a=>match one a with
  |true=>match n with
   |1=>K [a]
   |_=>False
  |false=>False
def aC(cx:Cx)(d:Option Nat)(h:Nat→HO)(e:Nat)(x:AV)(K:HK):Prop :=
 match d with
 |none=>False
 |some d=>match h d with
  |.free=>match(cx.T e).d with
   |.other=>False
   |_=>GN (cx.T e).size x fun cs=>match Iy cx.pl.frz d with
    |true=>K (.ref d 0) (AS h d (.ro (cs.map (str h))))
    |false=>K (.ref d 0) (AS h d (.cells cs))
  |_=>False
def NE(cx:Cx)(h:Nat→HO)(t:Nat)(p x:AV)(K:HK):Prop :=
 match(cx.T t).d with
 |.other=>False
 |_=>GN (cx.T t).size x fun vs=>match p with
  |.ref r off=>match h r with
   |.cells cs=>off+vs.length≤cs.length∧(match Iy cx.pl.frz r with
    |true=>K (.v undef) (AS h r (.ro ((over cs off vs).map (str h))))
    |false=>K (.v undef) (AS h r (.cells (over cs off vs))))
   |_=>False
  |.eref r n sz i off=>match h r with
   |.arr Gd es=>match Nat.beq sz Gd with
    |true=>n=es.length∧∃cs,es[i]?=some cs∧off+vs.length≤sz∧(match vs with
     | [.msl j m]=>K (.v undef) (AS h r (.hol sz (es.set i (over cs off [.junk])) i off (.msl j m)))
     |_=>K (.v undef) (AS h r (.arr sz (es.set i (over cs off (vs.map (str h)))))))
    |false=>False
   |_=>False
  |_=>False
def HY(T:Gg)(h:Nat→HO)(t:Nat)(p:AV)(K:AV→Prop):Prop :=
 match p with
 |.cptr cs=>Ld T t cs K
 |.ref r off=>match h r with
  |.cells cs=>Ld T t (cs.drop off) K
  |.ro cs=>Ld T t (cs.drop off) K
  |_=>False
 |.eref r n sz i off=>match h r with
  |.arr Gd es=>match Nat.beq sz Gd with
   |true=>n=es.length∧∃cs,es[i]?=some cs∧Ld T t (cs.drop off) K
   |false=>False
  |.hol Gd es i' c a=>match Nat.beq sz Gd with
   |true=>(n=es.length∧i=i'∧off=c)∧Ld T t [a] K
   |false=>False
  |_=>False
 |_=>False
def Kl(pl:Nat→Option (Nat×Nat))(cs:List AV)(t:Nat→AV)(ps:List (Nat×Operand))(K:List AV→Prop):Prop :=
 match ps with
 | []=>K cs
 |(i,x)::r=>match pl i with
  |none=>False
  |some (o,n)=>GN n (ev t x) fun vs=>match Nat.ble (o+n) cs.length with
   |true=>Kl pl (over cs o vs) t r K
   |false=>False
def NO(T:Gg):List (Nat×Nat)→Bool
 | []=>true
 |(t,_)::r=>match(T t).size with |0=>false |_+1=>NO T r
def OZ(T:Gg)(ty:Nat)(t:Nat→AV)(ps:List (Nat×Operand))(K:AV→Prop):Prop :=
 match GL ((T ty).zc.map .v)with
 |false=>False
 |true=>match(T ty).d with
  |.struct fs=>match NO T fs with
   |false=>False
   |true=>Kl (fun i=>match Vt fs i with |some (t,o)=>some (o,(T t).size) |none=>none) ((T ty).zc.map .v) t ps fun cs=>K (.agg cs)
  |.array _ e=>match(T e).size with
   |0=>False
   |_+1=>Kl (fun i=>some (i*(T e).size,(T e).size)) ((T ty).zc.map .v) t ps fun cs=>K (.agg cs)
  |_=>False
def P0(n sz:Nat)(h:Nat→HO)(es:List (List AV))(t:Nat→AV)(ps:List (Nat×Operand))(K:List (List AV)→Prop):Prop :=
 match ps with
 | []=>K es
 |(i,x)::r=>match Nat.blt i n with
  |true=>GN sz (ev t x) fun vs=>P0 n sz h (es.set i (vs.map (str h))) t r K
  |false=>False
def Es(cx:Cx)(d:Option Nat)(h:Nat→HO)(sz:Nat)(es:List (List AV))(K:HK):Prop :=
 match d with
 |none=>False
 |some d=>match h (Kj cx d)with
  |.free=>match Gq cx.pl.arr d with
   |some _=>K (.msl (Kj cx d) es.length) (AS h (Kj cx d) (.arr sz es))
   |none=>K (.slice (.id (Kj cx d) sz) es) (AS h (Kj cx d) (.tok sz es.length))
  |_=>False
def Ih(cx:Cx)(d:Option Nat)(h:Nat→HO)(ty n:Nat)(t:Nat→AV)(ps:List (Nat×Operand))(K:HK):Prop :=
 match(cx.T ty).d with
 |.slice e=>match GL ((cx.T e).zc.map .v),Nat.beq (cx.T e).zc.length (cx.T e).size with
  |true,true=>match(cx.T e).size with
   |0=>False
   |_+1=>match Nat.ble (n*(cx.T e).size) 16777216 with
    |true=>P0 n (cx.T e).size h (List.replicate n ((cx.T e).zc.map .v)) t ps fun es=>Es cx d h (cx.T e).size es K
    |false=>False
  |_,_=>False
 |_=>False
def Ko(t:Nat→AV)(h:Nat→HO)(fn:Fn)(first captured:List Operand)(K:AV→Prop):Prop :=
 match fn,first with
 |.func f,[]=>K (.clo f (captured.map fun x=>rsv h (ev t x)))
 |_,_=>False
def Df(sz:Nat):List (List AV)→Prop
 | []=>True
 |c::r=>c.length=sz∧Df sz r
def KP(h:Nat→HO)(x:AV)(K:List (List AV)→Prop):Prop :=
 match x with
 |.slice _ es=>K es
 |.v (.slice none 0 0)=>K []
 |.msl r n=>match h r with
  |.arr _ es=>n=es.length∧K es
  |_=>False
 |_=>False
def H5(cx:Cx)(d:Option Nat)(h:Nat→HO)(ty:Nat)(s x:AV)(K:HK):Prop :=
 match(cx.T ty).d with
 |.slice e=>match Nat.beq (cx.T e).zc.length (cx.T e).size with
  |false=>False
  |true=>match(cx.T e).size with
   |0=>False
   |_+1=>KP h x fun es2=>match s with
    |.v (.slice none 0 0)=>(Df (cx.T e).size es2∧es2.length*(cx.T e).bytes≤140737488355328∧es2.length≤9223372036854775807)∧Es cx d h (cx.T e).size es2 K
    |.slice (.full Gd) es=>match Nat.beq Gd (cx.T e).size with
     |true=>(Df (cx.T e).size es2∧0<es2.length∧(es.length+es2.length)*(cx.T e).bytes≤140737488355328∧es.length+es2.length≤9223372036854775807)∧Es cx d h (cx.T e).size (es++es2) K
     |false=>False
    |.slice (.id r Gd) es=>match h r with
     |.tok sz n=>match Nat.beq sz (cx.T e).size,Nat.beq Gd sz with
      |true,true=>(Df sz es2∧es.length=n∧(es.length+es2.length)*(cx.T e).bytes≤140737488355328∧es.length+es2.length≤9223372036854775807) ∧
        K (.slice (.id r sz) (es++es2)) (AS h r (.tok sz (es.length+es2.length)))
      |_,_=>False
     |_=>False
    |.msl r n=>match h r with
     |.arr sz es=>match Nat.beq sz (cx.T e).size with
      |true=>(Df sz es2∧es.length=n∧(es.length+es2.length)*(cx.T e).bytes≤140737488355328∧es.length+es2.length≤9223372036854775807) ∧
        K (.msl r (es.length+es2.length)) (AS h r (.arr sz (es++es2)))
      |false=>False
     |_=>False
    |_=>False
 |_=>False
abbrev IM:=List (Nat×Nat)
inductive ot | pure | rel | gen (σ:IM) (nn:Nat) | geny (σ:IM) (nn:Nat)
def Ce(σ:IM)(n:Nat):Option Nat :=
 match σ with
 | []=>none
 |(i,j)::r=>bif Nat.beq i n then some j else Ce r n
def Hy(σ:IM)(n:Nat):Option Nat :=
 match σ with
 | []=>none
 |(i,j)::r=>bif Nat.beq j n then some i else Hy r n
def Eg:IM→Bool
 | []=>true
 |(i,j)::r=>(match Ce r i,Hy r j with |none,none=>true |_,_=>false)&&Nat.ble 1000 j&&Nat.blt j 2000&&Eg r
def Gw:IM→Bool
 | []=>true
 |(i,j)::r=>(match Ce r i,Hy r j with |none,none=>true |_,_=>false)&&Gw r
def ren0(f:Nat→Option Nat)(h:Nat→HO):AV→AV
 |.slice (.id r sz) es=>match f r with |some r'=>.slice (.id r' sz) es |none=>.slice .none es
 |.slice (.ver r sz v) es=>match f r with |some r'=>.slice (.ver r' sz v) es |none=>.slice .none es
 |.msl r n=>match f r with |some r'=>.msl r' n |none=>.junk
 |.ref r off=>match f r with |some r'=>.ref r' off |none=>str0 h (.ref r off)
 |.eref r n sz i off=>match f r with |some r'=>.eref r' n sz i off |none=>.junk
 |.mref r=>match f r with |some r'=>.mref r' |none=>str0 h (.mref r)
 |a=>str0 h a
def ren1(f:Nat→Option Nat)(h:Nat→HO):AV→AV
 |.agg cs=>.agg (cs.map (ren0 f h))
 |.clo g cs=>.clo g (cs.map (ren0 f h))
 |a=>ren0 f h a
def ren(f:Nat→Option Nat)(h:Nat→HO):AV→AV
 |.tup cs=>.tup (cs.map (ren1 f h))
 |a=>ren1 f h a
def HO.ren(f:Nat→Option Nat)(h:Nat→HO):HO→HO
 |.cells cs=>.cells (cs.map (ren1 f h))
 |.mapU sh BU=>.mapU sh (BU.map fun p=>(p.1,ren1 f h p.2))
 |.hol sz es i c a=>.hol sz es i c (ren1 f h a)
 |o=>o
def Aj(l:List (Nat×HO))(hb:Nat→HO)(i:Nat):HO:=match l with | []=>hb i | (j,v)::r=>bif Nat.beq i j then v else Aj r hb i
def VS(f:Nat→Option Nat)(h:Nat→HO):IM→List (Nat×HO)
 | []=>[]
 |(i,j)::r=>(j,(h i).ren f h)::VS f h r
def Fr(σ:IM)(h:Nat→HO):Nat→HO:=Aj (VS (Ce σ) h σ) Aa
def Bo(d k:Nat):Nat:=10000+100*d+k
def EW(σ:IM)(d nn:Nat)(j:Nat):Option Nat :=
 match Hy σ j with
 |some i=>some i
 |none=>match Nat.ble 2000 j&&Nat.blt j (2000+nn)with |true=>some (Bo d (j-2000)) |false=>none
def D1(σ:IM)(d nn:Nat)(h h' : Nat→HO):Nat→HO:=fun i =>
 match Ce σ i with
 |some j=>(h' j).ren (EW σ d nn) h'
 |none=>match Nat.ble (Bo d 0) i&&Nat.blt i (Bo d nn)with |true=>(h' (2000+(i-Bo d 0))).ren (EW σ d nn) h' |false=>h i
def Dw(h:Nat→HO)(d:Nat):Nat→Bool
 |0=>true
 |k+1=>(match h (Bo d k)with |.free=>true |_=>false)&&Dw h d k
def Dg(σ:IM)(d nn:Nat):Bool :=
 match σ with
 | []=>true
 |(i,_)::r=>!(Nat.ble (Bo d 0) i&&Nat.blt i (Bo d nn))&&Dg r d nn
def M4(l:List (Nat×Nat))(d:Option Nat):Option Nat:=match d with | none=>none | some d=>Gq l d
def ZF:AV→Bool | .tup _=>false | _=>true
def SN:List AV→Bool
 | []=>true
 |a::r=>match ZF a with |true=>SN r |false=>false
def UY:List AV→Option (List Value)
 | []=>some []
 |.v x::r=>match UY r with |some l=>some (x::l) |none=>none
 |_=>none
def Qz(cx:Cx)(k:Nat)(d:Option Nat)(h:Nat→HO)(F:AV)(args:List AV)(K:HK):Prop :=
 match d,F,args with
 |some d,.v (.func (.func f) ⟨[]⟩ ⟨[]⟩),.msl r n::l=>match UY l with
  |some vs=>match h r with
   |.arr sz es=>match k with
    |0=>∃n' Ft,A3 cx.P f (.msl 1000 n::vs.map .v) (Aj [(1000,.arr sz es)] Aa) (fun r' h'=>r'=.msl 1000 n'∧h'=Aj [(1000,.arr sz Ft)] Aa)∧K (.msl r n') (AS h r (.arr sz Ft))
    |_+1=>∃n' Ft,(Dw h d 1&&Nat.blt r 10000000&&!Nat.beq r (Bo d 0))=true∧A3 cx.P f (.msl 1000 n::vs.map .v) (Aj [(1000,.arr sz es)] Aa) (fun r' h'=>r'=.msl 2000 n'∧h'=Aj [(1000,.dead),(2000,.arr sz Ft)] Aa) ∧
      K (.msl (Bo d 0) n') (AS (AS h r .dead) (Bo d 0) (.arr sz Ft))
   |_=>False
  |none=>False
 |_,_,_=>False
def Tp(cx:Cx)(d:Option Nat)(st:St)(F:AV)(args:List AV)(K:HK):Prop :=
 match d with
 |none=>False
 |some d=>∃sz es,(Dw st.h d 1&&ZF F&&SN args)=true∧FS cx.P (fun l=>cx.yp l []) (str st.h F) (args.map (str st.h)) Aa (fun r h'=>r=.slice (.id 2000 sz) es∧h'=Aj [(2000,.tok sz es.length)] Aa) ∧
   K (.slice (.id (Bo d 0) sz) es) (AS st.h (Bo d 0) (.tok sz es.length))
def PN(cx:Cx)(d:Option Nat)(st:St)(F:AV)(args:List AV)(K:HK):Prop :=
  match d,F,UY args with
  |some _,.v (.func (.yield l) ⟨[]⟩ ⟨[]⟩),some vs=>match st.h 1000,st.h 1001 with
    |.cells [.slice (.id r sz) es],.tok Z0 n=>(r=1001∧Z0=sz)∧∃v Ft n',ID cx.P (cx.yp l [(1000,1000),(1001,1001)]) l (vs.map .v) (Aj [(1000,.cells [.slice (.id 1001 sz) es]),(1001,.tok sz n)] Aa)
          (fun r h'=>r=.v v∧h'=Aj [(1000,.cells [.slice (.id 1001 sz) Ft]),(1001,.tok sz n')] Aa) ∧
        K (.v v) (AS (AS st.h 1001 (.tok sz n')) 1000 (.cells [.slice (.id 1001 sz) Ft]))
    |_,_=>False
  |_,_,_=>False
def iV:List Nat:=[1000,1001,1002,1003,1004,1005,1006,1007]
def WW(cx:Cx)(d:Option Nat)(st:St)(F:AV)(args:List AV)(K:HK):Prop :=
 match d,F with
 |some d,.v (.func (.func f) ⟨[]⟩ ⟨[]⟩)=>∃(σ:IM) (H0 Hn:List (Nat×HO)) (args' : List AV) (res:AV),
   (∀h2:Nat→HO,(∀r∈iV,h2 r=st.h r)→Fr σ h2=Aj H0 Aa∧args.map (ren (Ce σ) h2)=args')∧(Eg σ&&Dg σ d 0&&σ.all fun p=>Iy iV p.1)=true ∧
   A3 cx.P f args' (Aj H0 Aa) (fun r h'=>r=res∧h'=Aj Hn Aa)∧K (ren (EW σ d 0) (Aj Hn Aa) res) (D1 σ d 0 st.h (Aj Hn Aa))
 |_,_=>False
def OH(cx:Cx)(k:Nat)(d:Option Nat)(st:St)(F:AV)(args:List AV)(K:HK):Prop :=
 match Nat.beq k 4 with
 |true=>WW cx d st F args K
 |false=>Qz cx k d st.h F args K
def F6(cx:Cx)(dr:Bool)(d:Option Nat)(st:St)(F:AV)(args:List AV)(K:HK):Prop :=
 match dr with
 |true=>match M4 cx.pl.dc d with
  |none=>∃res,OU cx.P (str st.h F) (args.map (str st.h)) res∧K res st.h
  |some 0=>match d with
   |none=>False
   |some d=>∃n sz es,(Dw st.h d 1&&ZF F&&SN args)=true∧FS cx.P (fun l=>cx.yp l []) (str st.h F) (args.map (str st.h)) Aa (fun r h'=>r=.msl 2000 n∧h'=Aj [(2000,.arr sz es)] Aa) ∧
     K (.msl (Bo d 0) n) (AS st.h (Bo d 0) (.arr sz es))
  |some (k+1)=>match Nat.beq k 2 with
   |true=>Tp cx d st F args K
   |false=>match Nat.beq k 3 with
    |true=>PN cx d st F args K
    |false=>OH cx k d st F args K
 |false=>∃m:ot,match m with
  |.pure=>∃res,OU cx.P (str st.h F) (args.map (str st.h)) res∧K res st.h
  |.rel=>FS cx.P (fun _ _ _=>True) (str st.h F) (args.map (str st.h)) Aa fun r h'=>h'=Aa∧K r st.h
  |.gen σ nn=>match d with
   |none=>False
   |some d=>(Eg σ&&Dw st.h d nn&&Dg σ d nn)=true ∧
     FS cx.P (fun l=>cx.yp l σ) (ren (Ce σ) st.h F) (args.map (ren (Ce σ) st.h)) (Fr σ st.h) fun r h'=>K (ren (EW σ d nn) h' r) (D1 σ d nn st.h h')
  |.geny σ nn=>match d with
   |none=>False
   |some d=>(Eg σ&&Dw st.h d nn&&Dg σ d nn)=true ∧
     match ren (Ce σ) st.h F with
     |.clo f caps=>lr cx.P (fun g w=>∀l,cx.yp l σ g w) f (args.map (ren (Ce σ) st.h)++caps) (Fr σ st.h) fun r h'=>K (ren (EW σ d nn) h' r) (D1 σ d nn st.h h')
     |_=>False
def Wa:List AV→Option (List Value)
 | []=>some []
 |.v x::r=>match Wa r with |some l=>some (x::l) |none=>none
 |_=>none
def mU:AV→Option Value
 |.v x=>some x
 |.agg cs=>match Wa cs with |some l=>some (.agg l.toArray) |none=>none
 |_=>none
def HC(T:Gg)(t:Nat):Option EB :=
 match(T t).d with
 |.struct _=>match Hl T 8 t with |some l=>some ⟨true,l⟩ |none=>none
 |_=>match Hl T 1 t with |some l=>some ⟨false,l⟩ |none=>none
def jw:KS→KS→Bool
 |.int k,.int k'=>ol k k'
 |.str,.str=>true
 |.bool,.bool=>true
 |_,_=>false
def SB:List KS→List KS→Bool
 | [],[]=>true
 |a::r,b::s=>match jw a b with |true=>SB r s |false=>false
 |_,_=>false
def nx(a b:EB):Bool :=
 match a.agg,b.agg with
 |true,true=>SB a.l b.l
 |false,false=>SB a.l b.l
 |_,_=>false
def JV(T:Gg)(ty:Nat)(sh:EB)(k:AV)(K:Value→Prop):Prop :=
 match(T ty).d with
 |.map kt _=>match HC T kt with
  |some r6=>match nx sh r6 with
   |true=>match mU k with
    |some kx=>match UP sh kx with
     |true=>K kx
     |false=>False
    |none=>False
   |false=>False
  |none=>False
 |_=>False
open Classical in
noncomputable def EL(BU:List (Value×AV))(k:Value)(a:AV):List (Value×AV) :=
 if ∃a',(k,a')∈BU then BU.map fun p=>if p.1=k then(k,a)else p else BU++[(k,a)]
def Kp(T:Gg)(mku:List Nat)(d:Option Nat)(h:Nat→HO)(ty:Nat)(K:HK):Prop :=
 match d with
 |none=>False
 |some d=>match h d with
  |.free=>match(T ty).d with
   |.map kt _=>match HC T kt with
    |some sh=>match Iy mku d with
     |true=>K (.mref d) (AS h d (.mapU sh []))
     |false=>K (.mref d) (AS h d (.map sh []))
    |none=>False
   |_=>False
  |_=>False
def GQ(T:Gg)(h:Nat→HO)(ty:Nat)(m k x:AV)(K:HK):Prop :=
 match m with
 |.mref r=>match h r with
  |.map sh BU=>JV T ty sh k fun kx=>K (.v undef) (AS h r (.map sh (EL BU kx (str h x))))
  |.mapU sh BU=>JV T ty sh k fun kx=>K (.v undef) (AS h r (.mapU sh (EL BU kx x)))
  |_=>False
 |_=>False
def J3(T:Gg)(t:Nat)(K:AV→Prop):Prop :=
 match(T t).d with
 |.other=>False
 |_=>match(T t).zero with
  |.agg cs=>match GL (cs.toList.map .v)with |true=>K (.agg (cs.toList.map .v)) |false=>False
  |z=>K (.v z)
def LG(T:Gg)(ty:Nat)(ok:Bool)(BU:List (Value×AV))(kx:Value)(K:AV→Prop):Prop :=
 match(T ty).d with
 |.map _ e=>match ok with
  |true=>(∀a,(kx,a)∈BU→K (.tup [a,.v (.bool true)]))∧((∀a,(kx,a)∉BU)→J3 T e fun z=>K (.tup [z,.v (.bool false)]))
  |false=>(∀a,(kx,a)∈BU→K a)∧((∀a,(kx,a)∉BU)→J3 T e K)
 |_=>False
def LF(T:Gg)(ty:Nat)(ok:Bool)(BU:List (Value×AV))(kx:Value)(K:AV→Prop):Prop :=
 match(T ty).d with
 |.map _ e=>match ok with
  |true=>(∃a,((kx,a)∈BU∧∀b,(kx,b)∈BU→b=a)∧K (.tup [a,.v (.bool true)]))∨((∀a,(kx,a)∉BU)∧J3 T e fun z=>K (.tup [z,.v (.bool false)]))
  |false=>(∃a,((kx,a)∈BU∧∀b,(kx,b)∈BU→b=a)∧K a)∨((∀a,(kx,a)∉BU)∧J3 T e K)
 |_=>False
def Mq(T:Gg)(h:Nat→HO)(ty:Nat)(m k:AV)(ok:Bool)(K:AV→Prop):Prop :=
 match m with
 |.cmap sh BU=>JV T ty sh k fun kx=>LF T ty ok BU kx K
 |.mref r=>match h r with
  |.map sh BU=>JV T ty sh k fun kx=>LF T ty ok BU kx K
  |.mapU sh BU=>JV T ty sh k fun kx=>LF T ty ok BU kx K
  |.rom sh BU=>JV T ty sh k fun kx=>LF T ty ok BU kx K
  |_=>False
 |_=>False
def Mr(T:Gg)(h:Nat→HO)(ty:Nat)(m k:AV)(ok:Bool)(K:AV→Prop):Prop :=
 match m with
 |.cmap sh BU=>JV T ty sh k fun kx=>LG T ty ok BU kx K
 |.mref r=>match h r with
  |.map sh BU=>JV T ty sh k fun kx=>LG T ty ok BU kx K
  |.mapU sh BU=>JV T ty sh k fun kx=>LG T ty ok BU kx K
  |.rom sh BU=>JV T ty sh k fun kx=>LG T ty ok BU kx K
  |_=>False
 |_=>False
def YX(d:Option Nat)(h:Nat→HO)(x:AV)(K:HK):Prop :=
 match d with
 |none=>False
 |some d=>match h d with
  |.free=>match x with
   |.cmap _ BU=>K (.ref d 0) (AS h d (.iter BU BU none))
   |.mref r=>match h r with
    |.rom _ BU=>K (.ref d 0) (AS h d (.iter BU BU none))
    |.map sh BU=>K (.ref d 0) (AS (AS h r (.rom sh BU)) d (.iter BU BU none))
    |_=>False
   |_=>False
  |_=>False
def fK(h:Nat→HO)(x:AV)(K:HK):Prop :=
 match x with
 |.ref r 0=>match h r with
  |.iter all rem _=>(rem=[]→K (.tup [.v (.bool false)]) h) ∧
    (∀kv Ny,rem.Perm (kv::Ny)→K (.tup [.v (.bool true),.v kv.1,kv.2]) (AS h r (.iter all Ny (some kv))))
  |_=>False
 |_=>False
def Ym(h:Nat→HO)(x:AV)(K:AV→Prop):Prop :=
 match x with
 |.ref r 0=>match h r with
  |.iter _ _ (some kv)=>K (.tup [.v kv.1,kv.2])
  |_=>False
 |_=>False
def Qk(T:Gg)(t:Nat)(h:Nat→HO)(x:AV)(K:AV→Prop):Prop :=
 match(T t).d with
 |.slice _=>match x with
  |.slice _ es=>K (.v (.int .i64 es.length))
  |.msl _ n=>K (.v (.int .i64 n))
  |.v (.slice none 0 0)=>K (.v (.int .i64 0))
  |_=>False
 |.string=>match x with
  |.v (.string s)=>K (.v (.int .i64 s.size))
  |_=>False
 |.map _ _=>match x with
  |.cmap _ BU=>K (.v (.int .i64 BU.length))
  |.mref r=>match h r with
   |.map _ BU=>K (.v (.int .i64 BU.length))
   |.mapU _ BU=>K (.v (.int .i64 BU.length))
   |.rom _ BU=>K (.v (.int .i64 BU.length))
   |_=>False
  |_=>False
 |_=>False
def Gc(cx:Cx)(d:Option Nat)(h:Nat→HO)(ty:Nat)(x:AV)(lo hi mx:Option (Option Int))(K:HK):Prop :=
 match lo,hi,mx with
 |some lo,some hi,some mx=>match(cx.T ty).d with
  |.string=>match mx,x with
   |none,.v (.string s)=>(0≤lo.getD 0∧lo.getD 0≤hi.getD s.size∧hi.getD s.size≤s.size)∧K (.v (.string (s.extract (lo.getD 0).toNat (hi.getD s.size).toNat))) h
   |_,_=>False
  |.slice e=>match(cx.T e).size with
   |0=>False
   |_+1=>match x with
    |.slice _ es=>match mx with
     |none=>(0≤lo.getD 0∧lo.getD 0≤hi.getD es.length∧hi.getD es.length≤es.length) ∧
       (∀cs∈es,cs.length=(cx.T e).size)∧K (.slice .none ((es.take (hi.getD es.length).toNat).drop (lo.getD 0).toNat)) h
     |some m=>match d,hi with
      |some d,some hi=>match Gq cx.pl.arr d with
       |some _=>(0≤lo.getD 0∧lo.getD 0≤hi∧m=hi∧hi≤es.length)∧(∀cs∈es,cs.length=(cx.T e).size) ∧
         K (.slice (.full (cx.T e).size) ((es.take hi.toNat).drop (lo.getD 0).toNat)) h
       |none=>match h d with
        |.free=>(0≤lo.getD 0∧lo.getD 0≤hi∧m=hi∧hi≤es.length)∧(∀cs∈es,cs.length=(cx.T e).size) ∧
          K (.slice (.id d (cx.T e).size) ((es.take hi.toNat).drop (lo.getD 0).toNat)) (AS h d (.tok (cx.T e).size (hi.toNat-(lo.getD 0).toNat)))
        |_=>False
      |_,_=>False
    |.v (.slice none 0 0)=>(lo.getD 0=0∧hi.getD 0=0∧mx.getD 0=0)∧(mx=none∨hi≠none)∧K (.v (.slice none 0 0)) h
    |.msl r n=>match h r with
     |.arr sz es=>match Nat.beq sz (cx.T e).size with
      |true=>(n=es.length∧0≤lo.getD 0∧lo.getD 0≤hi.getD es.length∧hi.getD es.length≤es.length∧(mx=none∨(mx=hi∧hi≠none))) ∧
        K (.slice .none ((es.take (hi.getD es.length).toNat).drop (lo.getD 0).toNat)) (AS h r .dead)
      |false=>False
     |_=>False
    |_=>False
  |_=>False
 |_,_,_=>False
def S8(cx:Cx)(d:Option Nat)(h:Nat→HO)(ty:Nat)(x:AV)(lo:Option (Option Int))(hi mx:Option Operand)(K:HK):Prop :=
 match d,lo,hi,mx with
 |some d,some (some lo),none,none=>match(cx.T ty).d with
  |.slice e=>match(cx.T e).size with
   |0=>False
   |_+1=>match x with
    |.slice (.id r sz) es=>match h r with
     |.tok Gd n=>match h (Kj cx d)with
      |.free=>match Nat.beq Gd sz,Nat.beq sz (cx.T e).size with
       |true,true=>(es.length=n∧0≤lo∧lo≤es.length)∧K (.slice (.id (Kj cx d) sz) (es.drop lo.toNat)) (AS (AS h r .dead) (Kj cx d) (.tok sz (es.drop lo.toNat).length))
       |_,_=>False
      |_=>False
     |_=>False
    |_=>False
  |_=>False
 |_,_,_,_=>False
def gl(cx:Cx)(d:Option Nat)(h:Nat→HO)(ty:Nat)(x:AV)(hi:Option (Option Int))(K:HK):Prop :=
 match d,hi with
 |some d,some (some hi)=>match(cx.T ty).d with
  |.slice e=>match(cx.T e).size with
   |0=>False
   |_+1=>match x with
    |.msl r n=>match h r with
     |.arr sz es=>match h (Kj cx d)with
      |.free=>match Nat.beq sz (cx.T e).size,Nat.blt r 10000000&&Nat.blt 0 (Kj cx d)with
       |true,true=>(n=es.length∧0≤hi∧hi≤es.length)∧K (.msl (Kj cx d) hi.toNat) (AS (AS h r .dead) (Kj cx d) (.arr sz (es.take hi.toNat)))
       |_,_=>False
      |_=>False
     |_=>False
    |_=>False
  |_=>False
 |_,_=>False
def MY(cx:Cx)(d:Option Nat)(h:Nat→HO)(ty:Nat)(x:AV)(lo:Option Operand)(hi:Option (Option Int))(mx:Option Operand)(K:HK):Prop :=
 match lo,mx with
 |none,none=>gl cx d h ty x hi K
 |_,_=>False
def ZT(cx:Cx)(d:Option Nat)(h:Nat→HO)(ty:Nat)(x:AV)(t:Nat→AV)(lo hi mx:Option Operand)(K:HK):Prop :=
 match lo with
 |none=>MY cx d h ty x none (BY t hi) mx K
 |some lo=>S8 cx d h ty x (BY t (some lo)) hi mx K
def xV:AV→AV
 |.slice _ es=>.slice .none es
 |a=>a
def NR(cx:Cx)(d:Option Nat)(h:Nat→HO)(x:AV)(K:HK):Prop :=
 match d with
 |none=>K x h
 |some d=>match Gq cx.pl.tok d with
  |some sz=>match Nat.beq sz 0 with
   |true=>K (xV x) h
   |false=>match x with
    |.v (.slice none 0 0)=>match h d with
     |.free=>K (.slice (.id d sz) []) (AS h d (.tok sz 0))
     |_=>False
    |x=>K x h
  |none=>match Gq cx.pl.arr d with
   |some sz=>match x with
    |.v (.slice none 0 0)=>match h d with
     |.free=>K (.msl d 0) (AS h d (.arr sz []))
     |_=>False
    |x=>K x h
   |none=>K x h
def jJ(l:List AV)(n:Nat):Option AV :=
 match l with
 | []=>none
 |x::r=>match n with |0=>some x |n+1=>jJ r n
def LA(x:AV)(i:Nat)(K:AV→Prop):Prop :=
 match x with
 |.tup vs=>match jJ vs i with
  |some a=>K a
  |none=>False
 |_=>False
def Ks(x:AV)(K:AV→Prop):Prop :=
 match x with
 |.ref r o=>K (.ref r o)
 |.eref r n z i o=>K (.eref r n z i o)
 |.cptr cs=>K (.cptr cs)
 |.clo f cs=>K (.clo f cs)
 |.v (.func (.func f) a b)=>K (.v (.func (.func f) a b))
 |_=>False
def XF(c a b:AV)(K:AV→Prop):Prop :=
 match c with
 |.v (.bool true)=>K a
 |.v (.bool false)=>K b
 |_=>False
def jD(f:Int→Int→Int)(x y:AV)(K:AV→Prop):Prop :=
 match x,y with
 |.v (.int k a),.v (.int k' b)=>match ol k k' with
  |true=>K (.v (.int k (f a b)))
  |false=>False
 |_,_=>False
def Jd(cx:Cx)(d:Option Nat)(h:Nat→HO)(ty:Nat)(len cap:AV)(K:HK):Prop :=
 match(cx.T ty).d,len,cap with
 |.slice e,.v (.int .i64 n),.v (.int .i64 c)=>match GL ((cx.T e).zc.map .v)with
  |true=>match Nat.beq (cx.T e).zc.length (cx.T e).size with
   |true=>match(cx.T e).size with
    |0=>False
    |_+1=>(0≤n∧n≤c∧c*(cx.T e).bytes≤140737488355328∧c≤9223372036854775807)∧Es cx d h (cx.T e).size (List.replicate n.toNat ((cx.T e).zc.map .v)) K
   |false=>False
  |false=>False
 |_,_,_=>False
def XS(op:UnOp)(x:AV)(K:AV→Prop):Prop :=
 match op,x with
 |.not,x=>bM K x
 |.neg,.v (.int .i64 a)=>BK (-a)∧K (.v (.int .i64 (-a)))
 |_,_=>False
def FN(cx:Cx)(d:Option Nat)(h:Nat→HO)(b:Builtin)(Gz:List Nat)(args:List AV)(K:HK):Prop :=
 match b,args,Gz with
 |.len,[x],[t]=>Qk cx.T t h x fun v=>K v h
 |.append,[s,x],[t,t']=>match Nat.beq t t' with
  |true=>H5 cx d h t s x K
  |false=>False
 |.max,[x,y],_=>jD max x y fun v=>K v h
 |.min,[x,y],_=>jD min x y fun v=>K v h
 |_,_,_=>False
def FF(cx:Cx)(dr:Bool)(o:Oper)(st:St)(K:HK):Prop :=
 match o.op with
 |.move x=>K (ev st.t x) st.h
 |.assign x=>NR cx o.dst st.h (ev st.t x) K
 |.pick c a b=>XF (ev st.t c) (ev st.t a) (ev st.t b) fun v=>K v st.h
 |.alloc e=>Rs cx.T o.dst st.h e K
 |.box e x=>aC cx o.dst st.h e (ev st.t x) K
 |.build ty ps=>OZ cx.T ty st.t ps.toList fun v=>K v st.h
 |.buildSlice ty n ps=>Ih cx o.dst st.h ty n st.t ps.toList K
 |.insert ty m k x=>GQ cx.T st.h ty (ev st.t m) (ev st.t k) (ev st.t x) K
 |.load ty x=>HY cx.T st.h ty (ev st.t x) fun v=>K v st.h
 |.store ty p x=>NE cx st.h ty (ev st.t p) (ev st.t x) K
 |.nilCheck x=>Ks (ev st.t x) fun v=>K v st.h
 |.binOp op ty x y _=>Wt cx.T op ty y (ev st.t x) (ev st.t y) fun v=>K v st.h
 |.unOp op _ x=>XS op (ev st.t x) fun v=>K v st.h
 |.convert s ty x=>WA cx.T s ty (ev st.t x) fun v=>K v st.h
 |.makeFunc fn first cap=>Ko st.t st.h fn first.toList cap.toList fun v=>K v st.h
 |.makeMap ty none=>Kp cx.T cx.pl.mku o.dst st.h ty K
 |.makeSlice ty n c=>Jd cx o.dst st.h ty (ev st.t n) (ev st.t c) K
 |.slice ty x lo hi mx=>match dr with
  |true=>match M4 cx.pl.tok o.dst with
   |none=>Gc cx o.dst st.h ty (ev st.t x) (BY st.t lo) (BY st.t hi) (BY st.t mx) K
   |some _=>MY cx o.dst st.h ty (ev st.t x) lo (BY st.t hi) mx K
  |false=>match M4 cx.pl.tok o.dst with
   |none=>Gc cx o.dst st.h ty (ev st.t x) (BY st.t lo) (BY st.t hi) (BY st.t mx) K
   |some _=>ZT cx o.dst st.h ty (ev st.t x) st.t lo hi mx K
 |.fieldAddr s x f=>RP cx.T s f (ev st.t x) fun v=>K v st.h
 |.field s x f=>N6 cx.T s f (ev st.t x) fun v=>K v st.h
 |.indexAddr ty x ix=>Jb cx.T ty (ev st.t x) (ev st.t ix) fun v=>K v st.h
 |.index ty x ix=>Ss cx.T ty (ev st.t x) (ev st.t ix) fun v=>K v st.h
 |.lookup ty x ix ok=>match dr with
  |true=>Mq cx.T st.h ty (ev st.t x) (ev st.t ix) ok fun v=>K v st.h
  |false=>Mr cx.T st.h ty (ev st.t x) (ev st.t ix) ok fun v=>K v st.h
 |.mapUpdate ty m k x=>GQ cx.T st.h ty (ev st.t m) (ev st.t k) (ev st.t x) K
 |.range ty x=>match(cx.T ty).d with |.map _ _=>YX o.dst st.h (ev st.t x) K |_=>False
 |.next it false=>fK st.h (ev st.t it) K
 |.entry it=>Ym st.h (ev st.t it) fun v=>K v st.h
 |.extract x i=>LA (ev st.t x) i fun v=>K v st.h
 |.call c=>match c.callee with
  |.builtin b=>FN cx o.dst st.h b c.argTypes.toList (c.args.toList.map (ev st.t)) K
  |.value f=>F6 cx dr o.dst st (ev st.t f) (c.args.toList.map (ev st.t)) K
  |_=>False
 |_=>False
def JX(ops:List Oper)(j:Nat):Option Nat:=match ops with | []=>none | o::r=>match j with | 0=>o.dst | j+1=>JX r j
def gm(cx:Cx)(o:Oper)(st:St):St :=
 match o.dst with
 |none=>st
 |some d=>match oA cx.pl.tz d with
  |some (r,k,j,sz)=>⟨st.t,sa st.h r k j sz⟩
  |none=>match lI cx.pl.fz d with
   | []=>st
   |l=>⟨st.t,Og st.h l⟩
def sf(cx:Cx)(o:Oper)(st:St)(K:St→Prop):Prop :=
 match o.dst with
 |none=>K st
 |some d=>match Gq cx.pl.ak d with
  |none=>K st
  |some s=>match st.t s with
   |.msl r n=>match st.h r with
    |.arr sz es=>n=es.length∧K ⟨GT st.t s (.slice (.id r sz) es),AS st.h r (.tok sz es.length)⟩
    |_=>K st
   |_=>K st
def dh(cx:Cx)(dr:Bool)(o:Oper)(st:St)(K:St→Prop):Prop :=
 match dr with
 |true=>FF cx true o st fun v h=>K (st.put o.dst v h)
 |false=>sf cx o (gm cx o st) fun D5=>FF cx false o D5 fun v h=>K (D5.put o.dst v h)
def GX(cx:Cx)(dr:Bool)(all:List Oper)(o:Oper)(st:St)(K:St→Prop):Prop :=
 match o.guard with
 |none=>dh cx dr o st K
 |some (j,want)=>match JX all j with
  |none=>False
  |some d=>match st.t d,want with
   |.v (.bool true),true=>dh cx dr o st K
   |.v (.bool false),false=>dh cx dr o st K
   |.v (.bool true),false=>K (st.put o.dst (.v undef) st.h)
   |.v (.bool false),true=>K (st.put o.dst (.v undef) st.h)
   |.v (.tuple _),_=>K (st.put o.dst (.v undef) st.h)
   |_,_=>False
def Sx(o o2:Oper):Bool :=
 match o2.op with
 |.call c=>match c.callee with
  |.builtin .clear=>match o.op with
   |.slice ty _ (some _) none none=>match o.dst,o2.dst,c.args.toList,c.argTypes.toList,o.guard,o2.guard with
    |some d,none,[.tmp d'],[xU],none,none=>Nat.beq d d'&&Nat.beq ty xU
    |_,_,_,_,_,_=>false
   |_=>false
  |_=>false
 |_=>false
def oZ(d:Nat)(st:St)(r i sz:Nat)(es:List (List AV))(z:List Value)(K:St→Prop):Prop :=
 match z.all Value.oneCell' with
 |true=>K ⟨GT st.t d .junk,AS st.h r (.arr sz (es.take i++List.replicate (es.length-i) (z.map AV.v)))⟩
 |false=>False
def aI(cx:Cx)(o:Oper)(st:St)(K:St→Prop):Prop :=
 match o.op with
 |.slice ty x (some lo) none none=>match o.dst with
  |some d=>match(cx.T ty).d with
   |.slice e=>match ev st.t x with
    |.msl r n=>match ev st.t lo with
     |.v (.int .i64 i)=>match st.h r with
      |.arr sz es=>match Nat.beq sz (cx.T e).size with
       |true=>match(cx.T e).size with
        |0=>False
        |_+1=>match Nat.beq (cx.T e).zc.length sz with
         |true=>(n=es.length∧0≤i∧i≤es.length)∧oZ d st r i.toNat sz es (cx.T e).zc K
         |false=>False
       |false=>False
      |_=>False
     |_=>False
    |_=>False
   |_=>False
  |none=>False
 |_=>False
def TE(cx:Cx)(all l:List Oper)(st:St)(K:St→Prop):Prop :=
 match l with
 | []=>K st
 | [o]=>GX cx false all o st K
 |o::o2::r=>match Sx o o2 with
  |true=>aI cx o st fun D5=>TE cx all r D5 K
  |false=>GX cx false all o st fun D5=>TE cx all (o2::r) D5 K
def TP:AV→List Nat
 |.ref r _=>[r]
 |.mref r=>[r]
 |_=>[]
def jr:List AV→List Nat
 | []=>[]
 |a::r=>TP a++jr r
def TQ:AV→List Nat
 |.agg cs=>jr cs
 |.clo _ cs=>jr cs
 |a=>TP a
def mS:List AV→List Nat
 | []=>[]
 |a::r=>TQ a++mS r
def Wi:AV→List Nat
 |.agg cs=>mS cs
 |a=>TQ a
def So:List AV→List Nat
 | []=>[]
 |a::r=>Wi a++So r
abbrev Fl:=List Nat×Option Nat
def Ik(d:Option Nat)(l:List Nat):Option Fl:=match d with | some d=>some (d::l,some d) | none=>none
def bE:AV→List Nat
 |.msl r _=>[r]
 |_=>[]
def Vu(cx:Cx)(d:Option Nat)(s x:AV):Option Fl :=
 match s with
 |.v (.slice none 0 0)=>Ik (d.map (Kj cx)) (bE x)
 |.slice (.full _) _=>Ik (d.map (Kj cx)) (bE x)
 |.slice (.id r _) _=>Ik (some r) (bE x)
 |.msl r _=>Ik (some r) (bE x)
 |_=>none
def Zk(d:Option Nat)(args:List AV):Option Fl :=
 match d with
 |some d=>match args with
  |.msl r _::_=>some ([r,Bo d 0],some (r+10000000*Bo d 0))
  |_=>none
 |none=>none
theorem Yq{d:Option Nat}{args:List AV}{f:Fl}(h:Zk d args=some f):∃d' r n l,d=some d'∧args=.msl r n::l∧f=([r,Bo d' 0],some (r+10000000*Bo d' 0)):=by
 unfold Zk at h;split at h
 ·split at h
  ·cases h;exact⟨_,_,_,_,rfl,rfl,rfl⟩
  ·cases h
 ·cases h
def dP(d:Option Nat)(x:AV):Option Fl :=
 match d with
 |some d=>match x with
  |.msl r _=>some ([r,d],some (r+10000000*d))
  |_=>none
 |none=>none
theorem Yr{d:Option Nat}{x:AV}{f:Fl}(h:dP d x=some f):∃d' r n,d=some d'∧x=.msl r n∧f=([r,d'],some (r+10000000*d')):=by
 unfold dP at h;split at h
 ·split at h
  ·cases h;exact⟨_,_,_,rfl,rfl,rfl⟩
  ·cases h
 ·cases h
def dQ(args:List AV):Option Fl:=match UY args with | some _=>some ([1000,1001],some 10010001000) | none=>none
def Vd:Nat:=99999999999999
def dO(k:Nat)(d:Option Nat)(args:List AV):Option Fl :=
 match Nat.beq k 3 with
 |true=>some (iV,some Vd)
 |false=>Zk d args
def GE(cx:Cx)(d:Option Nat)(c:Callee)(t:Nat→AV)(args:List AV):Option Fl :=
 match c,args with
 |.builtin .len,[.mref r]=>some ([r],none)
 |.builtin .len,[_]=>some ([],none)
 |.builtin .max,_=>some ([],none)
 |.builtin .min,_=>some ([],none)
 |.builtin .append,[s,x]=>Vu cx d s x
 |.value f,args=>match M4 cx.pl.dc d with
  |none=>some (Wi (ev t f)++So args,none)
  |some 0=>Ik (d.map fun d=>Bo d 0) (Wi (ev t f)++So args)
  |some 1=>match args with |.msl r _::_=>some ([r],some r) |_=>none
  |some (k+2)=>match Nat.beq k 1 with
   |true=>Ik (d.map fun d=>Bo d 0) (Wi (ev t f)++So args)
   |false=>match Nat.beq k 2 with
    |true=>dQ args
    |false=>dO k d args
 |_,_=>none
def E5(cx:Cx)(o:Oper)(st:St):Option Fl :=
 match o.op with
 |.move _ |.pick .. |.nilCheck _ |.unOp .. |.convert .. |.fieldAddr .. |.field .. |.indexAddr .. |.index .. |.extract .. |.build ..=>some ([],none)
 |.binOp _ _ x _ _=>match ev st.t x with |.slice ..=>none |_=>some ([],none)
 |.assign x=>match ev st.t x with |.v (.slice ..)=>none |_=>some ([],none)
 |.load _ p=>match ev st.t p with |.cptr _=>some ([],none) |.ref r _=>some ([r],none) |.eref r ..=>some ([r],none) |_=>none
 |.call c=>GE cx o.dst c.callee st.t (c.args.toList.map (ev st.t))
 |.alloc _=>Ik o.dst []
 |.box _ x=>Ik o.dst (Wi (ev st.t x))
 |.buildSlice _ _ ps=>Ik (o.dst.map (Kj cx)) (So (ps.toList.map fun p=>ev st.t p.2))
 |.store _ p x=>match ev st.t p with
  |.ref r _=>match Iy cx.pl.frz r with |true=>none |false=>Ik (some r) []
  |.eref r ..=>Ik (some r) (Wi (ev st.t x))
  |_=>none
 |.slice _ x _ _ mx=>match M4 cx.pl.tok o.dst with
  |some _=>dP (o.dst.map (Kj cx)) (ev st.t x)
  |none=>match mx,ev st.t x with
   |none,.msl ..=>none
   |none,_=>some ([],none)
   |some _,.slice ..=>Ik o.dst []
   |_,_=>none
 |.makeFunc _ _ cap=>some (So (cap.toList.map (ev st.t)),none)
 |.mapUpdate _ m _ x=>match ev st.t m with |.mref r=>Ik (some r) (Wi (ev st.t x)) |_=>none
 |.makeSlice ..=>Ik (o.dst.map (Kj cx)) []
 |.lookup _ m _ _=>match ev st.t m with |.cmap ..=>some ([],none) |.mref r=>some ([r],none) |_=>none
 |.makeMap ..=>Ik o.dst []
 |_=>none
def MS(cx:Cx)(all:List Oper)(o:Oper)(st:St):Option Fl :=
 match o.guard with
 |none=>E5 cx o st
 |some (j,want)=>match JX all j with
  |none=>none
  |some d=>match st.t d,want with
   |.v (.bool true),true=>E5 cx o st
   |.v (.bool false),false=>E5 cx o st
   |_,_=>some ([],none)
def ql(l:List Nat):Bool:=match l with | []=>true | _=>false
def Xy(l:List Nat)(r:Nat):Bool:=bif Nat.beq r Vd then ql l else !Iy l r&&(Nat.blt r 10000000||(!Iy l (r % 10000000)&&!Iy l (r / 10000000)))
def RJ(a b:Fl):Bool :=
 (match a.2 with | some r=>Xy b.1 r | none=>true)&&(match b.2 with | some r=>Xy a.1 r | none=>true)
def Oh(o:Oper)(i:Nat)(D:List Nat):Bool:=o.after.toList.any fun e=>Region.binds .any e&&(Nat.beq e.on i||Iy D e.on)
def Pb(i:Nat)(D:List Nat)(k:Nat):List Oper→List Nat
 | []=>D
 |o::r=>match Oh o i D with
  |true=>Pb i (k::D) (k+1) r
  |false=>Pb i D (k+1) r
def Ti(i:Nat)(D:List Nat)(k:Nat):List Oper→Bool
 | []=>true
 |o::r=>(Oh o i D||!Iy D k)&&Ti i D (k+1) r
def Ig(ops:Array Oper)(oi:Oper)(fi:Fl)(D:List Nat)(k:Nat):List Oper→List Fl→Bool
 |o::r,f::fs=>(Iy D k||(oi.apart ops o&&RJ fi f))&&Ig ops oi fi D (k+1) r fs
 | [],[]=>true
 |_,_=>false
def Lz(ops:Array Oper)(all:List Oper)(k:Nat):List Oper→List Fl→Bool
 |o::r,f::fs =>
  let D:=Pb k [] 0 all
  (o.after.toList.all fun e=>!Region.binds .any e||Nat.blt e.on k)&&Ti k D 0 all&&(D.all fun j=>Nat.blt k j&&Nat.blt j all.length)&&Ig ops o f D (k+1) r fs&&Lz ops all (k+1) r fs
 | [],[]=>true
 |_,_=>false
def RK(ops:Array Oper)(fs:List Fl):Bool:=Region.noSelect ops&&Lz ops ops.toList 0 ops.toList fs
def Ws(cx:Cx)(ops:Array Oper)(l:List Oper)(fs:List Fl)(st:St)(K:St→Prop):Prop :=
 match l with
 | []=>RK ops fs.reverse=true∧K st
 |o::r=>match MS cx ops.toList o st with
  |some f=>GX cx true ops.toList o st fun D5=>Ws cx ops r (f::fs) D5 K
  |none=>False
def RN(l:List (Nat×AV))(i:Nat):AV:=match l with | []=>.junk | (j,v)::r=>bif Nat.beq i j then v else RN r i
structure LS where
 t:List (Nat×AV)
 h:List (Nat×HO)
 hb:Nat→HO
def LS.st(s:LS):St:=⟨RN s.t,Aj s.h s.hb⟩
def QK(h:Nat→HO)(r:Nat):Bool:=match h r with | .free=>false | _=>true
def ids0(h:Nat→HO):AV→Bool
 |.slice (.id r _) _=>QK h r
 |.slice (.ver r _ _) _=>QK h r
 |.msl r _=>QK h r
 |.ref r _=>QK h r
 |.eref r _ _ _ _=>QK h r
 |.mref r=>QK h r
 |.agg _ |.tup _ |.clo ..=>false
 |_=>true
def W9(h:Nat→HO):List AV→Bool
 | []=>true
 |a::r=>match ids0 h a with |true=>W9 h r |false=>false
def TR(h:Nat→HO):AV→Bool
 |.agg cs=>W9 h cs
 |.tup cs=>W9 h cs
 |.clo _ cs=>W9 h cs
 |a=>ids0 h a
def Qg(h:Nat→HO):List (Value×AV)→Bool
 | []=>true
 |p::r=>match TR h p.2 with |true=>Qg h r |false=>false
def js(h:Nat→HO):List AV→Bool
 | []=>true
 |a::r=>match TR h a with |true=>js h r |false=>false
def W8(h:Nat→HO):HO→Bool
 |.cells cs=>js h cs
 |.mapU _ BU=>Qg h BU
 |.hol _ _ _ _ a=>TR h a
 |_=>true
def uR(st:St)(h:Nat→HO):List (Nat×AV)→Prop
 | []=>True
 |(j,a)::r=>(st.t j=a∧TR h a=true)∧uR st h r
def uQ(st:St)(h:Nat→HO):List (Nat×HO)→Prop
 | []=>True
 |(j,o)::r=>(st.h j=o∧W8 h o=true)∧uQ st h r
def St.le(cx:Cx)(st:St)(s:LS):Prop :=
 uR st s.st.h s.t∧uQ st s.st.h s.h∧(∀j,s.hb j=.free∨(st.h j=s.hb j∧W8 s.st.h (s.hb j)=true)) ∧
 match cx.ext with
 |false=>True
 |true=>∀j,1000≤j→j<2000→st.h j≠.free→s.st.h j≠.free
def Me(cx:Cx)(ops:Array Oper)(dr:Bool)(st:St)(K:St→Prop):Prop :=
 match dr with
 |false=>TE cx ops.toList ops.toList st K
 |true=>Ws cx ops ops.toList [] st K
inductive Ex | normal | exit (id:Nat) | ret
def so(h:Nat→HO)(o k:Nat)(K:(Nat→HO)→Prop):Prop :=
 match h o with
 |.cells cs=>match IU cs k with
  |.msl r n=>match h r with
   |.arr sz es=>n=es.length∧K (AS (AS h r (.tok sz es.length)) o (.cells (Et cs k (.slice (.id r sz) es))))
   |_=>K h
  |_=>K h
 |_=>K h
def sj(h:Nat→HO)(o k j:Nat)(K:(Nat→HO)→Prop):Prop :=
 match h o with
 |.cells cs=>match IU cs k with
  |.msl r n=>match h r with
   |.arr sz es=>match h j with
    |.free=>n=es.length∧K (AS (AS (AS h r .dead) j (.arr sz es)) o (.cells (Et cs k (.msl j n))))
    |_=>False
   |_=>False
  |_=>False
 |_=>False
def wh(h:Nat→HO)(o k d:Nat)(K:(Nat→HO)→Prop):Prop :=
 match h o with
 |.cells cs=>match IU cs k with
  |.slice (.ver r sz v) es=>match h r with
   |.var Gd v' _=>match h d with
    |.free=>(v=v'∧sz=Gd)∧K (AS (AS (AS h r (.vox v)) d (.tok sz es.length)) o (.cells (Et cs k (.slice (.id d sz) es))))
    |_=>False
   |_=>False
  |_=>K h
 |_=>False
def r4(h:Nat→HO)(o k r:Nat)(K:(Nat→HO)→Prop):Prop :=
 match h o with
 |.cells cs=>match IU cs k with
  |.slice (.id d sz) es=>match h d with
   |.tok Gd n=>match h r with
    |.vox v=>(es.length=n∧sz=Gd)∧K (AS (AS (AS h d .dead) r (.var sz (v+1) n)) o (.cells (Et cs k (.slice (.ver r sz (v+1)) es))))
    |_=>False
   |_=>False
  |_=>K h
 |_=>False
def uS(h:Nat→HO)(r:Nat)(K:(Nat→HO)→Prop):Prop :=
 match h r with
 |.free=>K (AS h r (.vox 0))
 |_=>False
def rZ(h:Nat→HO)(o k:Nat)(K:(Nat→HO)→Prop):Prop :=
 match h o with
 |.cells cs=>match IU cs k with
  |.mref r=>match h r with
   |.rom sh BU=>K (AS h o (.cells (Et cs k (.cmap sh BU))))
   |_=>False
  |_=>False
 |_=>False
def wt(h:Nat→HO)(o k j sz:Nat)(K:(Nat→HO)→Prop):Prop :=
 match h o with
 |.cells cs=>match IU cs k with
  |.v (.slice none 0 0)=>match h j with
   |.free=>K (AS (AS h j (.arr sz [])) o (.cells (Et cs k (.msl j 0))))
   |_=>False
  |_=>False
 |_=>False
def tg(cx:Cx)(id:Nat)(h:Nat→HO)(K:(Nat→HO)→Prop):Prop :=
 match Gq cx.pl.ak (850000+id)with
 |some v=>K (dT h v)
 |none=>K h
def rY(cx:Cx)(id:Nat)(h:Nat→HO)(K:(Nat→HO)→Prop):Prop :=
 match Gq cx.pl.ak (800000+id)with
 |some v=>rZ h (v % 10000) (v / 10000 % 100) K
 |none=>K h
def qC(cx:Cx)(id:Nat)(h:Nat→HO)(K:(Nat→HO)→Prop):Prop :=
 match Gq cx.pl.ak (810000+id)with
 |some v=>rZ h (v % 10000) (v / 10000 % 100) K
 |none=>K h
def oq(cx:Cx)(id:Nat)(h:Nat→HO)(K:(Nat→HO)→Prop):Prop :=
 match Gq cx.pl.ak (900000+id)with
 |some v=>wt h (v % 10000) (v / 10000 % 100) (v / 1000000 % 10000) (v / 10000000000) K
 |none=>K h
def un(h:Nat→HO)(r:Nat)(K:(Nat→HO)→Prop):Prop :=
 match h r with
 |.hol sz es i c (.msl j m)=>match Nat.beq r j with
  |true=>False
  |false=>match h j with
   |.arr Z0 qs=>m=qs.length∧∃cs,es[i]?=some cs∧c<sz∧K (AS (AS (AS h j (.tok Z0 qs.length)) j .dead) r (.arr sz (es.set i (over cs c [.slice .none qs]))))
   |_=>False
 |_=>False
def nD(cx:Cx)(id:Nat)(h:Nat→HO)(K:(Nat→HO)→Prop):Prop :=
 match Gq cx.pl.ak (500000+id)with
 |some v=>wh h (v % 10000) (v / 10000 % 100) (v / 1000000) K
 |none=>match Gq cx.pl.ak (600000+id)with
  |some v=>r4 h (v % 10000) (v / 10000 % 100) (v / 1000000) K
  |none=>match Gq cx.pl.ak (700000+id)with
   |some v=>uS h v K
   |none=>match Gq cx.pl.ak (950000+id)with
    |some v=>un h v K
    |none=>tg cx id h fun h=>rY cx id h fun h=>qC cx id h fun h=>oq cx id h K
def sn(st:St)(s k:Nat)(K:St→Prop):Prop :=
 match st.t s with
 |.msl r n=>match st.h r with
  |.arr sz es=>match k with
   |0=>n=es.length∧K ⟨GT st.t s (.slice .none es),AS (AS st.h r (.tok sz es.length)) r .dead⟩
   |k+1=>match Nat.beq r (k+1)with
    |true=>K st
    |false=>match st.h (k+1)with
     |.free=>n=es.length∧K ⟨GT st.t s (.msl (k+1) n),AS (AS st.h r .dead) (k+1) (.arr sz es)⟩
     |_=>False
  |_=>K st
 |_=>K st
def o0(cx:Cx)(id:Nat)(st:St)(K:St→Prop):Prop :=
 match Iy cx.pl.cut id with
 |true=>match Gq cx.pl.ak (100000+id)with
  |none=>match Gq cx.pl.ak (200000+id)with
   |none=>match Gq cx.pl.ak (300000+id)with
    |none=>nD cx id st.h fun h'=>∃s:LS,St.le cx ⟨st.t,h'⟩ s∧K s.st
    |some v=>sj st.h (v % 10000) (v / 10000 % 100) (v / 1000000) fun h'=>∃s:LS,St.le cx ⟨st.t,h'⟩ s∧K s.st
   |some v=>sn st (v % 1000) (v / 1000) fun D5=>∃s:LS,St.le cx D5 s∧K s.st
  |some v=>so st.h (v % 1000) (v / 1000) fun h'=>∃s:LS,St.le cx ⟨st.t,h'⟩ s∧K s.st
 |false=>K st
def QA(cx:Cx)(c:Code)(Q:Ex→St→Prop)(st:St):Prop :=
 match c with
 |.skip=>Q .normal st
 |.label _=>Q .normal st
 |.region id ops dr=>o0 cx id st fun st=>match cx.pl.dyn with
  | []=>Me cx ops dr st (Q .normal)
  |_=>∃n,Me { cx with nid:=n } ops dr st (Q .normal)
 |.seq a b=>QA cx a (fun e D5=>match e with |.normal=>QA cx b Q D5 |e=>Q e D5) st
 |.cond c a b=>match ev st.t c with
  |.v (.bool true)=>QA cx a Q st
  |.v (.bool false)=>QA cx b Q st
  |_=>False
 |.block id c=>QA cx c (fun e D5=>match e with |.exit j=>(bif Nat.beq j id then Q .normal D5 else Q (.exit j) D5) |e=>Q e D5) st
 |.loop c=>∃(α:Type) (I:α→LS) (μ:α→Nat),(∃x,St.le cx st (I x)) ∧
   ∀x,QA cx c (fun e D5=>match e with | .normal=>∃y,μ y<μ x∧St.le cx D5 (I y) | e=>Q e D5) (I x).st
 |.exit id=>Q (.exit id) st
 |.ret=>Q .ret st
 |_=>False
def N2:List AV→Nat→AV
 | [],_=>.v undef
 |a::r,n=>match n with |0=>a |n+1=>N2 r n
def jQ(T:Gg)(st:St):List ResultVar→(List AV→Prop)→Prop
 | [],K=>K []
 |.tmp i::r,K=>jQ T st r fun l=>K (str st.h (st.t i)::l)
 |.cell a t::r,K=>HY T st.h t (st.t a) fun v=>jQ T st r fun l=>K (str st.h v::l)
def jO(cx:Cx)(st:St)(rs:List ResultVar)(K:AV→Prop):Prop :=
 jQ cx.T ⟨st.t,Og st.h cx.pl.fin⟩ rs fun
  | [v]=>K v
  |vs=>K (.tup vs)
def mc(cx:Cx)(rs:List ResultVar)(K:AV→Prop)(e:Ex)(st:St):Prop :=
 match e with
 |.normal=>jO cx st rs K
 |.ret=>jO cx st rs K
 |.exit _=>False
def jR(T:Gg)(st:St):List ResultVar→(List AV→Prop)→Prop
 | [],K=>K []
 |.tmp i::r,K=>jR T st r fun l=>K (st.t i::l)
 |.cell a t::r,K=>HY T st.h t (st.t a) fun v=>jR T st r fun l=>K (v::l)
def bU(cx:Cx)(st:St)(rs:List ResultVar)(σ:IM)(Q:AV→(Nat→HO)→Prop):Prop :=
 jR cx.T ⟨st.t,Og st.h cx.pl.fin⟩ rs fun
  | [v]=>Q (ren (Ce σ) (Og st.h cx.pl.fin) v) (Fr σ (Og st.h cx.pl.fin))
  |vs=>Q (ren (Ce σ) (Og st.h cx.pl.fin) (.tup vs)) (Fr σ (Og st.h cx.pl.fin))
def WH(cx:Cx)(rs:List ResultVar)(σ:IM)(Q:AV→(Nat→HO)→Prop)(e:Ex)(st:St):Prop :=
 match e with
 |.normal=>bU cx st rs σ Q
 |.ret=>bU cx st rs σ Q
 |.exit _=>False
def Ij(σ:IM):List (Nat×HO)→Bool
 | []=>true
 |(i,_)::r=>Nat.ble 1000 i&&Nat.blt i 2000&&(match Ce σ i with |some j=>Nat.beq j i |none=>false)&&Ij σ r
end Go.Eng
