/- Lemmas for the claims of this seat, without a condition: part 5 (EngA). -/
import Derived.Test.YtkmnnpmneamgoaaGreatDoorA00
import Derived.WalkKit
import Derived.Still
import Derived.RangeFuncSeq
import Derived.OrdersIn
import Derived.TacticsIn
namespace Go.Eng

inductive Tk | none | full (sz:Nat) | id (r sz:Nat) | ver (r sz v:Nat)

inductive KS | int (k:IntKind) | str | bool
structure ES where
 agg:Bool
 l:List KS

inductive AV
 |v (x:Value)
 |slice (tk:Tk) (es:List (List AV))
 |msl (r n:Nat)
 |agg (cs:List AV)
 |tup (vs:List AV)
 |cptr (cs:List AV)
 |ref (r off:Nat)
 |eref (r n sz i off:Nat)
 |mref (r:Nat)
 |cmap (sh:ES) (Cb:List (Value×AV))
 |clo (f:Nat) (caps:List AV)
 |junk

inductive HO
 |free
 |dead
 |cells (cs:List AV)
 |ro (cs:List AV)
 |tok (sz n:Nat)
 |var (sz v n:Nat)
 |vox (v:Nat)
 |arr (sz:Nat) (es:List (List AV))
 |map (sh:ES) (Cb:List (Value×AV))
 |mapU (sh:ES) (Cb:List (Value×AV))
 |rom (sh:ES) (Cb:List (Value×AV))
 |iter (all rem:List (Value×AV)) (F9:Option (Value×AV))

structure St where
 t:Nat→AV
 h:Nat→HO

def Aa:Nat→HO:=fun _=>.free
def AZ(h:Nat→HO)(r:Nat)(o:HO):Nat→HO:=fun i=>bif Nat.beq i r then o else h i
def H3(t:Nat→AV)(d:Nat)(v:AV):Nat→AV:=fun i=>bif Nat.beq i d then v else t i
def St.put(st:St)(d:Option Nat)(v:AV)(h:Nat→HO):St :=
 match d with
 |none=>⟨st.t,h⟩
 |some d=>⟨H3 st.t d v,h⟩
def ev(t:Nat→AV):Operand→AV
 |.tmp i=>t i
 |.const v=>.v v
 |.global g=>.v (.pointer (some ⟨g,0,none⟩))
 |.func f=>.v (.func (.func f) #[] #[])

inductive TD
 |int (k:IntKind) |bool |string |slice (e:Nat) |array (n e:Nat) |struct (fs:List (Nat×Nat)) |ptr (e:Nat) |map (k e:Nat) |func |iface |other
structure TI where
 d:TD
 size:Nat
 bytes:Nat
 zero:Value
 eqok:Bool
def TI.zc(i:TI):List Value:=match i.zero with | .agg cs=>cs.toList | v=>[v]
abbrev GT:=Nat→TI

structure QO where
 frz:List Nat
 tok:List (Nat×Nat)
 arr:List (Nat×Nat)
 fz:List (Nat×List Nat)
 fin:List Nat
 mku:List Nat
 dyn:List Nat
 tz:List (Nat×(Nat×Nat×Nat×Nat))
 dc:List (Nat×Nat)
 ak:List (Nat×Nat)
 cut:List Nat

def IU(l:List Nat)(n:Nat):Bool :=
 match l with
 | []=>false
 |x::r=>bif Nat.beq x n then true else IU r n
def EA(l:List (Nat×Nat))(n:Nat):Option Nat :=
 match l with
 | []=>none
 |(x,y)::r=>bif Nat.beq x n then some y else EA r n

def str0(h:Nat→HO):AV→AV
 |.slice _ es=>.slice .none es
 |.ref r off=>match h r with |.ro cs=>.cptr (cs.drop off) |_=>.junk
 |.mref r=>match h r with |.rom sh Cb=>.cmap sh Cb |_=>.junk
 |.v x=>.v x
 |.cptr cs=>.cptr cs
 |.cmap s m=>.cmap s m
 |_=>.junk
def str(h:Nat→HO):AV→AV
 |.agg cs=>.agg (cs.map (str0 h))
 |.clo f cs=>.clo f (cs.map (str0 h))
 |a=>str0 h a
def RH(h:Nat→HO)(Cb:List (Value×AV)):List (Value×AV):=Cb.map fun p=>(p.1,str h p.2)
def gm(h:Nat→HO)(r:Nat):Nat→HO :=
 match h r with
 |.cells cs=>AZ h r (.ro (cs.map (str h)))
 |.map sh Cb=>AZ h r (.rom sh Cb)
 |.mapU sh Cb=>AZ h r (.rom sh (RH h Cb))
 |_=>h
def NU(h:Nat→HO):List Nat→Nat→HO
 | []=>h
 |r::l=>NU (gm h r) l
def nM(l:List (Nat×List Nat))(n:Nat):List Nat :=
 match l with
 | []=>[]
 |(x,y)::r=>bif Nat.beq x n then y else nM r n
def qF(l:List (Nat×(Nat×Nat×Nat×Nat)))(n:Nat):Option (Nat×Nat×Nat×Nat) :=
 match l with
 | []=>none
 |(x,y)::r=>bif Nat.beq x n then some y else qF r n
def Jf(l:List AV)(n:Nat):AV :=
 match l with
 | []=>.junk
 |x::r=>match n with |0=>x |n+1=>Jf r n
def EM(cs:List AV)(o:Nat)(v:AV):List AV :=
 match cs with
 | []=>[]
 |c::cs=>match o with |0=>v::cs |o+1=>c::EM cs o v
def ux(h:Nat→HO)(r k j sz:Nat):Nat→HO :=
 match h r with
 |.cells cs=>match Jf cs k with
  |.v (.slice none 0 0)=>match h j with
   |.free=>AZ (AZ h j (.tok sz 0)) r (.cells (EM cs k (.slice (.id j sz) [])))
   |_=>h
  |_=>h
 |_=>h
def rsv(h:Nat→HO):AV→AV
 |.ref r off=>match h r with |.ro cs=>.cptr (cs.drop off) |_=>.ref r off
 |.mref r=>match h r with |.rom sh Cb=>.cmap sh Cb |_=>.mref r
 |a=>a

def one:AV→Bool
 |.v x=>x.oneCell'
 |.agg _ |.tup _ |.junk=>false
 |_=>true
def If:List AV→Bool
 | []=>true
 |a::r=>match one a with |true=>If r |false=>false
def tQ:AV→List AV
 |.agg cs=>cs
 |a=>[a]

def A9(a:Int):Prop:=-9223372036854775808≤a∧a<9223372036854775808

def Mr(cs:List AV)(K:AV→Prop):Prop :=
 match cs with
 |a::_=>K a
 | []=>False
def I1(p:Prop)(K:AV→Prop):Prop:=(p→K (.v (.bool true)))∧(¬p→K (.v (.bool false)))
def Mw(T:GT)(t:Nat)(cs:List AV)(K:AV→Prop):Prop :=
 match(T t).d with
 |.struct _=>(T t).size≤cs.length∧K (.agg (cs.take (T t).size))
 |.array _ _=>(T t).size≤cs.length∧K (.agg (cs.take (T t).size))
 |.bool=>Mr cs fun |.v (.bool b)=>(b=true→K (.v (.bool true)))∧(b=false→K (.v (.bool false))) |_=>False
 |.other=>False
 |_=>Mr cs K

def kO:List AV→List AV→Prop
 | [],[]=>True
 |.v (.int _ a)::r,.v (.int _ b)::s=>a=b∧kO r s
 |.v (.string a)::r,.v (.string b)::s=>a=b∧kO r s
 |.v (.bool a)::r,.v (.bool b)::s=>a=b∧kO r s
 |_,_=>False
def qr:IntKind→IntKind→Bool
 |.i64,.i64 |.u8,.u8 |.u32,.u32 |.i32,.i32 |.u64,.u64 |.u16,.u16 |.i16,.i16 |.i8,.i8=>true
 |_,_=>false
def NS(f:Nat→Option (List KS)):Nat→List (Nat×Nat)→Option (List KS)
 |_,[]=>some []
 |n,(t,o)::r=>match Nat.beq o n with
  |true=>match f t with
   |some a=>match NS f (n+a.length) r with
    |some b=>some (a++b)
    |none=>none
   |none=>none
  |false=>none
def HG(T:GT):Nat→Nat→Option (List KS)
 |0,_=>none
 |n+1,t=>match(T t).d with
  |.int k=>match(T t).size with |1=>some [.int k] |_=>none
  |.string=>match(T t).size with |1=>some [.str] |_=>none
  |.bool=>match(T t).size with |1=>some [.bool] |_=>none
  |.struct fs=>match(T t).eqok with
   |true=>match NS (HG T n) 0 fs with
    |some l=>match Nat.beq l.length (T t).size with |true=>some l |false=>none
    |none=>none
   |false=>none
  |_=>none
def NC:KS→Value→Bool
 |.int k,.int k' _=>qr k k'
 |.str,.string _=>true
 |.bool,.bool _=>true
 |_,_=>false
def Ym:List KS→List AV→Bool
 | [],[]=>true
 |k::r,.v x::s=>match NC k x with |true=>Ym r s |false=>false
 |_,_=>false
def pZ(T:GT)(t:Nat)(x y:AV)(K:AV→Prop):Prop :=
 match(T t).d with
 |.bool=>match x,y with
  |.v (.bool a),.v (.bool b)=>K (.v (.bool (a == b)))
  |_,_=>False
 |.struct _=>match x,y with
  |.agg xs,.agg ys=>match HG T 8 t with
   |some l=>match Ym l xs with
    |true=>match Ym l ys with
     |true=>I1 (kO xs ys) K
     |false=>False
    |false=>False
   |none=>False
  |_,_=>False
 |.slice _=>match x,y with
  |.slice _ es,.v (.slice none 0 0)=>(es≠[]→K (.v (.bool false)))∧(es=[]→K (.v (.bool true))∧K (.v (.bool false)))
  |.v (.slice none 0 0),.v (.slice none 0 0)=>K (.v (.bool true))
  |_,_=>False
 |.ptr _=>match x,y with
  |.v (.pointer none),.v (.pointer none)=>K (.v (.bool true))
  |.cptr _,.v (.pointer none)=>K (.v (.bool false))
  |.ref _ _,.v (.pointer none)=>K (.v (.bool false))
  |.eref _ _ _ _ _,.v (.pointer none)=>K (.v (.bool false))
  |_,_=>False
 |_=>False
def dI(K:AV→Prop):AV→Prop
 |.v (.bool true)=>K (.v (.bool false))
 |.v (.bool false)=>K (.v (.bool true))
 |_=>False
def Zh(op:BinOp)(k:IntKind)(a b:Int)(K:AV→Prop):Prop :=
 match op with
 |.add=>K (.v (.int k (k.wrap (a+b))))
 |.sub=>K (.v (.int k (k.wrap (a-b))))
 |.mul=>K (.v (.int k (k.wrap (a*b))))
 |_=>False
def Su(op:BinOp)(k:IntKind)(a b:Int)(K:AV→Prop):Prop :=
 match k with
 |.i64=>match op with
  |.add=>A9 (a+b)∧K (.v (.int .i64 (a+b)))
  |.sub=>A9 (a-b)∧K (.v (.int .i64 (a-b)))
  |.mul=>A9 (a*b)∧K (.v (.int .i64 (a*b)))
  |.quo=>(0≤a∧0<b∧A9 a)∧K (.v (.int .i64 (a / b)))
  |.rem=>(0≤a∧0<b)∧K (.v (.int .i64 (a % b)))
  |_=>False
 |k=>Zh op k a b K
def Sx(T:GT)(op:BinOp)(t:Nat)(x y:AV)(K:AV→Prop):Prop :=
 match x,y with
 |.v (.int k a),.v (.int k' b)=>match qr k k' with
  |false=>False
  |true=>match op with
   |.eql=>I1 (a=b) K
   |.neq=>I1 (a≠b) K
   |.lss=>I1 (a<b) K
   |.leq=>I1 (a≤b) K
   |.gtr=>I1 (b<a) K
   |.geq=>I1 (b≤a) K
   |op=>Su op k a b K
 |.v (.string a),.v (.string b)=>match op with
   |.eql=>I1 (a=b) K
   |.neq=>I1 (a≠b) K
   |.lss=>I1 (Op.bytesLess a.toList b.toList=true) K
   |.geq=>I1 (Op.bytesLess a.toList b.toList=false) K
   |.gtr=>I1 (Op.bytesLess b.toList a.toList=true) K
   |.leq=>I1 (Op.bytesLess b.toList a.toList=false) K
   |.add=>((a.size+b.size:Nat):Int)≤9223372036854775807∧K (.v (.string (a++b)))
   |_=>False
 |x,y=>match op with
  |.eql=>pZ T t x y K
  |.neq=>pZ T t x y (dI K)
  |_=>False
def Xq(T:GT)(op:BinOp)(t:Nat)(Y:Operand)(x y:AV)(K:AV→Prop):Prop :=
 match Y with
 |.const .nilIface=>match x with
  |.v .nilIface=>match(T t).d with
   |.iface=>match op with
    |.eql=>K (.v (.bool true))
    |.neq=>K (.v (.bool false))
    |_=>False
   |_=>False
  |_=>False
 |_=>Sx T op t x y K
def Xw(T:GT)(s t:Nat)(x:AV)(K:AV→Prop):Prop :=
 match(T s).d,(T t).d,x with
 |.int _,.int .i64,.v (.int _ n)=>A9 n∧K (.v (.int .i64 n))
 |.int _,.int k,.v (.int _ n)=>K (.v (.int k (k.wrap n)))
 |.string,.string,.v (.string s)=>K (.v (.string s))
 |.slice e,.string,.slice _ es=>match(T e).d with
  |.int .u8=>∃l:List UInt8,es=l.map (fun b=>[AV.v (.int .u8 b.toNat)])∧K (.v (.string ⟨l.toArray⟩))
  |_=>False
 |_,_,_=>False
def Wq(fs:List (Nat×Nat))(n:Nat):Option (Nat×Nat) :=
 match fs with
 | []=>none
 |x::r=>match n with |0=>some x |n+1=>Wq r n
def ST(T:GT)(s f:Nat)(x:AV)(K:AV→Prop):Prop :=
 match(T s).d with
 |.struct fs=>match Wq fs f with
  |some (t,o)=>match(T t).size with
   |0=>False
   |_+1=>match x with
    |.cptr cs=>K (.cptr (cs.drop o))
    |.ref r off=>K (.ref r (off+o))
    |.eref r n z i off=>K (.eref r n z i (off+o))
    |_=>False
  |none=>False
 |_=>False
def YM(T:GT)(t:Nat)(cs:List AV)(K:AV→Prop):Prop:=Mw T t cs K
def OL(T:GT)(s f:Nat)(x:AV)(K:AV→Prop):Prop :=
 match(T s).d,x with
 |.struct fs,.agg cs=>match Wq fs f with
  |some (t,o)=>YM T t (cs.drop o) K
  |none=>False
 |_,_=>False
def JB(T:GT)(t:Nat)(x ix:AV)(K:AV→Prop):Prop :=
 match(T t).d,ix with
 |.slice e,.v (.int .i64 i)=>match(T e).size with
  |0=>False
  |_+1=>match x with
   |.slice _ es=>∃cs,(0≤i∧es[i.toNat]?=some cs)∧cs.length=(T e).size∧K (.cptr cs)
   |.msl r n=>(0≤i∧i<n)∧K (.eref r n (T e).size i.toNat 0)
   |_=>False
 |.array n e,.v (.int .i64 i)=>match(T e).size with
  |0=>False
  |_+1=>match x with
   |.cptr cs=>(0≤i∧i<n)∧K (.cptr (cs.drop (i.toNat*(T e).size)))
   |.ref r off=>(0≤i∧i<n)∧K (.ref r (off+i.toNat*(T e).size))
   |_=>False
 |_,_=>False
def Tt(T:GT)(t:Nat)(x ix:AV)(K:AV→Prop):Prop :=
 match(T t).d,x,ix with
 |.string,.v (.string s),.v (.int .i64 i)=>∃b:UInt8,(0≤i∧s.data[i.toNat]?=some b)∧K (.v (.int .u8 b.toNat))
 |.array n e,.agg cs,.v (.int .i64 i)=>(0≤i∧i<n)∧YM T e (cs.drop (i.toNat*(T e).size)) K
 |_,_,_=>False
def Ca(t:Nat→AV):Option Operand→Option (Option Int)
 |none=>some none
 |some x=>match ev t x with |.v (.int .i64 i)=>some (some i) |_=>none
def over{α:Type}(cs:List α)(o:Nat)(vs:List α):List α :=
 match cs with
 | []=>[]
 |c::cs=>match o with
  |o+1=>c::over cs o vs
  |0=>match vs with
   | []=>c::cs
   |v::vs=>v::over cs 0 vs
structure Gh where
 ρ:Nat→Value
 ln:Nat→Nat
 tk:Nat→Bool
 own:Nat→Option Nat
 S:Nat→Nat→Prop

def Jk:List KS→List Value→Bool
 | [],[]=>true
 |k::r,v::s=>match NC k v with |true=>Jk r s |false=>false
 |_,_=>false
def VM(sh:ES)(v:Value):Bool :=
 match sh.agg,v with
 |true,.agg cs=>Jk sh.l cs.toList
 |false,v=>Jk sh.l [v]
 |_,_=>false

def Hl(sh:ES)(es:Array MapEntry)(ck:Nat)(Cb:List (Value×AV)):Prop :=
 es.size=Cb.length∧(∀(i:Nat) (kv:Value×AV) (e:MapEntry),Cb[i]?=some kv→es[i]?=some e→e.key=kv.1) ∧
 (∀kv∈Cb,VM sh kv.1=true)∧(Cb.map (·.1)).Nodup∧(∀(i:Nat) (e:MapEntry),es[i]?=some e→e.born<ck) ∧
 ∀(i j:Nat) (e e' : MapEntry),es[i]?=some e→es[j]?=some e'→e.born=e'.born→i=j

inductive BK(g:Gh)(w:World):(Nat→Prop)→AV→Value→Prop
 |v (U:Nat→Prop) (x:Value):BK g w U (.v x) x
 |junk (U:Nat→Prop) (x:Value):BK g w U .junk x
 |snil (U:Nat→Prop) (a:Option Addr) (cap:Nat):BK g w U (.slice .none []) (.slice a 0 cap)
 |slice (U:Nat→Prop) (es:List (List AV)) (b off sz cap:Nat) (val:Nat→Nat→Value) (hc:es.length≤cap)
   (hl:∀(i:Nat) (cs:List AV),es[i]?=some cs→cs.length=sz)
   (Dk:∀(i:Nat) (cs:List AV) (j:Nat) (av:AV),es[i]?=some cs→cs[j]?=some av →
    g.S b (off+i*sz+j)∧w.cell? ⟨b,off+i*sz+j,none⟩=some (val i j)∧(val i j).oneCell'=true)
   (EF:∀(i:Nat) (cs:List AV) (j:Nat) (av:AV),es[i]?=some cs→cs[j]?=some av→BK g w (fun _=>False) av (val i j)) :
   BK g w U (.slice .none es) (.slice (some ⟨b,off,none⟩) es.length cap)
 |tok (U:Nat→Prop) (r sz:Nat) (es:List (List AV)) (x:Value) (h:BK g w U (.slice .none es) x) (hl:∀c∈es,c.length=sz) (hu:U r) (ht:g.tk r=true) (hn:es.length≤g.ln r)
   (hx:es.length=g.ln r→x=g.ρ r):BK g w U (.slice (.id r sz) es) x
 |ver (U:Nat→Prop) (r sz v:Nat) (es:List (List AV)) (x:Value) (h:BK g w U (.slice .none es) x) (hl:∀c∈es,c.length=sz) (hu:U r) (ht:g.tk r=true) (hn:v≤g.ln r)
   (hx:v=g.ln r→x=g.ρ r):BK g w U (.slice (.ver r sz v) es) x
 |full (U:Nat→Prop) (sz:Nat) (es:List (List AV)) (x:Value) (h:BK g w U (.slice .none es) x) (hl:∀c∈es,c.length=sz) (hx:∃a,x=.slice a es.length es.length):BK g w U (.slice (.full sz) es) x
 |msl (U:Nat→Prop) (r n:Nat) (a:Option Addr) (cap:Nat) (hu:U r) (ht:g.tk r=true) (hn:n≤g.ln r) (ha:n=0∨∃b,a=some ⟨b,0,none⟩) (hx:n=g.ln r→.slice a n cap=g.ρ r) :
   BK g w U (.msl r n) (.slice a n cap)
 |agg (U:Nat→Prop) (cs:List AV) (vs:Array Value) (hs:vs.size=cs.length) (h1:∀(i:Nat) (x:Value),vs[i]?=some x→x.oneCell'=true)
   (h:∀(i:Nat) (av:AV) (x:Value),cs[i]?=some av→vs[i]?=some x→BK g w U av x):BK g w U (.agg cs) (.agg vs)
 |tup (U:Nat→Prop) (cs:List AV) (vs:Array Value) (hs:vs.size=cs.length)
   (h:∀(i:Nat) (av:AV) (x:Value),cs[i]?=some av→vs[i]?=some x→BK g w U av x):BK g w U (.tup cs) (.tuple vs)
 |cptr (U:Nat→Prop) (cs:List AV) (b off:Nat) (val:Nat→Value)
   (Dk:∀(j:Nat) (av:AV),cs[j]?=some av→g.S b (off+j)∧w.cell? ⟨b,off+j,none⟩=some (val j)∧(val j).oneCell'=true)
   (EF:∀(j:Nat) (av:AV),cs[j]?=some av→BK g w (fun _=>False) av (val j)) :
   BK g w U (.cptr cs) (.pointer (some ⟨b,off,none⟩))
 |ref (U:Nat→Prop) (r off b:Nat) (hu:U r) (ht:g.tk r=false) (hx:g.ρ r=.pointer (some ⟨b,0,none⟩)):BK g w U (.ref r off) (.pointer (some ⟨b,off,none⟩))
 |eref (U:Nat→Prop) (r n sz i off b cap:Nat) (hu:U r) (ht:g.tk r=true) (hn:i<n∧n≤g.ln r) (hx:n=g.ln r→g.ρ r=.slice (some ⟨b,0,none⟩) n cap) :
   BK g w U (.eref r n sz i off) (.pointer (some ⟨b,i*sz+off,none⟩))
 |mref (U:Nat→Prop) (r b:Nat) (hu:U r) (ht:g.tk r=false) (hx:g.ρ r=.map (some b)):BK g w U (.mref r) (.map (some b))
 |cmap (U:Nat→Prop) (sh:ES) (Cb:List (Value×AV)) (b:Nat) (es:Array MapEntry) (ck:Nat) (hS:g.S b 0) (hb:w.heap[b]?=some (.map es ck)) (hm:Hl sh es ck Cb)
   (h:∀(i:Nat) (kv:Value×AV) (e:MapEntry),Cb[i]?=some kv→es[i]?=some e→BK g w (fun _=>False) kv.2 e.val):BK g w U (.cmap sh Cb) (.map (some b))
 |clo (U:Nat→Prop) (f:Nat) (cs:List AV) (vs:Array Value) (hs:vs.size=cs.length)
   (h:∀(i:Nat) (av:AV) (x:Value),cs[i]?=some av→vs[i]?=some x→BK g w U av x):BK g w U (.clo f cs) (.func (.func f) #[] vs)

def HO.live:HO→Prop
 |.free |.dead |.vox _ |.ro _ |.rom _ _=>False
 |_=>True
def AM(h:Nat→HO)(r:Nat):Prop:=h r≠.free
def Fp:Nat→Prop:=fun _=>False

def CY(g:Gh)(w:World)(U:Nat→Prop)(cs:List AV)(vs:List Value):Prop :=
 vs.length=cs.length∧(∀x∈vs,x.oneCell'=true)∧∀(i:Nat) (av:AV) (x:Value),cs[i]?=some av→vs[i]?=some x→BK g w U av x

def Ej(g:Gh)(w:World)(U:Nat→Prop)(r:Nat):HO→Prop
 |.free |.dead=>True
 |.cells cs=>g.tk r=false∧∃b E vs,g.own r=some b∧g.ρ r=.pointer (some ⟨b,0,none⟩)∧w.heap[b]?=some (.cells vs E (0,0))∧CY g w U cs vs.toList∧∀o,¬g.S b o
 |.ro cs=>g.tk r=false∧∃b,g.ρ r=.pointer (some ⟨b,0,none⟩)∧BK g w Fp (.cptr cs) (.pointer (some ⟨b,0,none⟩))
 |.tok sz n=>g.tk r=true∧g.ln r=n∧∃a cap,g.ρ r=.slice a n cap∧(n=cap∧g.own r=none ∨
   n≤cap∧∃b E vs off,a=some ⟨b,off,none⟩∧g.own r=some b∧w.heap[b]?=some (.cells vs E (0,0))∧vs.size=off+cap*sz∧∀o,g.S b o→o<off+n*sz)
 |.var sz v n=>g.tk r=true∧g.ln r=v∧∃a cap,g.ρ r=.slice a n cap∧(n=cap∧g.own r=none ∨
   n≤cap∧∃b E vs off,a=some ⟨b,off,none⟩∧g.own r=some b∧w.heap[b]?=some (.cells vs E (0,0))∧vs.size=off+cap*sz∧∀o,g.S b o→o<off+n*sz)
 |.vox v=>g.tk r=true∧g.ln r=v
 |.arr sz es=>g.tk r=true∧g.ln r=es.length∧(∀cs∈es,cs.length=sz)∧(es=[]∧g.ρ r=.slice none 0 0∧g.own r=none ∨
   ∃b cap E vs,g.ρ r=.slice (some ⟨b,0,none⟩) es.length cap∧g.own r=some b∧es.length≤cap∧w.heap[b]?=some (.cells vs E (0,0))∧vs.size=cap*sz ∧
    CY g w Fp es.flatten (vs.toList.take (es.length*sz))∧∀o,¬g.S b o)
 |.map sh Cb=>g.tk r=false∧∃b es ck,g.own r=some b∧g.ρ r=.map (some b)∧w.heap[b]?=some (.map es ck)∧Hl sh es ck Cb ∧
   (∀(i:Nat) (kv:Value×AV) (e:MapEntry),Cb[i]?=some kv→es[i]?=some e→BK g w Fp kv.2 e.val)∧∀o,¬g.S b o
 |.mapU sh Cb=>g.tk r=false∧∃b es ck,g.own r=some b∧g.ρ r=.map (some b)∧w.heap[b]?=some (.map es ck)∧Hl sh es ck Cb ∧
   (∀(i:Nat) (kv:Value×AV) (e:MapEntry),Cb[i]?=some kv→es[i]?=some e→BK g w U kv.2 e.val)∧∀o,¬g.S b o
 |.rom sh Cb=>g.tk r=false∧∃b,g.ρ r=.map (some b)∧BK g w Fp (.cmap sh Cb) (.map (some b))
 |.iter all rem F9=>g.tk r=false∧∃b mb Kc seen st es ck,g.own r=some b∧g.ρ r=.pointer (some ⟨b,0,none⟩)∧w.heap[b]?=some (.mapIter (some mb) Kc seen st) ∧
   g.S mb 0∧w.heap[mb]?=some (.map es ck)∧(∃sh,Hl sh es ck all)∧Kc=ck∧st=ck ∧
   (∀(i:Nat) (kv:Value×AV) (e:MapEntry),all[i]?=some kv→es[i]?=some e→BK g w Fp kv.2 e.val) ∧
   (rem.Nodup∧∀kv∈rem,kv∈all)∧(∀(i:Nat) (kv:Value×AV) (e:MapEntry),all[i]?=some kv→es[i]?=some e→(kv∈rem↔e.born∉seen)) ∧
   (match F9 with | none=>True | some kv=>∃(i:Nat) (e:MapEntry),all[i]?=some kv∧es[i]?=some e∧seen.back?=some e.born)∧∀o,¬g.S b o

def gB:Nat:=0
def ri:List (Nat×Nat×Option Value):=[]
def V7(g:Gh)(w:World):Prop:=(g.S gB 0∧∃m,w.cell? ⟨gB,0,none⟩=some (.int .i64 m))∧∀x∈ri,g.S x.1 x.2.1∧w.cell? ⟨x.1,x.2.1,none⟩=x.2.2
structure DF(w0:World)(g0:Gh)(h0:Nat→HO)(h:Nat→HO)(g:Gh)(w:World):Prop where
 os:w.os=w0.os
 tape:w.tape=w0.tape
 output:w.output=w0.output
 size:w0.heap.size≤w.heap.size
 frame:∀b,b<w0.heap.size→(∀r,(h0 r).live→g0.own r≠some b)→w.heap[b]?=w0.heap[b]?
 slt:∀b o,g.S b o→b<w.heap.size
 objs:∀r,Ej g w (AM h) r (h r)
 inj:∀r r' b,(h r).live→(h r').live→g.own r=some b→g.own r'=some b→r=r'
 loc:∀r b,(h r).live→g.own r=some b→b<w.heap.size∧(w0.heap.size≤b∨∃r',(h0 r').live∧g0.own r'=some b)
 sg:∀b o,g.S b o→g0.S b o∨w0.heap.size≤b∨∃r',(h0 r').live∧g0.own r'=some b
 glob:V7 g w

def E5(g:Gh)(w:World)(g' : Gh)(w' : World):Prop :=
 ∀b o,g.S b o→g'.S b o∧w'.cell? ⟨b,o,none⟩=w.cell? ⟨b,o,none⟩∧∀es ck,w.heap[b]?=some (.map es ck)→w'.heap[b]?=some (.map es ck)
def Ke(g g' : Gh)(U:Nat→Prop):Prop :=
 ∀i,U i→g'.tk i=g.tk i∧g.ln i≤g'.ln i∧(g.tk i=false→g'.ρ i=g.ρ i)∧(g'.ln i=g.ln i→g'.ρ i=g.ρ i)

structure Le(h:Nat→HO)(g:Gh)(w:World)(h' : Nat→HO)(g' : Gh)(w' : World):Prop where
 gh:Ke g g' (AM h)
 us:∀i,AM h i→AM h' i
 keeps:E5 g w g' w'

def Gi (P : Program) (f : Nat) : Prop := ∃ fn, P.funcs[f]? = some fn ∧ (fn.name == "runtime.NumGoroutine") = false ∧ fn.body.isNone = false

def Bo(P:Program)(f:Nat)(args:List AV)(h0:Nat→HO)(Q:AV→(Nat→HO)→Prop):Prop :=
 Gi P f∧∀(g:Gh) (w:World) (vals:Array Value),vals.size=args.length→(∀(i:Nat) (av:AV) (x:Value),args[i]?=some av→vals[i]?=some x→BK g w (AM h0) av x) →
  DF w g h0 h0 g w →
  Calls P f vals w fun e w'=>∃v r h' g',e=.returned v∧Q r h'∧BK g' w' (AM h') r v∧DF w g h0 h' g' w'∧Le h0 g w h' g' w'

def LG(P:Program)(f:Nat)(args:List AV)(res:AV):Prop:=Bo P f args Aa fun r h'=>r=res∧h'=Aa

def GR(P:Program)(Y:Gh→World→Prop)(l:Nat)(args:List AV)(h0:Nat→HO)(Q:AV→(Nat→HO)→Prop):Prop :=
 ∀(g:Gh) (w:World) (vals:Array Value),vals.size=args.length→(∀(i:Nat) (av:AV) (x:Value),args[i]?=some av→vals[i]?=some x→BK g w (AM h0) av x) →
  DF w g h0 h0 g w→Y g w →
  YieldAt Fence.wide 0 P l vals w fun e w'=>∃v r h' g',e=.returned v∧Q r h'∧BK g' w' (AM h') r v∧DF w g h0 h' g' w'∧Le h0 g w h' g' w'
def Gx(P:Program)(Y:Gh→World→Prop)(f:Nat)(args:List AV)(h0:Nat→HO)(Q:AV→(Nat→HO)→Prop):Prop :=
 Gi P f∧∀(g:Gh) (w:World) (vals:Array Value),vals.size=args.length→(∀(i:Nat) (av:AV) (x:Value),args[i]?=some av→vals[i]?=some x→BK g w (AM h0) av x) →
  DF w g h0 h0 g w→Y g w →
  Calls P f vals w fun e w'=>∃v r h' g',e=.returned v∧Q r h'∧BK g' w' (AM h') r v∧DF w g h0 h' g' w'∧Le h0 g w h' g' w'
def Gg(P:Program)(Y:Nat→Gh→World→Prop)(F:AV)(args:List AV)(h:Nat→HO)(Q:AV→(Nat→HO)→Prop):Prop :=
 match F with
 |.v (.func (.func f) ⟨[]⟩ ⟨[]⟩)=>Bo P f args h Q
 |.clo f caps=>Bo P f (args++caps) h Q
 |.v (.func (.yield l) ⟨[]⟩ ⟨[]⟩)=>GR P (Y l) l args h Q
 |_=>False
def PB(P:Program)(F:AV)(args:List AV)(res:AV):Prop :=
 match F with
 |.v (.func (.func f) ⟨[]⟩ ⟨[]⟩)=>LG P f args res
 |.clo f caps=>LG P f (args++caps) res
 |_=>False

structure Cx where
 P:Program
 T:GT
 pl:QO
 ext:Bool
 nid:Nat
 yp:Nat→List (Nat×Nat)→Gh→World→Prop
def KJ(cx:Cx)(d:Nat):Nat:=bif IU cx.pl.dyn d then cx.nid else d

abbrev HK:=AV→(Nat→HO)→Prop

def Sq(T:GT)(d:Option Nat)(h:Nat→HO)(e:Nat)(K:HK):Prop :=
 match d with
 |none=>False
 |some d=>match h d with
  |.free=>match(T e).d with
   |.other=>False
   |_=>match If ((T e).zc.map .v)with
    |true=>K (.ref d 0) (AZ h d (.cells ((T e).zc.map .v)))
    |false=>False
  |_=>False
def Hg(n:Nat)(a:AV)(K:List AV→Prop):Prop :=
 match a with
 |.agg cs=>match Nat.beq cs.length n with
  |true=>K cs
  |false=>False
 |a=>match one a with
  |true=>match n with
   |1=>K [a]
   |_=>False
  |false=>False
def co(cx:Cx)(d:Option Nat)(h:Nat→HO)(e:Nat)(x:AV)(K:HK):Prop :=
 match d with
 |none=>False
 |some d=>match h d with
  |.free=>match(cx.T e).d with
   |.other=>False
   |_=>Hg (cx.T e).size x fun cs=>match IU cx.pl.frz d with
    |true=>K (.ref d 0) (AZ h d (.ro (cs.map (str h))))
    |false=>K (.ref d 0) (AZ h d (.cells cs))
  |_=>False
def QB(cx:Cx)(h:Nat→HO)(t:Nat)(p x:AV)(K:HK):Prop :=
 match(cx.T t).d with
 |.other=>False
 |_=>Hg (cx.T t).size x fun vs=>match p with
  |.ref r off=>match h r with
   |.cells cs=>off+vs.length≤cs.length∧(match IU cx.pl.frz r with
    |true=>K (.v undef) (AZ h r (.ro ((over cs off vs).map (str h))))
    |false=>K (.v undef) (AZ h r (.cells (over cs off vs))))
   |_=>False
  |.eref r n sz i off=>match h r with
   |.arr GZ es=>match Nat.beq sz GZ with
    |true=>n=es.length∧∃cs,es[i]?=some cs∧off+vs.length≤sz∧K (.v undef) (AZ h r (.arr sz (es.set i (over cs off (vs.map (str h))))))
    |false=>False
   |_=>False
  |_=>False
def IT(T:GT)(h:Nat→HO)(t:Nat)(p:AV)(K:AV→Prop):Prop :=
 match p with
 |.cptr cs=>Mw T t cs K
 |.ref r off=>match h r with
  |.cells cs=>Mw T t (cs.drop off) K
  |.ro cs=>Mw T t (cs.drop off) K
  |_=>False
 |.eref r n sz i off=>match h r with
  |.arr GZ es=>match Nat.beq sz GZ with
   |true=>n=es.length∧∃cs,es[i]?=some cs∧Mw T t (cs.drop off) K
   |false=>False
  |_=>False
 |_=>False
def KL(pl:Nat→Option (Nat×Nat))(cs:List AV)(t:Nat→AV)(ps:List (Nat×Operand))(K:List AV→Prop):Prop :=
 match ps with
 | []=>K cs
 |(i,x)::r=>match pl i with
  |none=>False
  |some (o,n)=>Hg n (ev t x) fun vs=>match Nat.ble (o+n) cs.length with
   |true=>KL pl (over cs o vs) t r K
   |false=>False
def Ox(T:GT):List (Nat×Nat)→Bool
 | []=>true
 |(t,_)::r=>match(T t).size with |0=>false |_+1=>Ox T r
def PH(T:GT)(ty:Nat)(t:Nat→AV)(ps:List (Nat×Operand))(K:AV→Prop):Prop :=
 match If ((T ty).zc.map .v)with
 |false=>False
 |true=>match(T ty).d with
  |.struct fs=>match Ox T fs with
   |false=>False
   |true=>KL (fun i=>match Wq fs i with |some (t,o)=>some (o,(T t).size) |none=>none) ((T ty).zc.map .v) t ps fun cs=>K (.agg cs)
  |.array _ e=>match(T e).size with
   |0=>False
   |_+1=>KL (fun i=>some (i*(T e).size,(T e).size)) ((T ty).zc.map .v) t ps fun cs=>K (.agg cs)
  |_=>False
def QU(n sz:Nat)(h:Nat→HO)(es:List (List AV))(t:Nat→AV)(ps:List (Nat×Operand))(K:List (List AV)→Prop):Prop :=
 match ps with
 | []=>K es
 |(i,x)::r=>match Nat.blt i n with
  |true=>Hg sz (ev t x) fun vs=>QU n sz h (es.set i (vs.map (str h))) t r K
  |false=>False
def EL(cx:Cx)(d:Option Nat)(h:Nat→HO)(sz:Nat)(es:List (List AV))(K:HK):Prop :=
 match d with
 |none=>False
 |some d=>match h (KJ cx d)with
  |.free=>match EA cx.pl.arr d with
   |some _=>K (.msl (KJ cx d) es.length) (AZ h (KJ cx d) (.arr sz es))
   |none=>K (.slice (.id (KJ cx d) sz) es) (AZ h (KJ cx d) (.tok sz es.length))
  |_=>False
def Iz(cx:Cx)(d:Option Nat)(h:Nat→HO)(ty n:Nat)(t:Nat→AV)(ps:List (Nat×Operand))(K:HK):Prop :=
 match(cx.T ty).d with
 |.slice e=>match If ((cx.T e).zc.map .v),Nat.beq (cx.T e).zc.length (cx.T e).size with
  |true,true=>match(cx.T e).size with
   |0=>False
   |_+1=>match Nat.ble (n*(cx.T e).size) 16777216 with
    |true=>QU n (cx.T e).size h (List.replicate n ((cx.T e).zc.map .v)) t ps fun es=>EL cx d h (cx.T e).size es K
    |false=>False
  |_,_=>False
 |_=>False
def KP(t:Nat→AV)(h:Nat→HO)(fn:Fn)(first captured:List Operand)(K:AV→Prop):Prop :=
 match fn,first with
 |.func f,[]=>K (.clo f (captured.map fun x=>rsv h (ev t x)))
 |_,_=>False
def BW(sz:Nat):List (List AV)→Prop
 | []=>True
 |c::r=>c.length=sz∧BW sz r
def Lj(h:Nat→HO)(x:AV)(K:List (List AV)→Prop):Prop :=
 match x with
 |.slice _ es=>K es
 |.v (.slice none 0 0)=>K []
 |.msl r n=>match h r with
  |.arr _ es=>n=es.length∧K es
  |_=>False
 |_=>False
def Io(cx:Cx)(d:Option Nat)(h:Nat→HO)(ty:Nat)(s x:AV)(K:HK):Prop :=
 match(cx.T ty).d with
 |.slice e=>match Nat.beq (cx.T e).zc.length (cx.T e).size with
  |false=>False
  |true=>match(cx.T e).size with
   |0=>False
   |_+1=>Lj h x fun es2=>match s with
    |.v (.slice none 0 0)=>(BW (cx.T e).size es2∧es2.length*(cx.T e).bytes≤140737488355328∧es2.length≤9223372036854775807)∧EL cx d h (cx.T e).size es2 K
    |.slice (.full GZ) es=>match Nat.beq GZ (cx.T e).size with
     |true=>(BW (cx.T e).size es2∧0<es2.length∧(es.length+es2.length)*(cx.T e).bytes≤140737488355328∧es.length+es2.length≤9223372036854775807)∧EL cx d h (cx.T e).size (es++es2) K
     |false=>False
    |.slice (.id r GZ) es=>match h r with
     |.tok sz n=>match Nat.beq sz (cx.T e).size,Nat.beq GZ sz with
      |true,true=>(BW sz es2∧es.length=n∧(es.length+es2.length)*(cx.T e).bytes≤140737488355328∧es.length+es2.length≤9223372036854775807) ∧
        K (.slice (.id r sz) (es++es2)) (AZ h r (.tok sz (es.length+es2.length)))
      |_,_=>False
     |_=>False
    |.msl r n=>match h r with
     |.arr sz es=>match Nat.beq sz (cx.T e).size with
      |true=>(BW sz es2∧es.length=n∧(es.length+es2.length)*(cx.T e).bytes≤140737488355328∧es.length+es2.length≤9223372036854775807) ∧
        K (.msl r (es.length+es2.length)) (AZ h r (.arr sz (es++es2)))
      |false=>False
     |_=>False
    |_=>False
 |_=>False

abbrev Hy:=List (Nat×Nat)
inductive qv | pure | rel | gen (σ:Hy) (nn:Nat) | geny (σ:Hy) (nn:Nat)
def Cr(σ:Hy)(n:Nat):Option Nat :=
 match σ with
 | []=>none
 |(i,j)::r=>bif Nat.beq i n then some j else Cr r n
def GW(σ:Hy)(n:Nat):Option Nat :=
 match σ with
 | []=>none
 |(i,j)::r=>bif Nat.beq j n then some i else GW r n
def Ec:Hy→Bool
 | []=>true
 |(i,j)::r=>(match Cr r i,GW r j with |none,none=>true |_,_=>false)&&Nat.ble 1000 j&&Nat.blt j 2000&&Ec r

def Fb:Hy→Bool
 | []=>true
 |(i,j)::r=>(match Cr r i,GW r j with |none,none=>true |_,_=>false)&&Fb r
def ren0(f:Nat→Option Nat)(h:Nat→HO):AV→AV
 |.slice (.id r sz) es=>match f r with |some r'=>.slice (.id r' sz) es |none=>.slice .none es
 |.slice (.ver r sz v) es=>match f r with |some r'=>.slice (.ver r' sz v) es |none=>.slice .none es
 |.msl r n=>match f r with |some r'=>.msl r' n |none=>.junk
 |.ref r off=>match f r with |some r'=>.ref r' off |none=>str0 h (.ref r off)
 |.eref r n sz i off=>match f r with |some r'=>.eref r' n sz i off |none=>.junk
 |.mref r=>match f r with |some r'=>.mref r' |none=>str0 h (.mref r)
 |a=>str0 h a
def ren1(f:Nat→Option Nat)(h:Nat→HO):AV→AV
 |.agg cs=>.agg (cs.map (ren0 f h))
 |.clo g cs=>.clo g (cs.map (ren0 f h))
 |a=>ren0 f h a
def ren(f:Nat→Option Nat)(h:Nat→HO):AV→AV
 |.tup cs=>.tup (cs.map (ren1 f h))
 |a=>ren1 f h a
def HO.ren(f:Nat→Option Nat)(h:Nat→HO):HO→HO
 |.cells cs=>.cells (cs.map (ren1 f h))
 |.mapU sh Cb=>.mapU sh (Cb.map fun p=>(p.1,ren1 f h p.2))
 |o=>o
def Ag(l:List (Nat×HO))(hb:Nat→HO)(i:Nat):HO:=match l with | []=>hb i | (j,v)::r=>bif Nat.beq i j then v else Ag r hb i
def WX(f:Nat→Option Nat)(h:Nat→HO):Hy→List (Nat×HO)
 | []=>[]
 |(i,j)::r=>(j,(h i).ren f h)::WX f h r
def Fo(σ:Hy)(h:Nat→HO):Nat→HO:=Ag (WX (Cr σ) h σ) Aa
def BB(d k:Nat):Nat:=10000+100*d+k
def Fl(σ:Hy)(d nn:Nat)(j:Nat):Option Nat :=
 match GW σ j with
 |some i=>some i
 |none=>match Nat.ble 2000 j&&Nat.blt j (2000+nn)with |true=>some (BB d (j-2000)) |false=>none
def Eh(σ:Hy)(d nn:Nat)(h h' : Nat→HO):Nat→HO:=fun i =>
 match Cr σ i with
 |some j=>(h' j).ren (Fl σ d nn) h'
 |none=>match Nat.ble (BB d 0) i&&Nat.blt i (BB d nn)with |true=>(h' (2000+(i-BB d 0))).ren (Fl σ d nn) h' |false=>h i
def DE(h:Nat→HO)(d:Nat):Nat→Bool
 |0=>true
 |k+1=>(match h (BB d k)with |.free=>true |_=>false)&&DE h d k
def Dm(σ:Hy)(d nn:Nat):Bool :=
 match σ with
 | []=>true
 |(i,_)::r=>!(Nat.ble (BB d 0) i&&Nat.blt i (BB d nn))&&Dm r d nn

def NN(l:List (Nat×Nat))(d:Option Nat):Option Nat:=match d with | none=>none | some d=>EA l d
def bB:AV→Bool | .tup _=>false | _=>true
def TQ:List AV→Bool
 | []=>true
 |a::r=>match bB a with |true=>TQ r |false=>false
def V2:List AV→Option (List Value)
 | []=>some []
 |.v x::r=>match V2 r with |some l=>some (x::l) |none=>none
 |_=>none
def Rv(cx:Cx)(k:Nat)(d:Option Nat)(h:Nat→HO)(F:AV)(args:List AV)(K:HK):Prop :=
 match d,F,args with
 |some d,.v (.func (.func f) ⟨[]⟩ ⟨[]⟩),.msl r n::l=>match V2 l with
  |some vs=>match h r with
   |.arr sz es=>match k with
    |0=>∃n' ET,Bo cx.P f (.msl 1000 n::vs.map .v) (Ag [(1000,.arr sz es)] Aa) (fun r' h'=>r'=.msl 1000 n'∧h'=Ag [(1000,.arr sz ET)] Aa)∧K (.msl r n') (AZ h r (.arr sz ET))
    |_+1=>∃n' ET,(DE h d 1&&Nat.blt r 10000000&&!Nat.beq r (BB d 0))=true∧Bo cx.P f (.msl 1000 n::vs.map .v) (Ag [(1000,.arr sz es)] Aa) (fun r' h'=>r'=.msl 2000 n'∧h'=Ag [(1000,.dead),(2000,.arr sz ET)] Aa) ∧
      K (.msl (BB d 0) n') (AZ (AZ h r .dead) (BB d 0) (.arr sz ET))
   |_=>False
  |none=>False
 |_,_,_=>False
def Uh(cx:Cx)(d:Option Nat)(st:St)(F:AV)(args:List AV)(K:HK):Prop :=
 match d with
 |none=>False
 |some d=>∃sz es,(DE st.h d 1&&bB F&&TQ args)=true∧Gg cx.P (fun l=>cx.yp l []) (str st.h F) (args.map (str st.h)) Aa (fun r h'=>r=.slice (.id 2000 sz) es∧h'=Ag [(2000,.tok sz es.length)] Aa) ∧
   K (.slice (.id (BB d 0) sz) es) (AZ st.h (BB d 0) (.tok sz es.length))
def QK(cx:Cx)(d:Option Nat)(st:St)(F:AV)(args:List AV)(K:HK):Prop :=
  match d,F,V2 args with
  |some _,.v (.func (.yield l) ⟨[]⟩ ⟨[]⟩),some vs=>match st.h 1000,st.h 1001 with
    |.cells [.slice (.id r sz) es],.tok mF n=>(r=1001∧mF=sz)∧∃v ET n',GR cx.P (cx.yp l [(1000,1000),(1001,1001)]) l (vs.map .v) (Ag [(1000,.cells [.slice (.id 1001 sz) es]),(1001,.tok sz n)] Aa)
          (fun r h'=>r=.v v∧h'=Ag [(1000,.cells [.slice (.id 1001 sz) ET]),(1001,.tok sz n')] Aa) ∧
        K (.v v) (AZ (AZ st.h 1001 (.tok sz n')) 1000 (.cells [.slice (.id 1001 sz) ET]))
    |_,_=>False
  |_,_,_=>False
def kP:List Nat:=[1000,1001,1002,1003,1004,1005,1006,1007]
def XP(cx:Cx)(d:Option Nat)(st:St)(F:AV)(args:List AV)(K:HK):Prop :=
 match d,F with
 |some d,.v (.func (.func f) ⟨[]⟩ ⟨[]⟩)=>∃(σ:Hy) (H0 Hn:List (Nat×HO)) (args' : List AV) (res:AV),
   (∀h2:Nat→HO,(∀r∈kP,h2 r=st.h r)→Fo σ h2=Ag H0 Aa∧args.map (ren (Cr σ) h2)=args')∧(Ec σ&&Dm σ d 0&&σ.all fun p=>IU kP p.1)=true ∧
   Bo cx.P f args' (Ag H0 Aa) (fun r h'=>r=res∧h'=Ag Hn Aa)∧K (ren (Fl σ d 0) (Ag Hn Aa) res) (Eh σ d 0 st.h (Ag Hn Aa))
 |_,_=>False
def Pk(cx:Cx)(k:Nat)(d:Option Nat)(st:St)(F:AV)(args:List AV)(K:HK):Prop :=
 match Nat.beq k 4 with
 |true=>XP cx d st F args K
 |false=>Rv cx k d st.h F args K
def GA(cx:Cx)(dr:Bool)(d:Option Nat)(st:St)(F:AV)(args:List AV)(K:HK):Prop :=
 match dr with
 |true=>match NN cx.pl.dc d with
  |none=>∃res,PB cx.P (str st.h F) (args.map (str st.h)) res∧K res st.h
  |some 0=>match d with
   |none=>False
   |some d=>∃n sz es,(DE st.h d 1&&bB F&&TQ args)=true∧Gg cx.P (fun l=>cx.yp l []) (str st.h F) (args.map (str st.h)) Aa (fun r h'=>r=.msl 2000 n∧h'=Ag [(2000,.arr sz es)] Aa) ∧
     K (.msl (BB d 0) n) (AZ st.h (BB d 0) (.arr sz es))
  |some (k+1)=>match Nat.beq k 2 with
   |true=>Uh cx d st F args K
   |false=>match Nat.beq k 3 with
    |true=>QK cx d st F args K
    |false=>Pk cx k d st F args K
 |false=>∃m:qv,match m with
  |.pure=>∃res,PB cx.P (str st.h F) (args.map (str st.h)) res∧K res st.h
  |.rel=>Gg cx.P (fun _ _ _=>True) (str st.h F) (args.map (str st.h)) Aa fun r h'=>h'=Aa∧K r st.h
  |.gen σ nn=>match d with
   |none=>False
   |some d=>(Ec σ&&DE st.h d nn&&Dm σ d nn)=true ∧
     Gg cx.P (fun l=>cx.yp l σ) (ren (Cr σ) st.h F) (args.map (ren (Cr σ) st.h)) (Fo σ st.h) fun r h'=>K (ren (Fl σ d nn) h' r) (Eh σ d nn st.h h')
  |.geny σ nn=>match d with
   |none=>False
   |some d=>(Ec σ&&DE st.h d nn&&Dm σ d nn)=true ∧
     match ren (Cr σ) st.h F with
     |.clo f caps=>Gx cx.P (fun g w=>∀l,cx.yp l σ g w) f (args.map (ren (Cr σ) st.h)++caps) (Fo σ st.h) fun r h'=>K (ren (Fl σ d nn) h' r) (Eh σ d nn st.h h')
     |_=>False

def W5:List AV→Option (List Value)
 | []=>some []
 |.v x::r=>match W5 r with |some l=>some (x::l) |none=>none
 |_=>none
def o9:AV→Option Value
 |.v x=>some x
 |.agg cs=>match W5 cs with |some l=>some (.agg l.toArray) |none=>none
 |_=>none
def H1(T:GT)(t:Nat):Option ES :=
 match(T t).d with
 |.struct _=>match HG T 8 t with |some l=>some ⟨true,l⟩ |none=>none
 |_=>match HG T 1 t with |some l=>some ⟨false,l⟩ |none=>none
def lH:KS→KS→Bool
 |.int k,.int k'=>qr k k'
 |.str,.str=>true
 |.bool,.bool=>true
 |_,_=>false
def Tz:List KS→List KS→Bool
 | [],[]=>true
 |a::r,b::s=>match lH a b with |true=>Tz r s |false=>false
 |_,_=>false
def pM(a b:ES):Bool :=
 match a.agg,b.agg with
 |true,true=>Tz a.l b.l
 |false,false=>Tz a.l b.l
 |_,_=>false
def Kk(T:GT)(ty:Nat)(sh:ES)(k:AV)(K:Value→Prop):Prop :=
 match(T ty).d with
 |.map kt _=>match H1 T kt with
  |some uv=>match pM sh uv with
   |true=>match o9 k with
    |some kx=>match VM sh kx with
     |true=>K kx
     |false=>False
    |none=>False
   |false=>False
  |none=>False
 |_=>False
open Classical in
noncomputable def Fg(Cb:List (Value×AV))(k:Value)(a:AV):List (Value×AV) :=
 if ∃a',(k,a')∈Cb then Cb.map fun p=>if p.1=k then(k,a)else p else Cb++[(k,a)]
def KQ(T:GT)(mku:List Nat)(d:Option Nat)(h:Nat→HO)(ty:Nat)(K:HK):Prop :=
 match d with
 |none=>False
 |some d=>match h d with
  |.free=>match(T ty).d with
   |.map kt _=>match H1 T kt with
    |some sh=>match IU mku d with
     |true=>K (.mref d) (AZ h d (.mapU sh []))
     |false=>K (.mref d) (AZ h d (.map sh []))
    |none=>False
   |_=>False
  |_=>False
def Hi(T:GT)(h:Nat→HO)(ty:Nat)(m k x:AV)(K:HK):Prop :=
 match m with
 |.mref r=>match h r with
  |.map sh Cb=>Kk T ty sh k fun kx=>K (.v undef) (AZ h r (.map sh (Fg Cb kx (str h x))))
  |.mapU sh Cb=>Kk T ty sh k fun kx=>K (.v undef) (AZ h r (.mapU sh (Fg Cb kx x)))
  |_=>False
 |_=>False
def Kt(T:GT)(t:Nat)(K:AV→Prop):Prop :=
 match(T t).d with
 |.other=>False
 |_=>match(T t).zero with
  |.agg cs=>match If (cs.toList.map .v)with |true=>K (.agg (cs.toList.map .v)) |false=>False
  |z=>K (.v z)
def Mn(T:GT)(ty:Nat)(ok:Bool)(Cb:List (Value×AV))(kx:Value)(K:AV→Prop):Prop :=
 match(T ty).d with
 |.map _ e=>match ok with
  |true=>(∀a,(kx,a)∈Cb→K (.tup [a,.v (.bool true)]))∧((∀a,(kx,a)∉Cb)→Kt T e fun z=>K (.tup [z,.v (.bool false)]))
  |false=>(∀a,(kx,a)∈Cb→K a)∧((∀a,(kx,a)∉Cb)→Kt T e K)
 |_=>False
def Mm(T:GT)(ty:Nat)(ok:Bool)(Cb:List (Value×AV))(kx:Value)(K:AV→Prop):Prop :=
 match(T ty).d with
 |.map _ e=>match ok with
  |true=>(∃a,((kx,a)∈Cb∧∀b,(kx,b)∈Cb→b=a)∧K (.tup [a,.v (.bool true)]))∨((∀a,(kx,a)∉Cb)∧Kt T e fun z=>K (.tup [z,.v (.bool false)]))
  |false=>(∃a,((kx,a)∈Cb∧∀b,(kx,b)∈Cb→b=a)∧K a)∨((∀a,(kx,a)∉Cb)∧Kt T e K)
 |_=>False
def MX(T:GT)(h:Nat→HO)(ty:Nat)(m k:AV)(ok:Bool)(K:AV→Prop):Prop :=
 match m with
 |.cmap sh Cb=>Kk T ty sh k fun kx=>Mm T ty ok Cb kx K
 |.mref r=>match h r with
  |.map sh Cb=>Kk T ty sh k fun kx=>Mm T ty ok Cb kx K
  |.mapU sh Cb=>Kk T ty sh k fun kx=>Mm T ty ok Cb kx K
  |.rom sh Cb=>Kk T ty sh k fun kx=>Mm T ty ok Cb kx K
  |_=>False
 |_=>False
def MY(T:GT)(h:Nat→HO)(ty:Nat)(m k:AV)(ok:Bool)(K:AV→Prop):Prop :=
 match m with
 |.cmap sh Cb=>Kk T ty sh k fun kx=>Mn T ty ok Cb kx K
 |.mref r=>match h r with
  |.map sh Cb=>Kk T ty sh k fun kx=>Mn T ty ok Cb kx K
  |.mapU sh Cb=>Kk T ty sh k fun kx=>Mn T ty ok Cb kx K
  |.rom sh Cb=>Kk T ty sh k fun kx=>Mn T ty ok Cb kx K
  |_=>False
 |_=>False
def aA(d:Option Nat)(h:Nat→HO)(x:AV)(K:HK):Prop :=
 match d with
 |none=>False
 |some d=>match h d with
  |.free=>match x with
   |.cmap _ Cb=>K (.ref d 0) (AZ h d (.iter Cb Cb none))
   |.mref r=>match h r with
    |.rom _ Cb=>K (.ref d 0) (AZ h d (.iter Cb Cb none))
    |.map sh Cb=>K (.ref d 0) (AZ (AZ h r (.rom sh Cb)) d (.iter Cb Cb none))
    |_=>False
   |_=>False
  |_=>False
def iJ(h:Nat→HO)(x:AV)(K:HK):Prop :=
 match x with
 |.ref r 0=>match h r with
  |.iter all rem _=>(rem=[]→K (.tup [.v (.bool false)]) h) ∧
    (∀kv Oa,rem.Perm (kv::Oa)→K (.tup [.v (.bool true),.v kv.1,kv.2]) (AZ h r (.iter all Oa (some kv))))
  |_=>False
 |_=>False
def Zz(h:Nat→HO)(x:AV)(K:AV→Prop):Prop :=
 match x with
 |.ref r 0=>match h r with
  |.iter _ _ (some kv)=>K (.tup [.v kv.1,kv.2])
  |_=>False
 |_=>False
def Rc(T:GT)(t:Nat)(h:Nat→HO)(x:AV)(K:AV→Prop):Prop :=
 match(T t).d with
 |.slice _=>match x with
  |.slice _ es=>K (.v (.int .i64 es.length))
  |.msl _ n=>K (.v (.int .i64 n))
  |.v (.slice none 0 0)=>K (.v (.int .i64 0))
  |_=>False
 |.string=>match x with
  |.v (.string s)=>K (.v (.int .i64 s.size))
  |_=>False
 |.map _ _=>match x with
  |.cmap _ Cb=>K (.v (.int .i64 Cb.length))
  |.mref r=>match h r with
   |.map _ Cb=>K (.v (.int .i64 Cb.length))
   |.mapU _ Cb=>K (.v (.int .i64 Cb.length))
   |.rom _ Cb=>K (.v (.int .i64 Cb.length))
   |_=>False
  |_=>False
 |_=>False
def GH(cx:Cx)(d:Option Nat)(h:Nat→HO)(ty:Nat)(x:AV)(lo hi mx:Option (Option Int))(K:HK):Prop :=
 match lo,hi,mx with
 |some lo,some hi,some mx=>match(cx.T ty).d with
  |.string=>match mx,x with
   |none,.v (.string s)=>(0≤lo.getD 0∧lo.getD 0≤hi.getD s.size∧hi.getD s.size≤s.size)∧K (.v (.string (s.extract (lo.getD 0).toNat (hi.getD s.size).toNat))) h
   |_,_=>False
  |.slice e=>match(cx.T e).size with
   |0=>False
   |_+1=>match x with
    |.slice _ es=>match mx with
     |none=>(0≤lo.getD 0∧lo.getD 0≤hi.getD es.length∧hi.getD es.length≤es.length) ∧
       (∀cs∈es,cs.length=(cx.T e).size)∧K (.slice .none ((es.take (hi.getD es.length).toNat).drop (lo.getD 0).toNat)) h
     |some m=>match d,hi with
      |some d,some hi=>match EA cx.pl.arr d with
       |some _=>(0≤lo.getD 0∧lo.getD 0≤hi∧m=hi∧hi≤es.length)∧(∀cs∈es,cs.length=(cx.T e).size) ∧
         K (.slice (.full (cx.T e).size) ((es.take hi.toNat).drop (lo.getD 0).toNat)) h
       |none=>match h d with
        |.free=>(0≤lo.getD 0∧lo.getD 0≤hi∧m=hi∧hi≤es.length)∧(∀cs∈es,cs.length=(cx.T e).size) ∧
          K (.slice (.id d (cx.T e).size) ((es.take hi.toNat).drop (lo.getD 0).toNat)) (AZ h d (.tok (cx.T e).size (hi.toNat-(lo.getD 0).toNat)))
        |_=>False
      |_,_=>False
    |.v (.slice none 0 0)=>(lo.getD 0=0∧hi.getD 0=0∧mx.getD 0=0)∧(mx=none∨hi≠none)∧K (.v (.slice none 0 0)) h
    |.msl r n=>match h r with
     |.arr sz es=>match Nat.beq sz (cx.T e).size with
      |true=>(n=es.length∧0≤lo.getD 0∧lo.getD 0≤hi.getD es.length∧hi.getD es.length≤es.length∧(mx=none∨(mx=hi∧hi≠none))) ∧
        K (.slice .none ((es.take (hi.getD es.length).toNat).drop (lo.getD 0).toNat)) (AZ h r .dead)
      |false=>False
     |_=>False
    |_=>False
  |_=>False
 |_,_,_=>False
def K2(cx:Cx)(d:Option Nat)(h:Nat→HO)(ty:Nat)(x:AV)(lo:Option (Option Int))(hi mx:Option Operand)(K:HK):Prop :=
 match d,lo,hi,mx with
 |some d,some (some lo),none,none=>match(cx.T ty).d with
  |.slice e=>match(cx.T e).size with
   |0=>False
   |_+1=>match x with
    |.slice (.id r sz) es=>match h r with
     |.tok GZ n=>match h (KJ cx d)with
      |.free=>match Nat.beq GZ sz,Nat.beq sz (cx.T e).size with
       |true,true=>(es.length=n∧0≤lo∧lo≤es.length)∧K (.slice (.id (KJ cx d) sz) (es.drop lo.toNat)) (AZ (AZ h r .dead) (KJ cx d) (.tok sz (es.drop lo.toNat).length))
       |_,_=>False
      |_=>False
     |_=>False
    |_=>False
  |_=>False
 |_,_,_,_=>False
def jg(cx:Cx)(d:Option Nat)(h:Nat→HO)(ty:Nat)(x:AV)(hi:Option (Option Int))(K:HK):Prop :=
 match d,hi with
 |some d,some (some hi)=>match(cx.T ty).d with
  |.slice e=>match(cx.T e).size with
   |0=>False
   |_+1=>match x with
    |.msl r n=>match h r with
     |.arr sz es=>match h (KJ cx d)with
      |.free=>match Nat.beq sz (cx.T e).size,Nat.blt r 10000000&&Nat.blt 0 (KJ cx d)with
       |true,true=>(n=es.length∧0≤hi∧hi≤es.length)∧K (.msl (KJ cx d) hi.toNat) (AZ (AZ h r .dead) (KJ cx d) (.arr sz (es.take hi.toNat)))
       |_,_=>False
      |_=>False
     |_=>False
    |_=>False
  |_=>False
 |_,_=>False
def T0(cx:Cx)(d:Option Nat)(h:Nat→HO)(ty:Nat)(x:AV)(lo:Option Operand)(hi:Option (Option Int))(mx:Option Operand)(K:HK):Prop :=
 match lo,mx with
 |none,none=>jg cx d h ty x hi K
 |_,_=>False
def unT:AV→AV
 |.slice _ es=>.slice .none es
 |a=>a
def OA(cx:Cx)(d:Option Nat)(h:Nat→HO)(x:AV)(K:HK):Prop :=
 match d with
 |none=>K x h
 |some d=>match EA cx.pl.tok d with
  |some sz=>match Nat.beq sz 0 with
   |true=>K (unT x) h
   |false=>match x with
    |.v (.slice none 0 0)=>match h d with
     |.free=>K (.slice (.id d sz) []) (AZ h d (.tok sz 0))
     |_=>False
    |x=>K x h
  |none=>match EA cx.pl.arr d with
   |some sz=>match x with
    |.v (.slice none 0 0)=>match h d with
     |.free=>K (.msl d 0) (AZ h d (.arr sz []))
     |_=>False
    |x=>K x h
   |none=>K x h
def lY(l:List AV)(n:Nat):Option AV :=
 match l with
 | []=>none
 |x::r=>match n with |0=>some x |n+1=>lY r n
def Mj(x:AV)(i:Nat)(K:AV→Prop):Prop :=
 match x with
 |.tup vs=>match lY vs i with
  |some a=>K a
  |none=>False
 |_=>False
def KT(x:AV)(K:AV→Prop):Prop :=
 match x with
 |.ref r o=>K (.ref r o)
 |.eref r n z i o=>K (.eref r n z i o)
 |.cptr cs=>K (.cptr cs)
 |.clo f cs=>K (.clo f cs)
 |.v (.func (.func f) a b)=>K (.v (.func (.func f) a b))
 |_=>False
def YO(c a b:AV)(K:AV→Prop):Prop :=
 match c with
 |.v (.bool true)=>K a
 |.v (.bool false)=>K b
 |_=>False
def lR(f:Int→Int→Int)(x y:AV)(K:AV→Prop):Prop :=
 match x,y with
 |.v (.int k a),.v (.int k' b)=>match qr k k' with
  |true=>K (.v (.int k (f a b)))
  |false=>False
 |_,_=>False
def JE(cx:Cx)(d:Option Nat)(h:Nat→HO)(ty:Nat)(len cap:AV)(K:HK):Prop :=
 match(cx.T ty).d,len,cap with
 |.slice e,.v (.int .i64 n),.v (.int .i64 c)=>match If ((cx.T e).zc.map .v)with
  |true=>match Nat.beq (cx.T e).zc.length (cx.T e).size with
   |true=>match(cx.T e).size with
    |0=>False
    |_+1=>(0≤n∧n≤c∧c*(cx.T e).bytes≤140737488355328∧c≤9223372036854775807)∧EL cx d h (cx.T e).size (List.replicate n.toNat ((cx.T e).zc.map .v)) K
   |false=>False
  |false=>False
 |_,_,_=>False
def YZ(op:UnOp)(x:AV)(K:AV→Prop):Prop :=
 match op,x with
 |.not,x=>dI K x
 |.neg,.v (.int .i64 a)=>A9 (-a)∧K (.v (.int .i64 (-a)))
 |_,_=>False
def Ga(cx:Cx)(d:Option Nat)(h:Nat→HO)(b:Builtin)(Ha:List Nat)(args:List AV)(K:HK):Prop :=
 match b,args,Ha with
 |.len,[x],[t]=>Rc cx.T t h x fun v=>K v h
 |.append,[s,x],[t,t']=>match Nat.beq t t' with
  |true=>Io cx d h t s x K
  |false=>False
 |.max,[x,y],_=>lR max x y fun v=>K v h
 |.min,[x,y],_=>lR min x y fun v=>K v h
 |_,_,_=>False

def F8(cx:Cx)(dr:Bool)(o:Oper)(st:St)(K:HK):Prop :=
 match o.op with
 |.move x=>K (ev st.t x) st.h
 |.assign x=>OA cx o.dst st.h (ev st.t x) K
 |.pick c a b=>YO (ev st.t c) (ev st.t a) (ev st.t b) fun v=>K v st.h
 |.alloc e=>Sq cx.T o.dst st.h e K
 |.box e x=>co cx o.dst st.h e (ev st.t x) K
 |.build ty ps=>PH cx.T ty st.t ps.toList fun v=>K v st.h
 |.buildSlice ty n ps=>Iz cx o.dst st.h ty n st.t ps.toList K
 |.insert ty m k x=>Hi cx.T st.h ty (ev st.t m) (ev st.t k) (ev st.t x) K
 |.load ty x=>IT cx.T st.h ty (ev st.t x) fun v=>K v st.h
 |.store ty p x=>QB cx st.h ty (ev st.t p) (ev st.t x) K
 |.nilCheck x=>KT (ev st.t x) fun v=>K v st.h
 |.binOp op ty x y _=>Xq cx.T op ty y (ev st.t x) (ev st.t y) fun v=>K v st.h
 |.unOp op _ x=>YZ op (ev st.t x) fun v=>K v st.h
 |.convert s ty x=>Xw cx.T s ty (ev st.t x) fun v=>K v st.h
 |.makeFunc fn first cap=>KP st.t st.h fn first.toList cap.toList fun v=>K v st.h
 |.makeMap ty none=>KQ cx.T cx.pl.mku o.dst st.h ty K
 |.makeSlice ty n c=>JE cx o.dst st.h ty (ev st.t n) (ev st.t c) K
 |.slice ty x lo hi mx=>match dr with
  |true=>match NN cx.pl.tok o.dst with
   |none=>GH cx o.dst st.h ty (ev st.t x) (Ca st.t lo) (Ca st.t hi) (Ca st.t mx) K
   |some _=>T0 cx o.dst st.h ty (ev st.t x) lo (Ca st.t hi) mx K
  |false=>match NN cx.pl.tok o.dst with
   |none=>GH cx o.dst st.h ty (ev st.t x) (Ca st.t lo) (Ca st.t hi) (Ca st.t mx) K
   |some _=>K2 cx o.dst st.h ty (ev st.t x) (Ca st.t lo) hi mx K
 |.fieldAddr s x f=>ST cx.T s f (ev st.t x) fun v=>K v st.h
 |.field s x f=>OL cx.T s f (ev st.t x) fun v=>K v st.h
 |.indexAddr ty x ix=>JB cx.T ty (ev st.t x) (ev st.t ix) fun v=>K v st.h
 |.index ty x ix=>Tt cx.T ty (ev st.t x) (ev st.t ix) fun v=>K v st.h
 |.lookup ty x ix ok=>match dr with
  |true=>MX cx.T st.h ty (ev st.t x) (ev st.t ix) ok fun v=>K v st.h
  |false=>MY cx.T st.h ty (ev st.t x) (ev st.t ix) ok fun v=>K v st.h
 |.mapUpdate ty m k x=>Hi cx.T st.h ty (ev st.t m) (ev st.t k) (ev st.t x) K
 |.range ty x=>match(cx.T ty).d with |.map _ _=>aA o.dst st.h (ev st.t x) K |_=>False
 |.next it false=>iJ st.h (ev st.t it) K
 |.entry it=>Zz st.h (ev st.t it) fun v=>K v st.h
 |.extract x i=>Mj (ev st.t x) i fun v=>K v st.h
 |.call c=>match c.callee with
  |.builtin b=>Ga cx o.dst st.h b c.argTypes.toList (c.args.toList.map (ev st.t)) K
  |.value f=>GA cx dr o.dst st (ev st.t f) (c.args.toList.map (ev st.t)) K
  |_=>False
 |_=>False
def Km(ops:List Oper)(j:Nat):Option Nat:=match ops with | []=>none | o::r=>match j with | 0=>o.dst | j+1=>Km r j
def jh(cx:Cx)(o:Oper)(st:St):St :=
 match o.dst with
 |none=>st
 |some d=>match qF cx.pl.tz d with
  |some (r,k,j,sz)=>⟨st.t,ux st.h r k j sz⟩
  |none=>match nM cx.pl.fz d with
   | []=>st
   |l=>⟨st.t,NU st.h l⟩
def uC(cx:Cx)(o:Oper)(st:St)(K:St→Prop):Prop :=
 match o.dst with
 |none=>K st
 |some d=>match EA cx.pl.ak d with
  |none=>K st
  |some s=>match st.t s with
   |.msl r n=>match st.h r with
    |.arr sz es=>n=es.length∧K ⟨H3 st.t s (.slice (.id r sz) es),AZ st.h r (.tok sz es.length)⟩
    |_=>K st
   |_=>K st
def ft(cx:Cx)(dr:Bool)(o:Oper)(st:St)(K:St→Prop):Prop :=
 match dr with
 |true=>F8 cx true o st fun v h=>K (st.put o.dst v h)
 |false=>uC cx o (jh cx o st) fun FB=>F8 cx false o FB fun v h=>K (FB.put o.dst v h)
def I0(cx:Cx)(dr:Bool)(all:List Oper)(o:Oper)(st:St)(K:St→Prop):Prop :=
 match o.guard with
 |none=>ft cx dr o st K
 |some (j,want)=>match Km all j with
  |none=>False
  |some d=>match st.t d,want with
   |.v (.bool true),true=>ft cx dr o st K
   |.v (.bool false),false=>ft cx dr o st K
   |.v (.bool true),false=>K (st.put o.dst (.v undef) st.h)
   |.v (.bool false),true=>K (st.put o.dst (.v undef) st.h)
   |.v (.tuple _),_=>K (st.put o.dst (.v undef) st.h)
   |_,_=>False
def nK(cx:Cx)(all l:List Oper)(st:St)(K:St→Prop):Prop :=
 match l with
 | []=>K st
 |o::r=>I0 cx false all o st fun FB=>nK cx all r FB K

def UG:AV→List Nat
 |.ref r _=>[r]
 |.mref r=>[r]
 |_=>[]
def lA:List AV→List Nat
 | []=>[]
 |a::r=>UG a++lA r
def UH:AV→List Nat
 |.agg cs=>lA cs
 |.clo _ cs=>lA cs
 |a=>UG a
def o6:List AV→List Nat
 | []=>[]
 |a::r=>UH a++o6 r
def Xc:AV→List Nat
 |.agg cs=>o6 cs
 |a=>UH a
def To:List AV→List Nat
 | []=>[]
 |a::r=>Xc a++To r
abbrev FK:=List Nat×Option Nat
def IB(d:Option Nat)(l:List Nat):Option FK:=match d with | some d=>some (d::l,some d) | none=>none
def dz:AV→List Nat
 |.msl r _=>[r]
 |_=>[]
def Wr(cx:Cx)(d:Option Nat)(s x:AV):Option FK :=
 match s with
 |.v (.slice none 0 0)=>IB (d.map (KJ cx)) (dz x)
 |.slice (.full _) _=>IB (d.map (KJ cx)) (dz x)
 |.slice (.id r _) _=>IB (some r) (dz x)
 |.msl r _=>IB (some r) (dz x)
 |_=>none
def be(d:Option Nat)(args:List AV):Option FK :=
 match d with
 |some d=>match args with
  |.msl r _::_=>some ([r,BB d 0],some (r+10000000*BB d 0))
  |_=>none
 |none=>none
theorem ZD{d:Option Nat}{args:List AV}{f:FK}(h:be d args=some f):∃d' r n l,d=some d'∧args=.msl r n::l∧f=([r,BB d' 0],some (r+10000000*BB d' 0)):=by
 unfold be at h;split at h
 ·split at h
  ·cases h;exact⟨_,_,_,_,rfl,rfl,rfl⟩
  ·cases h
 ·cases h
def gg(d:Option Nat)(x:AV):Option FK :=
 match d with
 |some d=>match x with
  |.msl r _=>some ([r,d],some (r+10000000*d))
  |_=>none
 |none=>none
theorem ZE{d:Option Nat}{x:AV}{f:FK}(h:gg d x=some f):∃d' r n,d=some d'∧x=.msl r n∧f=([r,d'],some (r+10000000*d')):=by
 unfold gg at h;split at h
 ·split at h
  ·cases h;exact⟨_,_,_,rfl,rfl,rfl⟩
  ·cases h
 ·cases h
def gi(args:List AV):Option FK:=match V2 args with | some _=>some ([1000,1001],some 10010001000) | none=>none
def Wd:Nat:=99999999999999
def ge(k:Nat)(d:Option Nat)(args:List AV):Option FK :=
 match Nat.beq k 3 with
 |true=>some (kP,some Wd)
 |false=>be d args
def G6(cx:Cx)(d:Option Nat)(c:Callee)(t:Nat→AV)(args:List AV):Option FK :=
 match c,args with
 |.builtin .len,[.mref r]=>some ([r],none)
 |.builtin .len,[_]=>some ([],none)
 |.builtin .max,_=>some ([],none)
 |.builtin .min,_=>some ([],none)
 |.builtin .append,[s,x]=>Wr cx d s x
 |.value f,args=>match NN cx.pl.dc d with
  |none=>some (Xc (ev t f)++To args,none)
  |some 0=>IB (d.map fun d=>BB d 0) (Xc (ev t f)++To args)
  |some 1=>match args with |.msl r _::_=>some ([r],some r) |_=>none
  |some (k+2)=>match Nat.beq k 1 with
   |true=>IB (d.map fun d=>BB d 0) (Xc (ev t f)++To args)
   |false=>match Nat.beq k 2 with
    |true=>gi args
    |false=>ge k d args
 |_,_=>none
def Fw(cx:Cx)(o:Oper)(st:St):Option FK :=
 match o.op with
 |.move _ |.pick .. |.nilCheck _ |.unOp .. |.convert .. |.fieldAddr .. |.field .. |.indexAddr .. |.index .. |.extract .. |.build ..=>some ([],none)
 |.binOp _ _ x _ _=>match ev st.t x with |.slice ..=>none |_=>some ([],none)
 |.assign x=>match ev st.t x with |.v (.slice ..)=>none |_=>some ([],none)
 |.load _ p=>match ev st.t p with |.cptr _=>some ([],none) |.ref r _=>some ([r],none) |.eref r ..=>some ([r],none) |_=>none
 |.call c=>G6 cx o.dst c.callee st.t (c.args.toList.map (ev st.t))
 |.alloc _=>IB o.dst []
 |.box _ x=>IB o.dst (Xc (ev st.t x))
 |.buildSlice _ _ ps=>IB (o.dst.map (KJ cx)) (To (ps.toList.map fun p=>ev st.t p.2))
 |.store _ p x=>match ev st.t p with
  |.ref r _=>match IU cx.pl.frz r with |true=>none |false=>IB (some r) []
  |.eref r ..=>IB (some r) (Xc (ev st.t x))
  |_=>none
 |.slice _ x _ _ mx=>match NN cx.pl.tok o.dst with
  |some _=>gg (o.dst.map (KJ cx)) (ev st.t x)
  |none=>match mx,ev st.t x with
   |none,.msl ..=>none
   |none,_=>some ([],none)
   |some _,.slice ..=>IB o.dst []
   |_,_=>none
 |.makeFunc _ _ cap=>some (To (cap.toList.map (ev st.t)),none)
 |.mapUpdate _ m _ x=>match ev st.t m with |.mref r=>IB (some r) (Xc (ev st.t x)) |_=>none
 |.makeSlice ..=>IB (o.dst.map (KJ cx)) []
 |.lookup _ m _ _=>match ev st.t m with |.cmap ..=>some ([],none) |.mref r=>some ([r],none) |_=>none
 |.makeMap ..=>IB o.dst []
 |_=>none
def Ny(cx:Cx)(all:List Oper)(o:Oper)(st:St):Option FK :=
 match o.guard with
 |none=>Fw cx o st
 |some (j,want)=>match Km all j with
  |none=>none
  |some d=>match st.t d,want with
   |.v (.bool true),true=>Fw cx o st
   |.v (.bool false),false=>Fw cx o st
   |_,_=>some ([],none)
def sL(l:List Nat):Bool:=match l with | []=>true | _=>false
def YI(l:List Nat)(r:Nat):Bool:=bif Nat.beq r Wd then sL l else !IU l r&&(Nat.blt r 10000000||(!IU l (r % 10000000)&&!IU l (r / 10000000)))
def SL(a b:FK):Bool :=
 (match a.2 with | some r=>YI b.1 r | none=>true)&&(match b.2 with | some r=>YI a.1 r | none=>true)
def OW(o:Oper)(i:Nat)(D:List Nat):Bool:=o.after.toList.any fun e=>Region.binds .any e&&(Nat.beq e.on i||IU D e.on)
def PN(i:Nat)(D:List Nat)(k:Nat):List Oper→List Nat
 | []=>D
 |o::r=>match OW o i D with
  |true=>PN i (k::D) (k+1) r
  |false=>PN i D (k+1) r
def Uc(i:Nat)(D:List Nat)(k:Nat):List Oper→Bool
 | []=>true
 |o::r=>(OW o i D||!IU D k)&&Uc i D (k+1) r
def Iy(ops:Array Oper)(oi:Oper)(fi:FK)(D:List Nat)(k:Nat):List Oper→List FK→Bool
 |o::r,f::fs=>(IU D k||(oi.apart ops o&&SL fi f))&&Iy ops oi fi D (k+1) r fs
 | [],[]=>true
 |_,_=>false
def Mh(ops:Array Oper)(all:List Oper)(k:Nat):List Oper→List FK→Bool
 |o::r,f::fs =>
  let D:=PN k [] 0 all
  (o.after.toList.all fun e=>!Region.binds .any e||Nat.blt e.on k)&&Uc k D 0 all&&(D.all fun j=>Nat.blt k j&&Nat.blt j all.length)&&Iy ops o f D (k+1) r fs&&Mh ops all (k+1) r fs
 | [],[]=>true
 |_,_=>false
def SM(ops:Array Oper)(fs:List FK):Bool:=Region.noSelect ops&&Mh ops ops.toList 0 ops.toList fs
def Xn(cx:Cx)(ops:Array Oper)(l:List Oper)(fs:List FK)(st:St)(K:St→Prop):Prop :=
 match l with
 | []=>SM ops fs.reverse=true∧K st
 |o::r=>match Ny cx ops.toList o st with
  |some f=>I0 cx true ops.toList o st fun FB=>Xn cx ops r (f::fs) FB K
  |none=>False

def SO(l:List (Nat×AV))(i:Nat):AV:=match l with | []=>.junk | (j,v)::r=>bif Nat.beq i j then v else SO r i
structure LS where
 t:List (Nat×AV)
 h:List (Nat×HO)
 hb:Nat→HO
def LS.st(s:LS):St:=⟨SO s.t,Ag s.h s.hb⟩

def RC(h:Nat→HO)(r:Nat):Bool:=match h r with | .free=>false | _=>true
def ids0(h:Nat→HO):AV→Bool
 |.slice (.id r _) _=>RC h r
 |.slice (.ver r _ _) _=>RC h r
 |.msl r _=>RC h r
 |.ref r _=>RC h r
 |.eref r _ _ _ _=>RC h r
 |.mref r=>RC h r
 |.agg _ |.tup _ |.clo ..=>false
 |_=>true
def Yd(h:Nat→HO):List AV→Bool
 | []=>true
 |a::r=>match ids0 h a with |true=>Yd h r |false=>false
def WF(h:Nat→HO):AV→Bool
 |.agg cs=>Yd h cs
 |.tup cs=>Yd h cs
 |.clo _ cs=>Yd h cs
 |a=>ids0 h a
def Ra(h:Nat→HO):List (Value×AV)→Bool
 | []=>true
 |p::r=>match WF h p.2 with |true=>Ra h r |false=>false
def lB(h:Nat→HO):List AV→Bool
 | []=>true
 |a::r=>match WF h a with |true=>lB h r |false=>false
def Yc(h:Nat→HO):HO→Bool
 |.cells cs=>lB h cs
 |.mapU _ Cb=>Ra h Cb
 |_=>true
def xL(st:St)(h:Nat→HO):List (Nat×AV)→Prop
 | []=>True
 |(j,a)::r=>(st.t j=a∧WF h a=true)∧xL st h r
def xK(st:St)(h:Nat→HO):List (Nat×HO)→Prop
 | []=>True
 |(j,o)::r=>(st.h j=o∧Yc h o=true)∧xK st h r
def St.le(cx:Cx)(st:St)(s:LS):Prop :=
 xL st s.st.h s.t∧xK st s.st.h s.h∧(∀j,s.hb j=.free∨(st.h j=s.hb j∧Yc s.st.h (s.hb j)=true)) ∧
 match cx.ext with
 |false=>True
 |true=>∀j,1000≤j→j<2000→st.h j≠.free→s.st.h j≠.free

def MI(cx:Cx)(ops:Array Oper)(dr:Bool)(st:St)(K:St→Prop):Prop :=
 match dr with
 |false=>nK cx ops.toList ops.toList st K
 |true=>Xn cx ops ops.toList [] st K
inductive Ex | normal | exit (id:Nat) | ret
def uF(h:Nat→HO)(o k:Nat)(K:(Nat→HO)→Prop):Prop :=
 match h o with
 |.cells cs=>match Jf cs k with
  |.msl r n=>match h r with
   |.arr sz es=>n=es.length∧K (AZ (AZ h r (.tok sz es.length)) o (.cells (EM cs k (.slice (.id r sz) es))))
   |_=>K h
  |_=>K h
 |_=>K h
def uD(h:Nat→HO)(o k j:Nat)(K:(Nat→HO)→Prop):Prop :=
 match h o with
 |.cells cs=>match Jf cs k with
  |.msl r n=>match h r with
   |.arr sz es=>match h j with
    |.free=>n=es.length∧K (AZ (AZ (AZ h r .dead) j (.arr sz es)) o (.cells (EM cs k (.msl j n))))
    |_=>False
   |_=>False
  |_=>False
 |_=>False
def y6(h:Nat→HO)(o k d:Nat)(K:(Nat→HO)→Prop):Prop :=
 match h o with
 |.cells cs=>match Jf cs k with
  |.slice (.ver r sz v) es=>match h r with
   |.var GZ v' _=>match h d with
    |.free=>(v=v'∧sz=GZ)∧K (AZ (AZ (AZ h r (.vox v)) d (.tok sz es.length)) o (.cells (EM cs k (.slice (.id d sz) es))))
    |_=>False
   |_=>False
  |_=>K h
 |_=>False
def ur(h:Nat→HO)(o k r:Nat)(K:(Nat→HO)→Prop):Prop :=
 match h o with
 |.cells cs=>match Jf cs k with
  |.slice (.id d sz) es=>match h d with
   |.tok GZ n=>match h r with
    |.vox v=>(es.length=n∧sz=GZ)∧K (AZ (AZ (AZ h d .dead) r (.var sz (v+1) n)) o (.cells (EM cs k (.slice (.ver r sz (v+1)) es))))
    |_=>False
   |_=>False
  |_=>K h
 |_=>False
def xM(h:Nat→HO)(r:Nat)(K:(Nat→HO)→Prop):Prop :=
 match h r with
 |.free=>K (AZ h r (.vox 0))
 |_=>False
def uq(h:Nat→HO)(o k:Nat)(K:(Nat→HO)→Prop):Prop :=
 match h o with
 |.cells cs=>match Jf cs k with
  |.mref r=>match h r with
   |.rom sh Cb=>K (AZ h o (.cells (EM cs k (.cmap sh Cb))))
   |_=>False
  |_=>False
 |_=>False
def y8(h:Nat→HO)(o k j sz:Nat)(K:(Nat→HO)→Prop):Prop :=
 match h o with
 |.cells cs=>match Jf cs k with
  |.v (.slice none 0 0)=>match h j with
   |.free=>K (AZ (AZ h j (.arr sz [])) o (.cells (EM cs k (.msl j 0))))
   |_=>False
  |_=>False
 |_=>False
def we(cx:Cx)(id:Nat)(h:Nat→HO)(K:(Nat→HO)→Prop):Prop :=
 match EA cx.pl.ak (850000+id)with
 |some v=>K (gm h v)
 |none=>K h
def uo(cx:Cx)(id:Nat)(h:Nat→HO)(K:(Nat→HO)→Prop):Prop :=
 match EA cx.pl.ak (800000+id)with
 |some v=>uq h (v % 10000) (v / 10000 % 100) K
 |none=>K h
def td(cx:Cx)(id:Nat)(h:Nat→HO)(K:(Nat→HO)→Prop):Prop :=
 match EA cx.pl.ak (810000+id)with
 |some v=>uq h (v % 10000) (v / 10000 % 100) K
 |none=>K h
def qu(cx:Cx)(id:Nat)(h:Nat→HO)(K:(Nat→HO)→Prop):Prop :=
 match EA cx.pl.ak (900000+id)with
 |some v=>y8 h (v % 10000) (v / 10000 % 100) (v / 1000000 % 10000) (v / 10000000000) K
 |none=>K h
def pS(cx:Cx)(id:Nat)(h:Nat→HO)(K:(Nat→HO)→Prop):Prop :=
 match EA cx.pl.ak (500000+id)with
 |some v=>y6 h (v % 10000) (v / 10000 % 100) (v / 1000000) K
 |none=>match EA cx.pl.ak (600000+id)with
  |some v=>ur h (v % 10000) (v / 10000 % 100) (v / 1000000) K
  |none=>match EA cx.pl.ak (700000+id)with
   |some v=>xM h v K
   |none=>we cx id h fun h=>uo cx id h fun h=>td cx id h fun h=>qu cx id h K
def uE(st:St)(s k:Nat)(K:St→Prop):Prop :=
 match st.t s with
 |.msl r n=>match st.h r with
  |.arr sz es=>match k with
   |0=>n=es.length∧K ⟨H3 st.t s (.slice .none es),AZ (AZ st.h r (.tok sz es.length)) r .dead⟩
   |k+1=>match Nat.beq r (k+1)with
    |true=>K st
    |false=>match st.h (k+1)with
     |.free=>n=es.length∧K ⟨H3 st.t s (.msl (k+1) n),AZ (AZ st.h r .dead) (k+1) (.arr sz es)⟩
     |_=>False
  |_=>K st
 |_=>K st
def rf(cx:Cx)(id:Nat)(st:St)(K:St→Prop):Prop :=
 match IU cx.pl.cut id with
 |true=>match EA cx.pl.ak (100000+id)with
  |none=>match EA cx.pl.ak (200000+id)with
   |none=>match EA cx.pl.ak (300000+id)with
    |none=>pS cx id st.h fun h'=>∃s:LS,St.le cx ⟨st.t,h'⟩ s∧K s.st
    |some v=>uD st.h (v % 10000) (v / 10000 % 100) (v / 1000000) fun h'=>∃s:LS,St.le cx ⟨st.t,h'⟩ s∧K s.st
   |some v=>uE st (v % 1000) (v / 1000) fun FB=>∃s:LS,St.le cx FB s∧K s.st
  |some v=>uF st.h (v % 1000) (v / 1000) fun h'=>∃s:LS,St.le cx ⟨st.t,h'⟩ s∧K s.st
 |false=>K st
def MK(cx:Cx)(c:Code)(Q:Ex→St→Prop)(st:St):Prop :=
 match c with
 |.skip=>Q .normal st
 |.label _=>Q .normal st
 |.region id ops dr=>rf cx id st fun st=>match cx.pl.dyn with
  | []=>MI cx ops dr st (Q .normal)
  |_=>∃n,MI { cx with nid:=n } ops dr st (Q .normal)
 |.seq a b=>MK cx a (fun e FB=>match e with |.normal=>MK cx b Q FB |e=>Q e FB) st
 |.cond c a b=>match ev st.t c with
  |.v (.bool true)=>MK cx a Q st
  |.v (.bool false)=>MK cx b Q st
  |_=>False
 |.block id c=>MK cx c (fun e FB=>match e with |.exit j=>(bif Nat.beq j id then Q .normal FB else Q (.exit j) FB) |e=>Q e FB) st
 |.loop c=>∃(α:Type) (I:α→LS) (μ:α→Nat),(∃x,St.le cx st (I x)) ∧
   ∀x,MK cx c (fun e FB=>match e with | .normal=>∃y,μ y<μ x∧St.le cx FB (I y) | e=>Q e FB) (I x).st
 |.exit id=>Q (.exit id) st
 |.ret=>Q .ret st
 |_=>False

def LZ:List AV→Nat→AV
 | [],_=>.v undef
 |a::r,n=>match n with |0=>a |n+1=>LZ r n
def ma(T:GT)(st:St):List ResultVar→(List AV→Prop)→Prop
 | [],K=>K []
 |.tmp i::r,K=>ma T st r fun l=>K (str st.h (st.t i)::l)
 |.cell a t::r,K=>IT T st.h t (st.t a) fun v=>ma T st r fun l=>K (str st.h v::l)
def dR(cx:Cx)(st:St)(rs:List ResultVar)(K:AV→Prop):Prop :=
 ma cx.T ⟨st.t,NU st.h cx.pl.fin⟩ rs fun
  | [v]=>K v
  |vs=>K (.tup vs)
def Zy(cx:Cx)(rs:List ResultVar)(K:AV→Prop)(e:Ex)(st:St):Prop :=
 match e with
 |.normal=>dR cx st rs K
 |.ret=>dR cx st rs K
 |.exit _=>False
def mc(T:GT)(st:St):List ResultVar→(List AV→Prop)→Prop
 | [],K=>K []
 |.tmp i::r,K=>mc T st r fun l=>K (st.t i::l)
 |.cell a t::r,K=>IT T st.h t (st.t a) fun v=>mc T st r fun l=>K (v::l)
def dQ(cx:Cx)(st:St)(rs:List ResultVar)(σ:Hy)(Q:AV→(Nat→HO)→Prop):Prop :=
 mc cx.T ⟨st.t,NU st.h cx.pl.fin⟩ rs fun
  | [v]=>Q (ren (Cr σ) (NU st.h cx.pl.fin) v) (Fo σ (NU st.h cx.pl.fin))
  |vs=>Q (ren (Cr σ) (NU st.h cx.pl.fin) (.tup vs)) (Fo σ (NU st.h cx.pl.fin))
def Uv(cx:Cx)(rs:List ResultVar)(σ:Hy)(Q:AV→(Nat→HO)→Prop)(e:Ex)(st:St):Prop :=
 match e with
 |.normal=>dQ cx st rs σ Q
 |.ret=>dQ cx st rs σ Q
 |.exit _=>False
def FQ(σ:Hy):List (Nat×HO)→Bool
 | []=>true
 |(i,_)::r=>Nat.ble 1000 i&&Nat.blt i 2000&&(match Cr σ i with |some j=>Nat.beq j i |none=>false)&&FQ σ r
end Go.Eng
