/- Lemmas for the claims of this seat, without a condition: part 5 (EngA). -/
import Derived.Test.YtkmnnpmneamgoaaGreatDoorA00
import Derived.WalkKit
import Derived.Still
import Derived.RangeFuncSeq
import Derived.OrdersIn
import Derived.TacticsIn
namespace Go.Eng

inductive Tk | none | full (sz:Nat) | id (r sz:Nat) | ver (r sz v:Nat)

inductive KS | int (k:IntKind) | str | bool
structure Ez where
 agg:Bool
 l:List KS

inductive AV
 |v (x:Value)
 |slice (tk:Tk) (es:List (List AV))
 |msl (r n:Nat)
 |agg (cs:List AV)
 |tup (vs:List AV)
 |cptr (cs:List AV)
 |ref (r off:Nat)
 |eref (r n sz i off:Nat)
 |mref (r:Nat)
 |cmap (sh:Ez) (B5:List (Value×AV))
 |clo (f:Nat) (caps:List AV)
 |junk

inductive HO
 |free
 |dead
 |cells (cs:List AV)
 |ro (cs:List AV)
 |tok (sz n:Nat)
 |var (sz v n:Nat)
 |vox (v:Nat)
 |arr (sz:Nat) (es:List (List AV))
 |map (sh:Ez) (B5:List (Value×AV))
 |mapU (sh:Ez) (B5:List (Value×AV))
 |rom (sh:Ez) (B5:List (Value×AV))
 |iter (all rem:List (Value×AV)) (F2:Option (Value×AV))
 |raw (b:Nat) (ob:Obj)

structure St where
 t:Nat→AV
 h:Nat→HO

def Aa:Nat→HO:=fun _=>.free
def AT(h:Nat→HO)(r:Nat)(o:HO):Nat→HO:=fun i=>bif Nat.beq i r then o else h i
def HG(t:Nat→AV)(d:Nat)(v:AV):Nat→AV:=fun i=>bif Nat.beq i d then v else t i
def St.put(st:St)(d:Option Nat)(v:AV)(h:Nat→HO):St :=
 match d with
 |none=>⟨st.t,h⟩
 |some d=>⟨HG st.t d v,h⟩
def ev(t:Nat→AV):Operand→AV
 |.tmp i=>t i
 |.const v=>.v v
 |.global g=>.v (.pointer (some ⟨g,0,none⟩))
 |.func f=>.v (.func (.func f) #[] #[])

inductive TD
 |int (k:IntKind) |bool |string |slice (e:Nat) |array (n e:Nat) |struct (fs:List (Nat×Nat)) |ptr (e:Nat) |map (k e:Nat) |func |iface |other
structure TI where
 d:TD
 size:Nat
 bytes:Nat
 zero:Value
 eqok:Bool
def TI.zc(i:TI):List Value:=match i.zero with | .agg cs=>cs.toList | v=>[v]
abbrev GK:=Nat→TI

structure O3 where
 frz:List Nat
 tok:List (Nat×Nat)
 arr:List (Nat×Nat)
 fz:List (Nat×List Nat)
 fin:List Nat
 mku:List Nat
 dyn:List Nat
 tz:List (Nat×(Nat×Nat×Nat×Nat))
 dc:List (Nat×Nat)
 ak:List (Nat×Nat)
 cut:List Nat

def IB(l:List Nat)(n:Nat):Bool :=
 match l with
 | []=>false
 |x::r=>bif Nat.beq x n then true else IB r n
def Eb(l:List (Nat×Nat))(n:Nat):Option Nat :=
 match l with
 | []=>none
 |(x,y)::r=>bif Nat.beq x n then some y else Eb r n

def str0(h:Nat→HO):AV→AV
 |.slice _ es=>.slice .none es
 |.ref r off=>match h r with |.ro cs=>.cptr (cs.drop off) |_=>.junk
 |.mref r=>match h r with |.rom sh B5=>.cmap sh B5 |_=>.junk
 |.v x=>.v x
 |.cptr cs=>.cptr cs
 |.cmap s m=>.cmap s m
 |_=>.junk
def str(h:Nat→HO):AV→AV
 |.agg cs=>.agg (cs.map (str0 h))
 |.clo f cs=>.clo f (cs.map (str0 h))
 |a=>str0 h a
def Ra(h:Nat→HO)(B5:List (Value×AV)):List (Value×AV):=B5.map fun p=>(p.1,str h p.2)
def eU(h:Nat→HO)(r:Nat):Nat→HO :=
 match h r with
 |.cells cs=>AT h r (.ro (cs.map (str h)))
 |.map sh B5=>AT h r (.rom sh B5)
 |.mapU sh B5=>AT h r (.rom sh (Ra h B5))
 |_=>h
def MM(h:Nat→HO):List Nat→Nat→HO
 | []=>h
 |r::l=>MM (eU h r) l
def md(l:List (Nat×List Nat))(n:Nat):List Nat :=
 match l with
 | []=>[]
 |(x,y)::r=>bif Nat.beq x n then y else md r n
def o5(l:List (Nat×(Nat×Nat×Nat×Nat)))(n:Nat):Option (Nat×Nat×Nat×Nat) :=
 match l with
 | []=>none
 |(x,y)::r=>bif Nat.beq x n then some y else o5 r n
def IX(l:List AV)(n:Nat):AV :=
 match l with
 | []=>.junk
 |x::r=>match n with |0=>x |n+1=>IX r n
def Er(cs:List AV)(o:Nat)(v:AV):List AV :=
 match cs with
 | []=>[]
 |c::cs=>match o with |0=>v::cs |o+1=>c::Er cs o v
def sx(h:Nat→HO)(r k j sz:Nat):Nat→HO :=
 match h r with
 |.cells cs=>match IX cs k with
  |.v (.slice none 0 0)=>match h j with
   |.free=>AT (AT h j (.tok sz 0)) r (.cells (Er cs k (.slice (.id j sz) [])))
   |_=>h
  |_=>h
 |_=>h
def rsv(h:Nat→HO):AV→AV
 |.ref r off=>match h r with |.ro cs=>.cptr (cs.drop off) |_=>.ref r off
 |.mref r=>match h r with |.rom sh B5=>.cmap sh B5 |_=>.mref r
 |a=>a

def one:AV→Bool
 |.v x=>x.oneCell'
 |.agg _ |.tup _ |.junk=>false
 |_=>true
def HR:List AV→Bool
 | []=>true
 |a::r=>match one a with |true=>HR r |false=>false
def rQ:AV→List AV
 |.agg cs=>cs
 |a=>[a]

def BQ(a:Int):Prop:=-9223372036854775808≤a∧a<9223372036854775808

def L4(cs:List AV)(K:AV→Prop):Prop :=
 match cs with
 |a::_=>K a
 | []=>False
def IJ(p:Prop)(K:AV→Prop):Prop:=(p→K (.v (.bool true)))∧(¬p→K (.v (.bool false)))
def Mc(T:GK)(t:Nat)(cs:List AV)(K:AV→Prop):Prop :=
 match(T t).d with
 |.struct _=>(T t).size≤cs.length∧K (.agg (cs.take (T t).size))
 |.array _ _=>(T t).size≤cs.length∧K (.agg (cs.take (T t).size))
 |.bool=>L4 cs fun |.v (.bool b)=>(b=true→K (.v (.bool true)))∧(b=false→K (.v (.bool false))) |_=>False
 |.other=>False
 |_=>L4 cs K

def WR:List AV→List AV→Prop
 | [],[]=>True
 |.v (.int _ a)::r,.v (.int _ b)::s=>a=b∧WR r s
 |.v (.string a)::r,.v (.string b)::s=>a=b∧WR r s
 |.v (.bool a)::r,.v (.bool b)::s=>a=b∧WR r s
 |_,_=>False
def oM:IntKind→IntKind→Bool
 |.i64,.i64 |.u8,.u8 |.u32,.u32 |.i32,.i32 |.u64,.u64 |.u16,.u16 |.i16,.i16 |.i8,.i8=>true
 |_,_=>false
def Ns(f:Nat→Option (List KS)):Nat→List (Nat×Nat)→Option (List KS)
 |_,[]=>some []
 |n,(t,o)::r=>match Nat.beq o n with
  |true=>match f t with
   |some a=>match Ns f (n+a.length) r with
    |some b=>some (a++b)
    |none=>none
   |none=>none
  |false=>none
def Hr(T:GK):Nat→Nat→Option (List KS)
 |0,_=>none
 |n+1,t=>match(T t).d with
  |.int k=>match(T t).size with |1=>some [.int k] |_=>none
  |.string=>match(T t).size with |1=>some [.str] |_=>none
  |.bool=>match(T t).size with |1=>some [.bool] |_=>none
  |.struct fs=>match(T t).eqok with
   |true=>match Ns (Hr T n) 0 fs with
    |some l=>match Nat.beq l.length (T t).size with |true=>some l |false=>none
    |none=>none
   |false=>none
  |_=>none
def M9:KS→Value→Bool
 |.int k,.int k' _=>oM k k'
 |.str,.string _=>true
 |.bool,.bool _=>true
 |_,_=>false
def Xu:List KS→List AV→Bool
 | [],[]=>true
 |k::r,.v x::s=>match M9 k x with |true=>Xu r s |false=>false
 |_,_=>false
def ol(T:GK)(t:Nat)(x y:AV)(K:AV→Prop):Prop :=
 match(T t).d with
 |.bool=>match x,y with
  |.v (.bool a),.v (.bool b)=>K (.v (.bool (a == b)))
  |_,_=>False
 |.struct _=>match x,y with
  |.agg xs,.agg ys=>match Hr T 8 t with
   |some l=>match Xu l xs with
    |true=>match Xu l ys with
     |true=>IJ (WR xs ys) K
     |false=>False
    |false=>False
   |none=>False
  |_,_=>False
 |.slice _=>match x,y with
  |.slice _ es,.v (.slice none 0 0)=>(es≠[]→K (.v (.bool false)))∧(es=[]→K (.v (.bool true))∧K (.v (.bool false)))
  |.v (.slice none 0 0),.v (.slice none 0 0)=>K (.v (.bool true))
  |_,_=>False
 |.ptr _=>match x,y with
  |.v (.pointer none),.v (.pointer none)=>K (.v (.bool true))
  |.cptr _,.v (.pointer none)=>K (.v (.bool false))
  |.ref _ _,.v (.pointer none)=>K (.v (.bool false))
  |.eref _ _ _ _ _,.v (.pointer none)=>K (.v (.bool false))
  |_,_=>False
 |_=>False
def cw(K:AV→Prop):AV→Prop
 |.v (.bool true)=>K (.v (.bool false))
 |.v (.bool false)=>K (.v (.bool true))
 |_=>False
def Yo(op:BinOp)(k:IntKind)(a b:Int)(K:AV→Prop):Prop :=
 match op with
 |.add=>K (.v (.int k (k.wrap (a+b))))
 |.sub=>K (.v (.int k (k.wrap (a-b))))
 |.mul=>K (.v (.int k (k.wrap (a*b))))
 |_=>False
def RM(op:BinOp)(k:IntKind)(a b:Int)(K:AV→Prop):Prop :=
 match k with
 |.i64=>match op with
  |.add=>BQ (a+b)∧K (.v (.int .i64 (a+b)))
  |.sub=>BQ (a-b)∧K (.v (.int .i64 (a-b)))
  |.mul=>BQ (a*b)∧K (.v (.int .i64 (a*b)))
  |.quo=>(0≤a∧0<b∧BQ a)∧K (.v (.int .i64 (a / b)))
  |.rem=>(0≤a∧0<b)∧K (.v (.int .i64 (a % b)))
  |_=>False
 |k=>Yo op k a b K
def RP(T:GK)(op:BinOp)(t:Nat)(x y:AV)(K:AV→Prop):Prop :=
 match x,y with
 |.v (.int k a),.v (.int k' b)=>match oM k k' with
  |false=>False
  |true=>match op with
   |.eql=>IJ (a=b) K
   |.neq=>IJ (a≠b) K
   |.lss=>IJ (a<b) K
   |.leq=>IJ (a≤b) K
   |.gtr=>IJ (b<a) K
   |.geq=>IJ (b≤a) K
   |op=>RM op k a b K
 |.v (.string a),.v (.string b)=>match op with
   |.eql=>IJ (a=b) K
   |.neq=>IJ (a≠b) K
   |.lss=>IJ (Op.bytesLess a.toList b.toList=true) K
   |.geq=>IJ (Op.bytesLess a.toList b.toList=false) K
   |.gtr=>IJ (Op.bytesLess b.toList a.toList=true) K
   |.leq=>IJ (Op.bytesLess b.toList a.toList=false) K
   |.add=>((a.size+b.size:Nat):Int)≤9223372036854775807∧K (.v (.string (a++b)))
   |_=>False
 |x,y=>match op with
  |.eql=>ol T t x y K
  |.neq=>ol T t x y (cw K)
  |_=>False
def WC(T:GK)(op:BinOp)(t:Nat)(Y:Operand)(x y:AV)(K:AV→Prop):Prop :=
 match Y with
 |.const .nilIface=>match x with
  |.v .nilIface=>match(T t).d with
   |.iface=>match op with
    |.eql=>K (.v (.bool true))
    |.neq=>K (.v (.bool false))
    |_=>False
   |_=>False
  |_=>False
 |_=>RP T op t x y K
def WJ(T:GK)(s t:Nat)(x:AV)(K:AV→Prop):Prop :=
 match(T s).d,(T t).d,x with
 |.int _,.int .i64,.v (.int _ n)=>BQ n∧K (.v (.int .i64 n))
 |.int _,.int k,.v (.int _ n)=>K (.v (.int k (k.wrap n)))
 |.string,.string,.v (.string s)=>K (.v (.string s))
 |.slice e,.string,.slice _ es=>match(T e).d with
  |.int .u8=>∃l:List UInt8,es=l.map (fun b=>[AV.v (.int .u8 b.toNat)])∧K (.v (.string ⟨l.toArray⟩))
  |_=>False
 |_,_,_=>False
def VG(fs:List (Nat×Nat))(n:Nat):Option (Nat×Nat) :=
 match fs with
 | []=>none
 |x::r=>match n with |0=>some x |n+1=>VG r n
def Sh(T:GK)(s f:Nat)(x:AV)(K:AV→Prop):Prop :=
 match(T s).d with
 |.struct fs=>match VG fs f with
  |some (t,o)=>match(T t).size with
   |0=>False
   |_+1=>match x with
    |.cptr cs=>K (.cptr (cs.drop o))
    |.ref r off=>K (.ref r (off+o))
    |.eref r n z i off=>K (.eref r n z i (off+o))
    |_=>False
  |none=>False
 |_=>False
def XV(T:GK)(t:Nat)(cs:List AV)(K:AV→Prop):Prop:=Mc T t cs K
def Oi(T:GK)(s f:Nat)(x:AV)(K:AV→Prop):Prop :=
 match(T s).d,x with
 |.struct fs,.agg cs=>match VG fs f with
  |some (t,o)=>XV T t (cs.drop o) K
  |none=>False
 |_,_=>False
def Jg(T:GK)(t:Nat)(x ix:AV)(K:AV→Prop):Prop :=
 match(T t).d,ix with
 |.slice e,.v (.int .i64 i)=>match(T e).size with
  |0=>False
  |_+1=>match x with
   |.slice _ es=>∃cs,(0≤i∧es[i.toNat]?=some cs)∧cs.length=(T e).size∧K (.cptr cs)
   |.msl r n=>(0≤i∧i<n)∧K (.eref r n (T e).size i.toNat 0)
   |_=>False
 |.array n e,.v (.int .i64 i)=>match(T e).size with
  |0=>False
  |_+1=>match x with
   |.cptr cs=>(0≤i∧i<n)∧K (.cptr (cs.drop (i.toNat*(T e).size)))
   |.ref r off=>(0≤i∧i<n)∧K (.ref r (off+i.toNat*(T e).size))
   |_=>False
 |_,_=>False
def SJ(T:GK)(t:Nat)(x ix:AV)(K:AV→Prop):Prop :=
 match(T t).d,x,ix with
 |.string,.v (.string s),.v (.int .i64 i)=>∃b:UInt8,(0≤i∧s.data[i.toNat]?=some b)∧K (.v (.int .u8 b.toNat))
 |.array n e,.agg cs,.v (.int .i64 i)=>(0≤i∧i<n)∧XV T e (cs.drop (i.toNat*(T e).size)) K
 |_,_,_=>False
def B4(t:Nat→AV):Option Operand→Option (Option Int)
 |none=>some none
 |some x=>match ev t x with |.v (.int .i64 i)=>some (some i) |_=>none
def over{α:Type}(cs:List α)(o:Nat)(vs:List α):List α :=
 match cs with
 | []=>[]
 |c::cs=>match o with
  |o+1=>c::over cs o vs
  |0=>match vs with
   | []=>c::cs
   |v::vs=>v::over cs 0 vs
structure Gh where
 ρ:Nat→Value
 ln:Nat→Nat
 tk:Nat→Bool
 own:Nat→Option Nat
 S:Nat→Nat→Prop

def I1:List KS→List Value→Bool
 | [],[]=>true
 |k::r,v::s=>match M9 k v with |true=>I1 r s |false=>false
 |_,_=>false
def U5(sh:Ez)(v:Value):Bool :=
 match sh.agg,v with
 |true,.agg cs=>I1 sh.l cs.toList
 |false,v=>I1 sh.l [v]
 |_,_=>false

def G7(sh:Ez)(es:Array MapEntry)(ck:Nat)(B5:List (Value×AV)):Prop :=
 es.size=B5.length∧(∀(i:Nat) (kv:Value×AV) (e:MapEntry),B5[i]?=some kv→es[i]?=some e→e.key=kv.1) ∧
 (∀kv∈B5,U5 sh kv.1=true)∧(B5.map (·.1)).Nodup∧(∀(i:Nat) (e:MapEntry),es[i]?=some e→e.born<ck) ∧
 ∀(i j:Nat) (e e' : MapEntry),es[i]?=some e→es[j]?=some e'→e.born=e'.born→i=j

inductive BF(g:Gh)(w:World):(Nat→Prop)→AV→Value→Prop
 |v (U:Nat→Prop) (x:Value):BF g w U (.v x) x
 |junk (U:Nat→Prop) (x:Value):BF g w U .junk x
 |snil (U:Nat→Prop) (a:Option Addr) (cap:Nat):BF g w U (.slice .none []) (.slice a 0 cap)
 |slice (U:Nat→Prop) (es:List (List AV)) (b off sz cap:Nat) (val:Nat→Nat→Value) (hc:es.length≤cap)
   (hl:∀(i:Nat) (cs:List AV),es[i]?=some cs→cs.length=sz)
   (CY:∀(i:Nat) (cs:List AV) (j:Nat) (av:AV),es[i]?=some cs→cs[j]?=some av →
    g.S b (off+i*sz+j)∧w.cell? ⟨b,off+i*sz+j,none⟩=some (val i j)∧(val i j).oneCell'=true)
   (El:∀(i:Nat) (cs:List AV) (j:Nat) (av:AV),es[i]?=some cs→cs[j]?=some av→BF g w (fun _=>False) av (val i j)) :
   BF g w U (.slice .none es) (.slice (some ⟨b,off,none⟩) es.length cap)
 |tok (U:Nat→Prop) (r sz:Nat) (es:List (List AV)) (x:Value) (h:BF g w U (.slice .none es) x) (hl:∀c∈es,c.length=sz) (hu:U r) (ht:g.tk r=true) (hn:es.length≤g.ln r)
   (hx:es.length=g.ln r→x=g.ρ r):BF g w U (.slice (.id r sz) es) x
 |ver (U:Nat→Prop) (r sz v:Nat) (es:List (List AV)) (x:Value) (h:BF g w U (.slice .none es) x) (hl:∀c∈es,c.length=sz) (hu:U r) (ht:g.tk r=true) (hn:v≤g.ln r)
   (hx:v=g.ln r→x=g.ρ r):BF g w U (.slice (.ver r sz v) es) x
 |full (U:Nat→Prop) (sz:Nat) (es:List (List AV)) (x:Value) (h:BF g w U (.slice .none es) x) (hl:∀c∈es,c.length=sz) (hx:∃a,x=.slice a es.length es.length):BF g w U (.slice (.full sz) es) x
 |msl (U:Nat→Prop) (r n:Nat) (a:Option Addr) (cap:Nat) (hu:U r) (ht:g.tk r=true) (hn:n≤g.ln r) (ha:n=0∨∃b,a=some ⟨b,0,none⟩) (hx:n=g.ln r→.slice a n cap=g.ρ r) :
   BF g w U (.msl r n) (.slice a n cap)
 |agg (U:Nat→Prop) (cs:List AV) (vs:Array Value) (hs:vs.size=cs.length) (h1:∀(i:Nat) (x:Value),vs[i]?=some x→x.oneCell'=true)
   (h:∀(i:Nat) (av:AV) (x:Value),cs[i]?=some av→vs[i]?=some x→BF g w U av x):BF g w U (.agg cs) (.agg vs)
 |tup (U:Nat→Prop) (cs:List AV) (vs:Array Value) (hs:vs.size=cs.length)
   (h:∀(i:Nat) (av:AV) (x:Value),cs[i]?=some av→vs[i]?=some x→BF g w U av x):BF g w U (.tup cs) (.tuple vs)
 |cptr (U:Nat→Prop) (cs:List AV) (b off:Nat) (val:Nat→Value)
   (CY:∀(j:Nat) (av:AV),cs[j]?=some av→g.S b (off+j)∧w.cell? ⟨b,off+j,none⟩=some (val j)∧(val j).oneCell'=true)
   (El:∀(j:Nat) (av:AV),cs[j]?=some av→BF g w (fun _=>False) av (val j)) :
   BF g w U (.cptr cs) (.pointer (some ⟨b,off,none⟩))
 |ref (U:Nat→Prop) (r off b:Nat) (hu:U r) (ht:g.tk r=false) (hx:g.ρ r=.pointer (some ⟨b,0,none⟩)):BF g w U (.ref r off) (.pointer (some ⟨b,off,none⟩))
 |eref (U:Nat→Prop) (r n sz i off b cap:Nat) (hu:U r) (ht:g.tk r=true) (hn:i<n∧n≤g.ln r) (hx:n=g.ln r→g.ρ r=.slice (some ⟨b,0,none⟩) n cap) :
   BF g w U (.eref r n sz i off) (.pointer (some ⟨b,i*sz+off,none⟩))
 |mref (U:Nat→Prop) (r b:Nat) (hu:U r) (ht:g.tk r=false) (hx:g.ρ r=.map (some b)):BF g w U (.mref r) (.map (some b))
 |cmap (U:Nat→Prop) (sh:Ez) (B5:List (Value×AV)) (b:Nat) (es:Array MapEntry) (ck:Nat) (hS:g.S b 0) (hb:w.heap[b]?=some (.map es ck)) (hm:G7 sh es ck B5)
   (h:∀(i:Nat) (kv:Value×AV) (e:MapEntry),B5[i]?=some kv→es[i]?=some e→BF g w (fun _=>False) kv.2 e.val):BF g w U (.cmap sh B5) (.map (some b))
 |clo (U:Nat→Prop) (f:Nat) (cs:List AV) (vs:Array Value) (hs:vs.size=cs.length)
   (h:∀(i:Nat) (av:AV) (x:Value),cs[i]?=some av→vs[i]?=some x→BF g w U av x):BF g w U (.clo f cs) (.func (.func f) #[] vs)

def HO.live:HO→Prop
 |.free |.dead |.vox _ |.ro _ |.rom _ _=>False
 |_=>True
def AK(h:Nat→HO)(r:Nat):Prop:=h r≠.free
def E8:Nat→Prop:=fun _=>False

def CE(g:Gh)(w:World)(U:Nat→Prop)(cs:List AV)(vs:List Value):Prop :=
 vs.length=cs.length∧(∀x∈vs,x.oneCell'=true)∧∀(i:Nat) (av:AV) (x:Value),cs[i]?=some av→vs[i]?=some x→BF g w U av x

def Lz:List Nat→Code→Bool
 |bs,.block id c=>Lz (id::bs) c
 |bs,.seq a b=>Lz bs a||Lz bs b
 |bs,.cond _ a b=>Lz bs a||Lz bs b
 |bs,.loop c=>Lz bs c
 |bs,.exit id=>!(bs.any fun i=>Nat.beq i id)
 |_,_=>false
def mg:Obj→Bool
 |.loop r=>Lz [] r.body
 |_=>false
def D4(g:Gh)(w:World)(U:Nat→Prop)(r:Nat):HO→Prop
 |.free |.dead=>True
 |.cells cs=>g.tk r=false∧∃b E vs,g.own r=some b∧g.ρ r=.pointer (some ⟨b,0,none⟩)∧w.heap[b]?=some (.cells vs E (0,0))∧CE g w U cs vs.toList∧∀o,¬g.S b o
 |.ro cs=>g.tk r=false∧∃b,g.ρ r=.pointer (some ⟨b,0,none⟩)∧BF g w E8 (.cptr cs) (.pointer (some ⟨b,0,none⟩))
 |.tok sz n=>g.tk r=true∧g.ln r=n∧∃a cap,g.ρ r=.slice a n cap∧(n=cap∧g.own r=none ∨
   n≤cap∧∃b E vs off,a=some ⟨b,off,none⟩∧g.own r=some b∧w.heap[b]?=some (.cells vs E (0,0))∧vs.size=off+cap*sz∧∀o,g.S b o→o<off+n*sz)
 |.var sz v n=>g.tk r=true∧g.ln r=v∧∃a cap,g.ρ r=.slice a n cap∧(n=cap∧g.own r=none ∨
   n≤cap∧∃b E vs off,a=some ⟨b,off,none⟩∧g.own r=some b∧w.heap[b]?=some (.cells vs E (0,0))∧vs.size=off+cap*sz∧∀o,g.S b o→o<off+n*sz)
 |.vox v=>g.tk r=true∧g.ln r=v
 |.arr sz es=>g.tk r=true∧g.ln r=es.length∧(∀cs∈es,cs.length=sz)∧(es=[]∧g.ρ r=.slice none 0 0∧g.own r=none ∨
   ∃b cap E vs,g.ρ r=.slice (some ⟨b,0,none⟩) es.length cap∧g.own r=some b∧es.length≤cap∧w.heap[b]?=some (.cells vs E (0,0))∧vs.size=cap*sz ∧
    CE g w E8 es.flatten (vs.toList.take (es.length*sz))∧∀o,¬g.S b o)
 |.map sh B5=>g.tk r=false∧∃b es ck,g.own r=some b∧g.ρ r=.map (some b)∧w.heap[b]?=some (.map es ck)∧G7 sh es ck B5 ∧
   (∀(i:Nat) (kv:Value×AV) (e:MapEntry),B5[i]?=some kv→es[i]?=some e→BF g w E8 kv.2 e.val)∧∀o,¬g.S b o
 |.mapU sh B5=>g.tk r=false∧∃b es ck,g.own r=some b∧g.ρ r=.map (some b)∧w.heap[b]?=some (.map es ck)∧G7 sh es ck B5 ∧
   (∀(i:Nat) (kv:Value×AV) (e:MapEntry),B5[i]?=some kv→es[i]?=some e→BF g w U kv.2 e.val)∧∀o,¬g.S b o
 |.rom sh B5=>g.tk r=false∧∃b,g.ρ r=.map (some b)∧BF g w E8 (.cmap sh B5) (.map (some b))
 |.iter all rem F2=>g.tk r=false∧∃b mb JU seen st es ck,g.own r=some b∧g.ρ r=.pointer (some ⟨b,0,none⟩)∧w.heap[b]?=some (.mapIter (some mb) JU seen st) ∧
   g.S mb 0∧w.heap[mb]?=some (.map es ck)∧(∃sh,G7 sh es ck all)∧JU=ck∧st=ck ∧
   (∀(i:Nat) (kv:Value×AV) (e:MapEntry),all[i]?=some kv→es[i]?=some e→BF g w E8 kv.2 e.val) ∧
   (rem.Nodup∧∀kv∈rem,kv∈all)∧(∀(i:Nat) (kv:Value×AV) (e:MapEntry),all[i]?=some kv→es[i]?=some e→(kv∈rem↔e.born∉seen)) ∧
   (match F2 with | none=>True | some kv=>∃(i:Nat) (e:MapEntry),all[i]?=some kv∧es[i]?=some e∧seen.back?=some e.born)∧∀o,¬g.S b o
 |.raw b ob=>g.tk r=false∧g.own r=some b∧w.heap[b]?=some ob∧mg ob=true∧∀o,¬g.S b o

def gB:Nat:=0
def pL:List (Nat×Nat×Option Value):=[]
def Vl(g:Gh)(w:World):Prop:=(g.S gB 0∧∃m,w.cell? ⟨gB,0,none⟩=some (.int .i64 m))∧∀x∈pL,g.S x.1 x.2.1∧w.cell? ⟨x.1,x.2.1,none⟩=x.2.2
structure Dk(w0:World)(g0:Gh)(h0:Nat→HO)(h:Nat→HO)(g:Gh)(w:World):Prop where
 os:w.os=w0.os
 tape:w.tape=w0.tape
 output:w.output=w0.output
 size:w0.heap.size≤w.heap.size
 frame:∀b,b<w0.heap.size→(∀r,(h0 r).live→g0.own r≠some b)→w.heap[b]?=w0.heap[b]?
 slt:∀b o,g.S b o→b<w.heap.size
 objs:∀r,D4 g w (AK h) r (h r)
 inj:∀r r' b,(h r).live→(h r').live→g.own r=some b→g.own r'=some b→r=r'
 loc:∀r b,(h r).live→g.own r=some b→b<w.heap.size∧(w0.heap.size≤b∨∃r',(h0 r').live∧g0.own r'=some b)
 sg:∀b o,g.S b o→g0.S b o∨w0.heap.size≤b∨∃r',(h0 r').live∧g0.own r'=some b
 glob:Vl g w

def EP(g:Gh)(w:World)(g' : Gh)(w' : World):Prop :=
 ∀b o,g.S b o→g'.S b o∧w'.cell? ⟨b,o,none⟩=w.cell? ⟨b,o,none⟩∧∀es ck,w.heap[b]?=some (.map es ck)→w'.heap[b]?=some (.map es ck)
def JW(g g' : Gh)(U:Nat→Prop):Prop :=
 ∀i,U i→g'.tk i=g.tk i∧g.ln i≤g'.ln i∧(g.tk i=false→g'.ρ i=g.ρ i)∧(g'.ln i=g.ln i→g'.ρ i=g.ρ i)

structure Le(h:Nat→HO)(g:Gh)(w:World)(h' : Nat→HO)(g' : Gh)(w' : World):Prop where
 gh:JW g g' (AK h)
 us:∀i,AK h i→AK h' i
 keeps:EP g w g' w'

def Gb (P : Program) (f : Nat) : Prop := ∃ fn, P.funcs[f]? = some fn ∧ (fn.name == "runtime.NumGoroutine") = false ∧ fn.body.isNone = false

def Bn(P:Program)(f:Nat)(args:List AV)(h0:Nat→HO)(Q:AV→(Nat→HO)→Prop):Prop :=
 Gb P f∧∀(g:Gh) (w:World) (vals:Array Value),vals.size=args.length→(∀(i:Nat) (av:AV) (x:Value),args[i]?=some av→vals[i]?=some x→BF g w (AK h0) av x) →
  Dk w g h0 h0 g w →
  Calls P f vals w fun e w'=>∃v r h' g',e=.returned v∧Q r h'∧BF g' w' (AK h') r v∧Dk w g h0 h' g' w'∧Le h0 g w h' g' w'

def Ln(P:Program)(f:Nat)(args:List AV)(res:AV):Prop:=Bn P f args Aa fun r h'=>r=res∧h'=Aa

def GH(P:Program)(Y:Gh→World→Prop)(l:Nat)(args:List AV)(h0:Nat→HO)(Q:AV→(Nat→HO)→Prop):Prop :=
 ∀(g:Gh) (w:World) (vals:Array Value),vals.size=args.length→(∀(i:Nat) (av:AV) (x:Value),args[i]?=some av→vals[i]?=some x→BF g w (AK h0) av x) →
  Dk w g h0 h0 g w→Y g w →
  YieldAt Fence.wide 0 P l vals w fun e w'=>∃v r h' g',e=.returned v∧Q r h'∧BF g' w' (AK h') r v∧Dk w g h0 h' g' w'∧Le h0 g w h' g' w'
def FS(P:Program)(Y:Gh→World→Prop)(f:Nat)(args:List AV)(h0:Nat→HO)(Q:AV→(Nat→HO)→Prop):Prop :=
 Gb P f∧∀(g:Gh) (w:World) (vals:Array Value),vals.size=args.length→(∀(i:Nat) (av:AV) (x:Value),args[i]?=some av→vals[i]?=some x→BF g w (AK h0) av x) →
  Dk w g h0 h0 g w→Y g w →
  Calls P f vals w fun e w'=>∃v r h' g',e=.returned v∧Q r h'∧BF g' w' (AK h') r v∧Dk w g h0 h' g' w'∧Le h0 g w h' g' w'
def Ga(P:Program)(Y:Nat→Gh→World→Prop)(F:AV)(args:List AV)(h:Nat→HO)(Q:AV→(Nat→HO)→Prop):Prop :=
 match F with
 |.v (.func (.func f) ⟨[]⟩ ⟨[]⟩)=>Bn P f args h Q
 |.clo f caps=>Bn P f (args++caps) h Q
 |.v (.func (.yield l) ⟨[]⟩ ⟨[]⟩)=>GH P (Y l) l args h Q
 |_=>False
def O8(P:Program)(F:AV)(args:List AV)(res:AV):Prop :=
 match F with
 |.v (.func (.func f) ⟨[]⟩ ⟨[]⟩)=>Ln P f args res
 |.clo f caps=>Ln P f (args++caps) res
 |_=>False

structure Cx where
 P:Program
 T:GK
 pl:O3
 ext:Bool
 nid:Nat
 yp:Nat→List (Nat×Nat)→Gh→World→Prop
def Kq(cx:Cx)(d:Nat):Nat:=bif IB cx.pl.dyn d then cx.nid else d

abbrev HK:=AV→(Nat→HO)→Prop

def RK(T:GK)(d:Option Nat)(h:Nat→HO)(e:Nat)(K:HK):Prop :=
 match d with
 |none=>False
 |some d=>match h d with
  |.free=>match(T e).d with
   |.other=>False
   |_=>match HR ((T e).zc.map .v)with
    |true=>K (.ref d 0) (AT h d (.cells ((T e).zc.map .v)))
    |false=>False
  |_=>False
def G2(n:Nat)(a:AV)(K:List AV→Prop):Prop :=
 match a with
 |.agg cs=>match Nat.beq cs.length n with
  |true=>K cs
  |false=>False
 |a=>match one a with
  |true=>match n with
   |1=>K [a]
   |_=>False
  |false=>False
def bh(cx:Cx)(d:Option Nat)(h:Nat→HO)(e:Nat)(x:AV)(K:HK):Prop :=
 match d with
 |none=>False
 |some d=>match h d with
  |.free=>match(cx.T e).d with
   |.other=>False
   |_=>G2 (cx.T e).size x fun cs=>match IB cx.pl.frz d with
    |true=>K (.ref d 0) (AT h d (.ro (cs.map (str h))))
    |false=>K (.ref d 0) (AT h d (.cells cs))
  |_=>False
def PT(cx:Cx)(h:Nat→HO)(t:Nat)(p x:AV)(K:HK):Prop :=
 match(cx.T t).d with
 |.other=>False
 |_=>G2 (cx.T t).size x fun vs=>match p with
  |.ref r off=>match h r with
   |.cells cs=>off+vs.length≤cs.length∧(match IB cx.pl.frz r with
    |true=>K (.v undef) (AT h r (.ro ((over cs off vs).map (str h))))
    |false=>K (.v undef) (AT h r (.cells (over cs off vs))))
   |_=>False
  |.eref r n sz i off=>match h r with
   |.arr GP es=>match Nat.beq sz GP with
    |true=>n=es.length∧∃cs,es[i]?=some cs∧off+vs.length≤sz∧K (.v undef) (AT h r (.arr sz (es.set i (over cs off (vs.map (str h))))))
    |false=>False
   |_=>False
  |_=>False
def IA(T:GK)(h:Nat→HO)(t:Nat)(p:AV)(K:AV→Prop):Prop :=
 match p with
 |.cptr cs=>Mc T t cs K
 |.ref r off=>match h r with
  |.cells cs=>Mc T t (cs.drop off) K
  |.ro cs=>Mc T t (cs.drop off) K
  |_=>False
 |.eref r n sz i off=>match h r with
  |.arr GP es=>match Nat.beq sz GP with
   |true=>n=es.length∧∃cs,es[i]?=some cs∧Mc T t (cs.drop off) K
   |false=>False
  |_=>False
 |_=>False
def Ks(pl:Nat→Option (Nat×Nat))(cs:List AV)(t:Nat→AV)(ps:List (Nat×Operand))(K:List AV→Prop):Prop :=
 match ps with
 | []=>K cs
 |(i,x)::r=>match pl i with
  |none=>False
  |some (o,n)=>G2 n (ev t x) fun vs=>match Nat.ble (o+n) cs.length with
   |true=>Ks pl (over cs o vs) t r K
   |false=>False
def N5(T:GK):List (Nat×Nat)→Bool
 | []=>true
 |(t,_)::r=>match(T t).size with |0=>false |_+1=>N5 T r
def Pd(T:GK)(ty:Nat)(t:Nat→AV)(ps:List (Nat×Operand))(K:AV→Prop):Prop :=
 match HR ((T ty).zc.map .v)with
 |false=>False
 |true=>match(T ty).d with
  |.struct fs=>match N5 T fs with
   |false=>False
   |true=>Ks (fun i=>match VG fs i with |some (t,o)=>some (o,(T t).size) |none=>none) ((T ty).zc.map .v) t ps fun cs=>K (.agg cs)
  |.array _ e=>match(T e).size with
   |0=>False
   |_+1=>Ks (fun i=>some (i*(T e).size,(T e).size)) ((T ty).zc.map .v) t ps fun cs=>K (.agg cs)
  |_=>False
def Qn(n sz:Nat)(h:Nat→HO)(es:List (List AV))(t:Nat→AV)(ps:List (Nat×Operand))(K:List (List AV)→Prop):Prop :=
 match ps with
 | []=>K es
 |(i,x)::r=>match Nat.blt i n with
  |true=>G2 sz (ev t x) fun vs=>Qn n sz h (es.set i (vs.map (str h))) t r K
  |false=>False
def Ep(cx:Cx)(d:Option Nat)(h:Nat→HO)(sz:Nat)(es:List (List AV))(K:HK):Prop :=
 match d with
 |none=>False
 |some d=>match h (Kq cx d)with
  |.free=>match Eb cx.pl.arr d with
   |some _=>K (.msl (Kq cx d) es.length) (AT h (Kq cx d) (.arr sz es))
   |none=>K (.slice (.id (Kq cx d) sz) es) (AT h (Kq cx d) (.tok sz es.length))
  |_=>False
def If(cx:Cx)(d:Option Nat)(h:Nat→HO)(ty n:Nat)(t:Nat→AV)(ps:List (Nat×Operand))(K:HK):Prop :=
 match(cx.T ty).d with
 |.slice e=>match HR ((cx.T e).zc.map .v),Nat.beq (cx.T e).zc.length (cx.T e).size with
  |true,true=>match(cx.T e).size with
   |0=>False
   |_+1=>match Nat.ble (n*(cx.T e).size) 16777216 with
    |true=>Qn n (cx.T e).size h (List.replicate n ((cx.T e).zc.map .v)) t ps fun es=>Ep cx d h (cx.T e).size es K
    |false=>False
  |_,_=>False
 |_=>False
def Kz(t:Nat→AV)(h:Nat→HO)(fn:Fn)(first captured:List Operand)(K:AV→Prop):Prop :=
 match fn,first with
 |.func f,[]=>K (.clo f (captured.map fun x=>rsv h (ev t x)))
 |_,_=>False
def BY(sz:Nat):List (List AV)→Prop
 | []=>True
 |c::r=>c.length=sz∧BY sz r
def K2(h:Nat→HO)(x:AV)(K:List (List AV)→Prop):Prop :=
 match x with
 |.slice _ es=>K es
 |.v (.slice none 0 0)=>K []
 |.msl r n=>match h r with
  |.arr _ es=>n=es.length∧K es
  |_=>False
 |_=>False
def H2(cx:Cx)(d:Option Nat)(h:Nat→HO)(ty:Nat)(s x:AV)(K:HK):Prop :=
 match(cx.T ty).d with
 |.slice e=>match Nat.beq (cx.T e).zc.length (cx.T e).size with
  |false=>False
  |true=>match(cx.T e).size with
   |0=>False
   |_+1=>K2 h x fun es2=>match s with
    |.v (.slice none 0 0)=>(BY (cx.T e).size es2∧es2.length*(cx.T e).bytes≤140737488355328∧es2.length≤9223372036854775807)∧Ep cx d h (cx.T e).size es2 K
    |.slice (.full GP) es=>match Nat.beq GP (cx.T e).size with
     |true=>(BY (cx.T e).size es2∧0<es2.length∧(es.length+es2.length)*(cx.T e).bytes≤140737488355328∧es.length+es2.length≤9223372036854775807)∧Ep cx d h (cx.T e).size (es++es2) K
     |false=>False
    |.slice (.id r GP) es=>match h r with
     |.tok sz n=>match Nat.beq sz (cx.T e).size,Nat.beq GP sz with
      |true,true=>(BY sz es2∧es.length=n∧(es.length+es2.length)*(cx.T e).bytes≤140737488355328∧es.length+es2.length≤9223372036854775807) ∧
        K (.slice (.id r sz) (es++es2)) (AT h r (.tok sz (es.length+es2.length)))
      |_,_=>False
     |_=>False
    |.msl r n=>match h r with
     |.arr sz es=>match Nat.beq sz (cx.T e).size with
      |true=>(BY sz es2∧es.length=n∧(es.length+es2.length)*(cx.T e).bytes≤140737488355328∧es.length+es2.length≤9223372036854775807) ∧
        K (.msl r (es.length+es2.length)) (AT h r (.arr sz (es++es2)))
      |false=>False
     |_=>False
    |_=>False
 |_=>False

abbrev Hh:=List (Nat×Nat)
inductive oR | pure | rel | gen (σ:Hh) (nn:Nat) | geny (σ:Hh) (nn:Nat)
def Ch(σ:Hh)(n:Nat):Option Nat :=
 match σ with
 | []=>none
 |(i,j)::r=>bif Nat.beq i n then some j else Ch r n
def Gx(σ:Hh)(n:Nat):Option Nat :=
 match σ with
 | []=>none
 |(i,j)::r=>bif Nat.beq j n then some i else Gx r n
def DZ:Hh→Bool
 | []=>true
 |(i,j)::r=>(match Ch r i,Gx r j with |none,none=>true |_,_=>false)&&Nat.ble 1000 j&&Nat.blt j 2000&&DZ r

def EH:Hh→Bool
 | []=>true
 |(i,j)::r=>(match Ch r i,Gx r j with |none,none=>true |_,_=>false)&&EH r
def ren0(f:Nat→Option Nat)(h:Nat→HO):AV→AV
 |.slice (.id r sz) es=>match f r with |some r'=>.slice (.id r' sz) es |none=>.slice .none es
 |.slice (.ver r sz v) es=>match f r with |some r'=>.slice (.ver r' sz v) es |none=>.slice .none es
 |.msl r n=>match f r with |some r'=>.msl r' n |none=>.junk
 |.ref r off=>match f r with |some r'=>.ref r' off |none=>str0 h (.ref r off)
 |.eref r n sz i off=>match f r with |some r'=>.eref r' n sz i off |none=>.junk
 |.mref r=>match f r with |some r'=>.mref r' |none=>str0 h (.mref r)
 |a=>str0 h a
def ren1(f:Nat→Option Nat)(h:Nat→HO):AV→AV
 |.agg cs=>.agg (cs.map (ren0 f h))
 |.clo g cs=>.clo g (cs.map (ren0 f h))
 |a=>ren0 f h a
def ren(f:Nat→Option Nat)(h:Nat→HO):AV→AV
 |.tup cs=>.tup (cs.map (ren1 f h))
 |a=>ren1 f h a
def HO.ren(f:Nat→Option Nat)(h:Nat→HO):HO→HO
 |.cells cs=>.cells (cs.map (ren1 f h))
 |.mapU sh B5=>.mapU sh (B5.map fun p=>(p.1,ren1 f h p.2))
 |o=>o
def Ad(l:List (Nat×HO))(hb:Nat→HO)(i:Nat):HO:=match l with | []=>hb i | (j,v)::r=>bif Nat.beq i j then v else Ad r hb i
def Wb(f:Nat→Option Nat)(h:Nat→HO):Hh→List (Nat×HO)
 | []=>[]
 |(i,j)::r=>(j,(h i).ren f h)::Wb f h r
def E3(σ:Hh)(h:Nat→HO):Nat→HO:=Ad (Wb (Ch σ) h σ) Aa
def Bu(d k:Nat):Nat:=10000+100*d+k
def E7(σ:Hh)(d nn:Nat)(j:Nat):Option Nat :=
 match Gx σ j with
 |some i=>some i
 |none=>match Nat.ble 2000 j&&Nat.blt j (2000+nn)with |true=>some (Bu d (j-2000)) |false=>none
def D2(σ:Hh)(d nn:Nat)(h h' : Nat→HO):Nat→HO:=fun i =>
 match Ch σ i with
 |some j=>(h' j).ren (E7 σ d nn) h'
 |none=>match Nat.ble (Bu d 0) i&&Nat.blt i (Bu d nn)with |true=>(h' (2000+(i-Bu d 0))).ren (E7 σ d nn) h' |false=>h i
def Dq(h:Nat→HO)(d:Nat):Nat→Bool
 |0=>true
 |k+1=>(match h (Bu d k)with |.free=>true |_=>false)&&Dq h d k
def CZ(σ:Hh)(d nn:Nat):Bool :=
 match σ with
 | []=>true
 |(i,_)::r=>!(Nat.ble (Bu d 0) i&&Nat.blt i (Bu d nn))&&CZ r d nn

def Nl(l:List (Nat×Nat))(d:Option Nat):Option Nat:=match d with | none=>none | some d=>Eb l d
def aj:AV→Bool | .tup _=>false | _=>true
def SZ:List AV→Bool
 | []=>true
 |a::r=>match aj a with |true=>SZ r |false=>false
def Vg:List AV→Option (List Value)
 | []=>some []
 |.v x::r=>match Vg r with |some l=>some (x::l) |none=>none
 |_=>none
def QO(cx:Cx)(k:Nat)(d:Option Nat)(h:Nat→HO)(F:AV)(args:List AV)(K:HK):Prop :=
 match d,F,args with
 |some d,.v (.func (.func f) ⟨[]⟩ ⟨[]⟩),.msl r n::l=>match Vg l with
  |some vs=>match h r with
   |.arr sz es=>match k with
    |0=>∃n' EA,Bn cx.P f (.msl 1000 n::vs.map .v) (Ad [(1000,.arr sz es)] Aa) (fun r' h'=>r'=.msl 1000 n'∧h'=Ad [(1000,.arr sz EA)] Aa)∧K (.msl r n') (AT h r (.arr sz EA))
    |_+1=>∃n' EA,(Dq h d 1&&Nat.blt r 10000000&&!Nat.beq r (Bu d 0))=true∧Bn cx.P f (.msl 1000 n::vs.map .v) (Ad [(1000,.arr sz es)] Aa) (fun r' h'=>r'=.msl 2000 n'∧h'=Ad [(1000,.dead),(2000,.arr sz EA)] Aa) ∧
      K (.msl (Bu d 0) n') (AT (AT h r .dead) (Bu d 0) (.arr sz EA))
   |_=>False
  |none=>False
 |_,_,_=>False
def TE(cx:Cx)(d:Option Nat)(st:St)(F:AV)(args:List AV)(K:HK):Prop :=
 match d with
 |none=>False
 |some d=>∃sz es,(Dq st.h d 1&&aj F&&SZ args)=true∧Ga cx.P (fun l=>cx.yp l []) (str st.h F) (args.map (str st.h)) Aa (fun r h'=>r=.slice (.id 2000 sz) es∧h'=Ad [(2000,.tok sz es.length)] Aa) ∧
   K (.slice (.id (Bu d 0) sz) es) (AT st.h (Bu d 0) (.tok sz es.length))
def Qc(cx:Cx)(d:Option Nat)(st:St)(F:AV)(args:List AV)(K:HK):Prop :=
  match d,F,Vg args with
  |some _,.v (.func (.yield l) ⟨[]⟩ ⟨[]⟩),some vs=>match st.h 1000,st.h 1001 with
    |.cells [.slice (.id r sz) es],.tok la n=>(r=1001∧la=sz)∧∃v EA n',GH cx.P (cx.yp l [(1000,1000),(1001,1001)]) l (vs.map .v) (Ad [(1000,.cells [.slice (.id 1001 sz) es]),(1001,.tok sz n)] Aa)
          (fun r h'=>r=.v v∧h'=Ad [(1000,.cells [.slice (.id 1001 sz) EA]),(1001,.tok sz n')] Aa) ∧
        K (.v v) (AT (AT st.h 1001 (.tok sz n')) 1000 (.cells [.slice (.id 1001 sz) EA]))
    |_,_=>False
  |_,_,_=>False
def jz:List Nat:=[1000,1001,1002,1003,1004,1005,1006,1007]
def W4(cx:Cx)(d:Option Nat)(st:St)(F:AV)(args:List AV)(K:HK):Prop :=
 match d,F with
 |some d,.v (.func (.func f) ⟨[]⟩ ⟨[]⟩)=>∃(σ:Hh) (H0 Hn:List (Nat×HO)) (args' : List AV) (res:AV),
   (∀h2:Nat→HO,(∀r∈jz,h2 r=st.h r)→E3 σ h2=Ad H0 Aa∧args.map (ren (Ch σ) h2)=args')∧(DZ σ&&CZ σ d 0&&σ.all fun p=>IB jz p.1)=true ∧
   Bn cx.P f args' (Ad H0 Aa) (fun r h'=>r=res∧h'=Ad Hn Aa)∧K (ren (E7 σ d 0) (Ad Hn Aa) res) (D2 σ d 0 st.h (Ad Hn Aa))
 |_,_=>False
def OS(cx:Cx)(k:Nat)(d:Option Nat)(st:St)(F:AV)(args:List AV)(K:HK):Prop :=
 match Nat.beq k 4 with
 |true=>W4 cx d st F args K
 |false=>QO cx k d st.h F args K
def Gm(cx:Cx)(dr:Bool)(d:Option Nat)(st:St)(F:AV)(args:List AV)(K:HK):Prop :=
 match dr with
 |true=>match Nl cx.pl.dc d with
  |none=>∃res,O8 cx.P (str st.h F) (args.map (str st.h)) res∧K res st.h
  |some 0=>match d with
   |none=>False
   |some d=>∃n sz es,(Dq st.h d 1&&aj F&&SZ args)=true∧Ga cx.P (fun l=>cx.yp l []) (str st.h F) (args.map (str st.h)) Aa (fun r h'=>r=.msl 2000 n∧h'=Ad [(2000,.arr sz es)] Aa) ∧
     K (.msl (Bu d 0) n) (AT st.h (Bu d 0) (.arr sz es))
  |some (k+1)=>match Nat.beq k 2 with
   |true=>TE cx d st F args K
   |false=>match Nat.beq k 3 with
    |true=>Qc cx d st F args K
    |false=>OS cx k d st F args K
 |false=>∃m:oR,match m with
  |.pure=>∃res,O8 cx.P (str st.h F) (args.map (str st.h)) res∧K res st.h
  |.rel=>Ga cx.P (fun _ _ _=>True) (str st.h F) (args.map (str st.h)) Aa fun r h'=>h'=Aa∧K r st.h
  |.gen σ nn=>match d with
   |none=>False
   |some d=>(DZ σ&&Dq st.h d nn&&CZ σ d nn)=true ∧
     Ga cx.P (fun l=>cx.yp l σ) (ren (Ch σ) st.h F) (args.map (ren (Ch σ) st.h)) (E3 σ st.h) fun r h'=>K (ren (E7 σ d nn) h' r) (D2 σ d nn st.h h')
  |.geny σ nn=>match d with
   |none=>False
   |some d=>(DZ σ&&Dq st.h d nn&&CZ σ d nn)=true ∧
     match ren (Ch σ) st.h F with
     |.clo f caps=>FS cx.P (fun g w=>∀l,cx.yp l σ g w) f (args.map (ren (Ch σ) st.h)++caps) (E3 σ st.h) fun r h'=>K (ren (E7 σ d nn) h' r) (D2 σ d nn st.h h')
     |_=>False

def Wh:List AV→Option (List Value)
 | []=>some []
 |.v x::r=>match Wh r with |some l=>some (x::l) |none=>none
 |_=>none
def nv:AV→Option Value
 |.v x=>some x
 |.agg cs=>match Wh cs with |some l=>some (.agg l.toArray) |none=>none
 |_=>none
def HE(T:GK)(t:Nat):Option Ez :=
 match(T t).d with
 |.struct _=>match Hr T 8 t with |some l=>some ⟨true,l⟩ |none=>none
 |_=>match Hr T 1 t with |some l=>some ⟨false,l⟩ |none=>none
def kk:KS→KS→Bool
 |.int k,.int k'=>oM k k'
 |.str,.str=>true
 |.bool,.bool=>true
 |_,_=>false
def SM:List KS→List KS→Bool
 | [],[]=>true
 |a::r,b::s=>match kk a b with |true=>SM r s |false=>false
 |_,_=>false
def nY(a b:Ez):Bool :=
 match a.agg,b.agg with
 |true,true=>SM a.l b.l
 |false,false=>SM a.l b.l
 |_,_=>false
def J3(T:GK)(ty:Nat)(sh:Ez)(k:AV)(K:Value→Prop):Prop :=
 match(T ty).d with
 |.map kt _=>match HE T kt with
  |some sv=>match nY sh sv with
   |true=>match nv k with
    |some kx=>match U5 sh kx with
     |true=>K kx
     |false=>False
    |none=>False
   |false=>False
  |none=>False
 |_=>False
open Classical in
noncomputable def E1(B5:List (Value×AV))(k:Value)(a:AV):List (Value×AV) :=
 if ∃a',(k,a')∈B5 then B5.map fun p=>if p.1=k then(k,a)else p else B5++[(k,a)]
def KA(T:GK)(mku:List Nat)(d:Option Nat)(h:Nat→HO)(ty:Nat)(K:HK):Prop :=
 match d with
 |none=>False
 |some d=>match h d with
  |.free=>match(T ty).d with
   |.map kt _=>match HE T kt with
    |some sh=>match IB mku d with
     |true=>K (.mref d) (AT h d (.mapU sh []))
     |false=>K (.mref d) (AT h d (.map sh []))
    |none=>False
   |_=>False
  |_=>False
def G4(T:GK)(h:Nat→HO)(ty:Nat)(m k x:AV)(K:HK):Prop :=
 match m with
 |.mref r=>match h r with
  |.map sh B5=>J3 T ty sh k fun kx=>K (.v undef) (AT h r (.map sh (E1 B5 kx (str h x))))
  |.mapU sh B5=>J3 T ty sh k fun kx=>K (.v undef) (AT h r (.mapU sh (E1 B5 kx x)))
  |_=>False
 |_=>False
def J9(T:GK)(t:Nat)(K:AV→Prop):Prop :=
 match(T t).d with
 |.other=>False
 |_=>match(T t).zero with
  |.agg cs=>match HR (cs.toList.map .v)with |true=>K (.agg (cs.toList.map .v)) |false=>False
  |z=>K (.v z)
def LZ(T:GK)(ty:Nat)(ok:Bool)(B5:List (Value×AV))(kx:Value)(K:AV→Prop):Prop :=
 match(T ty).d with
 |.map _ e=>match ok with
  |true=>(∀a,(kx,a)∈B5→K (.tup [a,.v (.bool true)]))∧((∀a,(kx,a)∉B5)→J9 T e fun z=>K (.tup [z,.v (.bool false)]))
  |false=>(∀a,(kx,a)∈B5→K a)∧((∀a,(kx,a)∉B5)→J9 T e K)
 |_=>False
def LY(T:GK)(ty:Nat)(ok:Bool)(B5:List (Value×AV))(kx:Value)(K:AV→Prop):Prop :=
 match(T ty).d with
 |.map _ e=>match ok with
  |true=>(∃a,((kx,a)∈B5∧∀b,(kx,b)∈B5→b=a)∧K (.tup [a,.v (.bool true)]))∨((∀a,(kx,a)∉B5)∧J9 T e fun z=>K (.tup [z,.v (.bool false)]))
  |false=>(∃a,((kx,a)∈B5∧∀b,(kx,b)∈B5→b=a)∧K a)∨((∀a,(kx,a)∉B5)∧J9 T e K)
 |_=>False
def My(T:GK)(h:Nat→HO)(ty:Nat)(m k:AV)(ok:Bool)(K:AV→Prop):Prop :=
 match m with
 |.cmap sh B5=>J3 T ty sh k fun kx=>LY T ty ok B5 kx K
 |.mref r=>match h r with
  |.map sh B5=>J3 T ty sh k fun kx=>LY T ty ok B5 kx K
  |.mapU sh B5=>J3 T ty sh k fun kx=>LY T ty ok B5 kx K
  |.rom sh B5=>J3 T ty sh k fun kx=>LY T ty ok B5 kx K
  |_=>False
 |_=>False
def Mz(T:GK)(h:Nat→HO)(ty:Nat)(m k:AV)(ok:Bool)(K:AV→Prop):Prop :=
 match m with
 |.cmap sh B5=>J3 T ty sh k fun kx=>LZ T ty ok B5 kx K
 |.mref r=>match h r with
  |.map sh B5=>J3 T ty sh k fun kx=>LZ T ty ok B5 kx K
  |.mapU sh B5=>J3 T ty sh k fun kx=>LZ T ty ok B5 kx K
  |.rom sh B5=>J3 T ty sh k fun kx=>LZ T ty ok B5 kx K
  |_=>False
 |_=>False
def Zl(d:Option Nat)(h:Nat→HO)(x:AV)(K:HK):Prop :=
 match d with
 |none=>False
 |some d=>match h d with
  |.free=>match x with
   |.cmap _ B5=>K (.ref d 0) (AT h d (.iter B5 B5 none))
   |.mref r=>match h r with
    |.rom _ B5=>K (.ref d 0) (AT h d (.iter B5 B5 none))
    |.map sh B5=>K (.ref d 0) (AT (AT h r (.rom sh B5)) d (.iter B5 B5 none))
    |_=>False
   |_=>False
  |_=>False
def gv(h:Nat→HO)(x:AV)(K:HK):Prop :=
 match x with
 |.ref r 0=>match h r with
  |.iter all rem _=>(rem=[]→K (.tup [.v (.bool false)]) h) ∧
    (∀kv NM,rem.Perm (kv::NM)→K (.tup [.v (.bool true),.v kv.1,kv.2]) (AT h r (.iter all NM (some kv))))
  |_=>False
 |_=>False
def YE(h:Nat→HO)(x:AV)(K:AV→Prop):Prop :=
 match x with
 |.ref r 0=>match h r with
  |.iter _ _ (some kv)=>K (.tup [.v kv.1,kv.2])
  |_=>False
 |_=>False
def Qz(T:GK)(t:Nat)(h:Nat→HO)(x:AV)(K:AV→Prop):Prop :=
 match(T t).d with
 |.slice _=>match x with
  |.slice _ es=>K (.v (.int .i64 es.length))
  |.msl _ n=>K (.v (.int .i64 n))
  |.v (.slice none 0 0)=>K (.v (.int .i64 0))
  |_=>False
 |.string=>match x with
  |.v (.string s)=>K (.v (.int .i64 s.size))
  |_=>False
 |.map _ _=>match x with
  |.cmap _ B5=>K (.v (.int .i64 B5.length))
  |.mref r=>match h r with
   |.map _ B5=>K (.v (.int .i64 B5.length))
   |.mapU _ B5=>K (.v (.int .i64 B5.length))
   |.rom _ B5=>K (.v (.int .i64 B5.length))
   |_=>False
  |_=>False
 |_=>False
def Gy(cx:Cx)(d:Option Nat)(h:Nat→HO)(ty:Nat)(x:AV)(lo hi mx:Option (Option Int))(K:HK):Prop :=
 match lo,hi,mx with
 |some lo,some hi,some mx=>match(cx.T ty).d with
  |.string=>match mx,x with
   |none,.v (.string s)=>(0≤lo.getD 0∧lo.getD 0≤hi.getD s.size∧hi.getD s.size≤s.size)∧K (.v (.string (s.extract (lo.getD 0).toNat (hi.getD s.size).toNat))) h
   |_,_=>False
  |.slice e=>match(cx.T e).size with
   |0=>False
   |_+1=>match x with
    |.slice _ es=>match mx with
     |none=>(0≤lo.getD 0∧lo.getD 0≤hi.getD es.length∧hi.getD es.length≤es.length) ∧
       (∀cs∈es,cs.length=(cx.T e).size)∧K (.slice .none ((es.take (hi.getD es.length).toNat).drop (lo.getD 0).toNat)) h
     |some m=>match d,hi with
      |some d,some hi=>match Eb cx.pl.arr d with
       |some _=>(0≤lo.getD 0∧lo.getD 0≤hi∧m=hi∧hi≤es.length)∧(∀cs∈es,cs.length=(cx.T e).size) ∧
         K (.slice (.full (cx.T e).size) ((es.take hi.toNat).drop (lo.getD 0).toNat)) h
       |none=>match h d with
        |.free=>(0≤lo.getD 0∧lo.getD 0≤hi∧m=hi∧hi≤es.length)∧(∀cs∈es,cs.length=(cx.T e).size) ∧
          K (.slice (.id d (cx.T e).size) ((es.take hi.toNat).drop (lo.getD 0).toNat)) (AT h d (.tok (cx.T e).size (hi.toNat-(lo.getD 0).toNat)))
        |_=>False
      |_,_=>False
    |.v (.slice none 0 0)=>(lo.getD 0=0∧hi.getD 0=0∧mx.getD 0=0)∧(mx=none∨hi≠none)∧K (.v (.slice none 0 0)) h
    |.msl r n=>match h r with
     |.arr sz es=>match Nat.beq sz (cx.T e).size with
      |true=>(n=es.length∧0≤lo.getD 0∧lo.getD 0≤hi.getD es.length∧hi.getD es.length≤es.length∧(mx=none∨(mx=hi∧hi≠none))) ∧
        K (.slice .none ((es.take (hi.getD es.length).toNat).drop (lo.getD 0).toNat)) (AT h r .dead)
      |false=>False
     |_=>False
    |_=>False
  |_=>False
 |_,_,_=>False
def KJ(cx:Cx)(d:Option Nat)(h:Nat→HO)(ty:Nat)(x:AV)(lo:Option (Option Int))(hi mx:Option Operand)(K:HK):Prop :=
 match d,lo,hi,mx with
 |some d,some (some lo),none,none=>match(cx.T ty).d with
  |.slice e=>match(cx.T e).size with
   |0=>False
   |_+1=>match x with
    |.slice (.id r sz) es=>match h r with
     |.tok GP n=>match h (Kq cx d)with
      |.free=>match Nat.beq GP sz,Nat.beq sz (cx.T e).size with
       |true,true=>(es.length=n∧0≤lo∧lo≤es.length)∧K (.slice (.id (Kq cx d) sz) (es.drop lo.toNat)) (AT (AT h r .dead) (Kq cx d) (.tok sz (es.drop lo.toNat).length))
       |_,_=>False
      |_=>False
     |_=>False
    |_=>False
  |_=>False
 |_,_,_,_=>False
def gQ(cx:Cx)(d:Option Nat)(h:Nat→HO)(ty:Nat)(x:AV)(hi:Option (Option Int))(K:HK):Prop :=
 match d,hi with
 |some d,some (some hi)=>match(cx.T ty).d with
  |.slice e=>match(cx.T e).size with
   |0=>False
   |_+1=>match x with
    |.msl r n=>match h r with
     |.arr sz es=>match h (Kq cx d)with
      |.free=>match Nat.beq sz (cx.T e).size,Nat.blt r 10000000&&Nat.blt 0 (Kq cx d)with
       |true,true=>(n=es.length∧0≤hi∧hi≤es.length)∧K (.msl (Kq cx d) hi.toNat) (AT (AT h r .dead) (Kq cx d) (.arr sz (es.take hi.toNat)))
       |_,_=>False
      |_=>False
     |_=>False
    |_=>False
  |_=>False
 |_,_=>False
def Ti(cx:Cx)(d:Option Nat)(h:Nat→HO)(ty:Nat)(x:AV)(lo:Option Operand)(hi:Option (Option Int))(mx:Option Operand)(K:HK):Prop :=
 match lo,mx with
 |none,none=>gQ cx d h ty x hi K
 |_,_=>False
def yC:AV→AV
 |.slice _ es=>.slice .none es
 |a=>a
def N8(cx:Cx)(d:Option Nat)(h:Nat→HO)(x:AV)(K:HK):Prop :=
 match d with
 |none=>K x h
 |some d=>match Eb cx.pl.tok d with
  |some sz=>match Nat.beq sz 0 with
   |true=>K (yC x) h
   |false=>match x with
    |.v (.slice none 0 0)=>match h d with
     |.free=>K (.slice (.id d sz) []) (AT h d (.tok sz 0))
     |_=>False
    |x=>K x h
  |none=>match Eb cx.pl.arr d with
   |some sz=>match x with
    |.v (.slice none 0 0)=>match h d with
     |.free=>K (.msl d 0) (AT h d (.arr sz []))
     |_=>False
    |x=>K x h
   |none=>K x h
def kB(l:List AV)(n:Nat):Option AV :=
 match l with
 | []=>none
 |x::r=>match n with |0=>some x |n+1=>kB r n
def LW(x:AV)(i:Nat)(K:AV→Prop):Prop :=
 match x with
 |.tup vs=>match kB vs i with
  |some a=>K a
  |none=>False
 |_=>False
def KD(x:AV)(K:AV→Prop):Prop :=
 match x with
 |.ref r o=>K (.ref r o)
 |.eref r n z i o=>K (.eref r n z i o)
 |.cptr cs=>K (.cptr cs)
 |.clo f cs=>K (.clo f cs)
 |.v (.func (.func f) a b)=>K (.v (.func (.func f) a b))
 |_=>False
def XX(c a b:AV)(K:AV→Prop):Prop :=
 match c with
 |.v (.bool true)=>K a
 |.v (.bool false)=>K b
 |_=>False
def kr(f:Int→Int→Int)(x y:AV)(K:AV→Prop):Prop :=
 match x,y with
 |.v (.int k a),.v (.int k' b)=>match oM k k' with
  |true=>K (.v (.int k (f a b)))
  |false=>False
 |_,_=>False
def Jj(cx:Cx)(d:Option Nat)(h:Nat→HO)(ty:Nat)(len cap:AV)(K:HK):Prop :=
 match(cx.T ty).d,len,cap with
 |.slice e,.v (.int .i64 n),.v (.int .i64 c)=>match HR ((cx.T e).zc.map .v)with
  |true=>match Nat.beq (cx.T e).zc.length (cx.T e).size with
   |true=>match(cx.T e).size with
    |0=>False
    |_+1=>(0≤n∧n≤c∧c*(cx.T e).bytes≤140737488355328∧c≤9223372036854775807)∧Ep cx d h (cx.T e).size (List.replicate n.toNat ((cx.T e).zc.map .v)) K
   |false=>False
  |false=>False
 |_,_,_=>False
def X8(op:UnOp)(x:AV)(K:AV→Prop):Prop :=
 match op,x with
 |.not,x=>cw K x
 |.neg,.v (.int .i64 a)=>BQ (-a)∧K (.v (.int .i64 (-a)))
 |_,_=>False
def F4(cx:Cx)(d:Option Nat)(h:Nat→HO)(b:Builtin)(GY:List Nat)(args:List AV)(K:HK):Prop :=
 match b,args,GY with
 |.len,[x],[t]=>Qz cx.T t h x fun v=>K v h
 |.append,[s,x],[t,t']=>match Nat.beq t t' with
  |true=>H2 cx d h t s x K
  |false=>False
 |.max,[x,y],_=>kr max x y fun v=>K v h
 |.min,[x,y],_=>kr min x y fun v=>K v h
 |_,_,_=>False

def F1(cx:Cx)(dr:Bool)(o:Oper)(st:St)(K:HK):Prop :=
 match o.op with
 |.move x=>K (ev st.t x) st.h
 |.assign x=>N8 cx o.dst st.h (ev st.t x) K
 |.pick c a b=>XX (ev st.t c) (ev st.t a) (ev st.t b) fun v=>K v st.h
 |.alloc e=>RK cx.T o.dst st.h e K
 |.box e x=>bh cx o.dst st.h e (ev st.t x) K
 |.build ty ps=>Pd cx.T ty st.t ps.toList fun v=>K v st.h
 |.buildSlice ty n ps=>If cx o.dst st.h ty n st.t ps.toList K
 |.insert ty m k x=>G4 cx.T st.h ty (ev st.t m) (ev st.t k) (ev st.t x) K
 |.load ty x=>IA cx.T st.h ty (ev st.t x) fun v=>K v st.h
 |.store ty p x=>PT cx st.h ty (ev st.t p) (ev st.t x) K
 |.nilCheck x=>KD (ev st.t x) fun v=>K v st.h
 |.binOp op ty x y _=>WC cx.T op ty y (ev st.t x) (ev st.t y) fun v=>K v st.h
 |.unOp op _ x=>X8 op (ev st.t x) fun v=>K v st.h
 |.convert s ty x=>WJ cx.T s ty (ev st.t x) fun v=>K v st.h
 |.makeFunc fn first cap=>Kz st.t st.h fn first.toList cap.toList fun v=>K v st.h
 |.makeMap ty none=>KA cx.T cx.pl.mku o.dst st.h ty K
 |.makeSlice ty n c=>Jj cx o.dst st.h ty (ev st.t n) (ev st.t c) K
 |.slice ty x lo hi mx=>match dr with
  |true=>match Nl cx.pl.tok o.dst with
   |none=>Gy cx o.dst st.h ty (ev st.t x) (B4 st.t lo) (B4 st.t hi) (B4 st.t mx) K
   |some _=>Ti cx o.dst st.h ty (ev st.t x) lo (B4 st.t hi) mx K
  |false=>match Nl cx.pl.tok o.dst with
   |none=>Gy cx o.dst st.h ty (ev st.t x) (B4 st.t lo) (B4 st.t hi) (B4 st.t mx) K
   |some _=>KJ cx o.dst st.h ty (ev st.t x) (B4 st.t lo) hi mx K
 |.fieldAddr s x f=>Sh cx.T s f (ev st.t x) fun v=>K v st.h
 |.field s x f=>Oi cx.T s f (ev st.t x) fun v=>K v st.h
 |.indexAddr ty x ix=>Jg cx.T ty (ev st.t x) (ev st.t ix) fun v=>K v st.h
 |.index ty x ix=>SJ cx.T ty (ev st.t x) (ev st.t ix) fun v=>K v st.h
 |.lookup ty x ix ok=>match dr with
  |true=>My cx.T st.h ty (ev st.t x) (ev st.t ix) ok fun v=>K v st.h
  |false=>Mz cx.T st.h ty (ev st.t x) (ev st.t ix) ok fun v=>K v st.h
 |.mapUpdate ty m k x=>G4 cx.T st.h ty (ev st.t m) (ev st.t k) (ev st.t x) K
 |.range ty x=>match(cx.T ty).d with |.map _ _=>Zl o.dst st.h (ev st.t x) K |_=>False
 |.next it false=>gv st.h (ev st.t it) K
 |.entry it=>YE st.h (ev st.t it) fun v=>K v st.h
 |.extract x i=>LW (ev st.t x) i fun v=>K v st.h
 |.call c=>match c.callee with
  |.builtin b=>F4 cx o.dst st.h b c.argTypes.toList (c.args.toList.map (ev st.t)) K
  |.value f=>Gm cx dr o.dst st (ev st.t f) (c.args.toList.map (ev st.t)) K
  |_=>False
 |_=>False
def J5(ops:List Oper)(j:Nat):Option Nat:=match ops with | []=>none | o::r=>match j with | 0=>o.dst | j+1=>J5 r j
def gR(cx:Cx)(o:Oper)(st:St):St :=
 match o.dst with
 |none=>st
 |some d=>match o5 cx.pl.tz d with
  |some (r,k,j,sz)=>⟨st.t,sx st.h r k j sz⟩
  |none=>match md cx.pl.fz d with
   | []=>st
   |l=>⟨st.t,MM st.h l⟩
def sD(cx:Cx)(o:Oper)(st:St)(K:St→Prop):Prop :=
 match o.dst with
 |none=>K st
 |some d=>match Eb cx.pl.ak d with
  |none=>K st
  |some s=>match st.t s with
   |.msl r n=>match st.h r with
    |.arr sz es=>n=es.length∧K ⟨HG st.t s (.slice (.id r sz) es),AT st.h r (.tok sz es.length)⟩
    |_=>K st
   |_=>K st
def dM(cx:Cx)(dr:Bool)(o:Oper)(st:St)(K:St→Prop):Prop :=
 match dr with
 |true=>F1 cx true o st fun v h=>K (st.put o.dst v h)
 |false=>sD cx o (gR cx o st) fun Fo=>F1 cx false o Fo fun v h=>K (Fo.put o.dst v h)
def IH(cx:Cx)(dr:Bool)(all:List Oper)(o:Oper)(st:St)(K:St→Prop):Prop :=
 match o.guard with
 |none=>dM cx dr o st K
 |some (j,want)=>match J5 all j with
  |none=>False
  |some d=>match st.t d,want with
   |.v (.bool true),true=>dM cx dr o st K
   |.v (.bool false),false=>dM cx dr o st K
   |.v (.bool true),false=>K (st.put o.dst (.v undef) st.h)
   |.v (.bool false),true=>K (st.put o.dst (.v undef) st.h)
   |.v (.tuple _),_=>K (st.put o.dst (.v undef) st.h)
   |_,_=>False
def ma(cx:Cx)(all l:List Oper)(st:St)(K:St→Prop):Prop :=
 match l with
 | []=>K st
 |o::r=>IH cx false all o st fun Fo=>ma cx all r Fo K

def T4:AV→List Nat
 |.ref r _=>[r]
 |.mref r=>[r]
 |_=>[]
def kf:List AV→List Nat
 | []=>[]
 |a::r=>T4 a++kf r
def T5:AV→List Nat
 |.agg cs=>kf cs
 |.clo _ cs=>kf cs
 |a=>T4 a
def ns:List AV→List Nat
 | []=>[]
 |a::r=>T5 a++ns r
def Wo:AV→List Nat
 |.agg cs=>ns cs
 |a=>T5 a
def SF:List AV→List Nat
 | []=>[]
 |a::r=>Wo a++SF r
abbrev FE:=List Nat×Option Nat
def Ig(d:Option Nat)(l:List Nat):Option FE:=match d with | some d=>some (d::l,some d) | none=>none
def co:AV→List Nat
 |.msl r _=>[r]
 |_=>[]
def VH(cx:Cx)(d:Option Nat)(s x:AV):Option FE :=
 match s with
 |.v (.slice none 0 0)=>Ig (d.map (Kq cx)) (co x)
 |.slice (.full _) _=>Ig (d.map (Kq cx)) (co x)
 |.slice (.id r _) _=>Ig (some r) (co x)
 |.msl r _=>Ig (some r) (co x)
 |_=>none
def ZM(d:Option Nat)(args:List AV):Option FE :=
 match d with
 |some d=>match args with
  |.msl r _::_=>some ([r,Bu d 0],some (r+10000000*Bu d 0))
  |_=>none
 |none=>none
theorem YI{d:Option Nat}{args:List AV}{f:FE}(h:ZM d args=some f):∃d' r n l,d=some d'∧args=.msl r n::l∧f=([r,Bu d' 0],some (r+10000000*Bu d' 0)):=by
 unfold ZM at h;split at h
 ·split at h
  ·cases h;exact⟨_,_,_,_,rfl,rfl,rfl⟩
  ·cases h
 ·cases h
def eQ(d:Option Nat)(x:AV):Option FE :=
 match d with
 |some d=>match x with
  |.msl r _=>some ([r,d],some (r+10000000*d))
  |_=>none
 |none=>none
theorem YJ{d:Option Nat}{x:AV}{f:FE}(h:eQ d x=some f):∃d' r n,d=some d'∧x=.msl r n∧f=([r,d'],some (r+10000000*d')):=by
 unfold eQ at h;split at h
 ·split at h
  ·cases h;exact⟨_,_,_,rfl,rfl,rfl⟩
  ·cases h
 ·cases h
def eS(args:List AV):Option FE:=match Vg args with | some _=>some ([1000,1001],some 10010001000) | none=>none
def Vu:Nat:=99999999999999
def eP(k:Nat)(d:Option Nat)(args:List AV):Option FE :=
 match Nat.beq k 3 with
 |true=>some (jz,some Vu)
 |false=>ZM d args
def GU(cx:Cx)(d:Option Nat)(c:Callee)(t:Nat→AV)(args:List AV):Option FE :=
 match c,args with
 |.builtin .len,[.mref r]=>some ([r],none)
 |.builtin .len,[_]=>some ([],none)
 |.builtin .max,_=>some ([],none)
 |.builtin .min,_=>some ([],none)
 |.builtin .append,[s,x]=>VH cx d s x
 |.value f,args=>match Nl cx.pl.dc d with
  |none=>some (Wo (ev t f)++SF args,none)
  |some 0=>Ig (d.map fun d=>Bu d 0) (Wo (ev t f)++SF args)
  |some 1=>match args with |.msl r _::_=>some ([r],some r) |_=>none
  |some (k+2)=>match Nat.beq k 1 with
   |true=>Ig (d.map fun d=>Bu d 0) (Wo (ev t f)++SF args)
   |false=>match Nat.beq k 2 with
    |true=>eS args
    |false=>eP k d args
 |_,_=>none
def Fi(cx:Cx)(o:Oper)(st:St):Option FE :=
 match o.op with
 |.move _ |.pick .. |.nilCheck _ |.unOp .. |.convert .. |.fieldAddr .. |.field .. |.indexAddr .. |.index .. |.extract .. |.build ..=>some ([],none)
 |.binOp _ _ x _ _=>match ev st.t x with |.slice ..=>none |_=>some ([],none)
 |.assign x=>match ev st.t x with |.v (.slice ..)=>none |_=>some ([],none)
 |.load _ p=>match ev st.t p with |.cptr _=>some ([],none) |.ref r _=>some ([r],none) |.eref r ..=>some ([r],none) |_=>none
 |.call c=>GU cx o.dst c.callee st.t (c.args.toList.map (ev st.t))
 |.alloc _=>Ig o.dst []
 |.box _ x=>Ig o.dst (Wo (ev st.t x))
 |.buildSlice _ _ ps=>Ig (o.dst.map (Kq cx)) (SF (ps.toList.map fun p=>ev st.t p.2))
 |.store _ p x=>match ev st.t p with
  |.ref r _=>match IB cx.pl.frz r with |true=>none |false=>Ig (some r) []
  |.eref r ..=>Ig (some r) (Wo (ev st.t x))
  |_=>none
 |.slice _ x _ _ mx=>match Nl cx.pl.tok o.dst with
  |some _=>eQ (o.dst.map (Kq cx)) (ev st.t x)
  |none=>match mx,ev st.t x with
   |none,.msl ..=>none
   |none,_=>some ([],none)
   |some _,.slice ..=>Ig o.dst []
   |_,_=>none
 |.makeFunc _ _ cap=>some (SF (cap.toList.map (ev st.t)),none)
 |.mapUpdate _ m _ x=>match ev st.t m with |.mref r=>Ig (some r) (Wo (ev st.t x)) |_=>none
 |.makeSlice ..=>Ig (o.dst.map (Kq cx)) []
 |.lookup _ m _ _=>match ev st.t m with |.cmap ..=>some ([],none) |.mref r=>some ([r],none) |_=>none
 |.makeMap ..=>Ig o.dst []
 |_=>none
def M7(cx:Cx)(all:List Oper)(o:Oper)(st:St):Option FE :=
 match o.guard with
 |none=>Fi cx o st
 |some (j,want)=>match J5 all j with
  |none=>none
  |some d=>match st.t d,want with
   |.v (.bool true),true=>Fi cx o st
   |.v (.bool false),false=>Fi cx o st
   |_,_=>some ([],none)
def qW(l:List Nat):Bool:=match l with | []=>true | _=>false
def XS(l:List Nat)(r:Nat):Bool:=bif Nat.beq r Vu then qW l else !IB l r&&(Nat.blt r 10000000||(!IB l (r % 10000000)&&!IB l (r / 10000000)))
def Sb(a b:FE):Bool :=
 (match a.2 with | some r=>XS b.1 r | none=>true)&&(match b.2 with | some r=>XS a.1 r | none=>true)
def Ow(o:Oper)(i:Nat)(D:List Nat):Bool:=o.after.toList.any fun e=>Region.binds .any e&&(Nat.beq e.on i||IB D e.on)
def Pi(i:Nat)(D:List Nat)(k:Nat):List Oper→List Nat
 | []=>D
 |o::r=>match Ow o i D with
  |true=>Pi i (k::D) (k+1) r
  |false=>Pi i D (k+1) r
def Ty(i:Nat)(D:List Nat)(k:Nat):List Oper→Bool
 | []=>true
 |o::r=>(Ow o i D||!IB D k)&&Ty i D (k+1) r
def Ie(ops:Array Oper)(oi:Oper)(fi:FE)(D:List Nat)(k:Nat):List Oper→List FE→Bool
 |o::r,f::fs=>(IB D k||(oi.apart ops o&&Sb fi f))&&Ie ops oi fi D (k+1) r fs
 | [],[]=>true
 |_,_=>false
def LR(ops:Array Oper)(all:List Oper)(k:Nat):List Oper→List FE→Bool
 |o::r,f::fs =>
  let D:=Pi k [] 0 all
  (o.after.toList.all fun e=>!Region.binds .any e||Nat.blt e.on k)&&Ty k D 0 all&&(D.all fun j=>Nat.blt k j&&Nat.blt j all.length)&&Ie ops o f D (k+1) r fs&&LR ops all (k+1) r fs
 | [],[]=>true
 |_,_=>false
def Sc(ops:Array Oper)(fs:List FE):Bool:=Region.noSelect ops&&LR ops ops.toList 0 ops.toList fs
def Wy(cx:Cx)(ops:Array Oper)(l:List Oper)(fs:List FE)(st:St)(K:St→Prop):Prop :=
 match l with
 | []=>Sc ops fs.reverse=true∧K st
 |o::r=>match M7 cx ops.toList o st with
  |some f=>IH cx true ops.toList o st fun Fo=>Wy cx ops r (f::fs) Fo K
  |none=>False

def Se(l:List (Nat×AV))(i:Nat):AV:=match l with | []=>.junk | (j,v)::r=>bif Nat.beq i j then v else Se r i
structure LS where
 t:List (Nat×AV)
 h:List (Nat×HO)
 hb:Nat→HO
def LS.st(s:LS):St:=⟨Se s.t,Ad s.h s.hb⟩

def QW(h:Nat→HO)(r:Nat):Bool:=match h r with | .free=>false | _=>true
def ids0(h:Nat→HO):AV→Bool
 |.slice (.id r _) _=>QW h r
 |.slice (.ver r _ _) _=>QW h r
 |.msl r _=>QW h r
 |.ref r _=>QW h r
 |.eref r _ _ _ _=>QW h r
 |.mref r=>QW h r
 |.agg _ |.tup _ |.clo ..=>false
 |_=>true
def Xq(h:Nat→HO):List AV→Bool
 | []=>true
 |a::r=>match ids0 h a with |true=>Xq h r |false=>false
def VW(h:Nat→HO):AV→Bool
 |.agg cs=>Xq h cs
 |.tup cs=>Xq h cs
 |.clo _ cs=>Xq h cs
 |a=>ids0 h a
def Qu(h:Nat→HO):List (Value×AV)→Bool
 | []=>true
 |p::r=>match VW h p.2 with |true=>Qu h r |false=>false
def kg(h:Nat→HO):List AV→Bool
 | []=>true
 |a::r=>match VW h a with |true=>kg h r |false=>false
def Xp(h:Nat→HO):HO→Bool
 |.cells cs=>kg h cs
 |.mapU _ B5=>Qu h B5
 |_=>true
def vJ(st:St)(h:Nat→HO):List (Nat×AV)→Prop
 | []=>True
 |(j,a)::r=>(st.t j=a∧VW h a=true)∧vJ st h r
def vI(st:St)(h:Nat→HO):List (Nat×HO)→Prop
 | []=>True
 |(j,o)::r=>(st.h j=o∧Xp h o=true)∧vI st h r
def St.le(cx:Cx)(st:St)(s:LS):Prop :=
 vJ st s.st.h s.t∧vI st s.st.h s.h∧(∀j,s.hb j=.free∨(st.h j=s.hb j∧Xp s.st.h (s.hb j)=true)) ∧
 match cx.ext with
 |false=>True
 |true=>∀j,1000≤j→j<2000→st.h j≠.free→s.st.h j≠.free

def Mq(cx:Cx)(ops:Array Oper)(dr:Bool)(st:St)(K:St→Prop):Prop :=
 match dr with
 |false=>ma cx ops.toList ops.toList st K
 |true=>Wy cx ops ops.toList [] st K
inductive Ex | normal | exit (id:Nat) | ret
def sG(h:Nat→HO)(o k:Nat)(K:(Nat→HO)→Prop):Prop :=
 match h o with
 |.cells cs=>match IX cs k with
  |.msl r n=>match h r with
   |.arr sz es=>n=es.length∧K (AT (AT h r (.tok sz es.length)) o (.cells (Er cs k (.slice (.id r sz) es))))
   |_=>K h
  |_=>K h
 |_=>K h
def sE(h:Nat→HO)(o k j:Nat)(K:(Nat→HO)→Prop):Prop :=
 match h o with
 |.cells cs=>match IX cs k with
  |.msl r n=>match h r with
   |.arr sz es=>match h j with
    |.free=>n=es.length∧K (AT (AT (AT h r .dead) j (.arr sz es)) o (.cells (Er cs k (.msl j n))))
    |_=>False
   |_=>False
  |_=>False
 |_=>False
def wW(h:Nat→HO)(o k d:Nat)(K:(Nat→HO)→Prop):Prop :=
 match h o with
 |.cells cs=>match IX cs k with
  |.slice (.ver r sz v) es=>match h r with
   |.var GP v' _=>match h d with
    |.free=>(v=v'∧sz=GP)∧K (AT (AT (AT h r (.vox v)) d (.tok sz es.length)) o (.cells (Er cs k (.slice (.id d sz) es))))
    |_=>False
   |_=>False
  |_=>K h
 |_=>False
def sq(h:Nat→HO)(o k r:Nat)(K:(Nat→HO)→Prop):Prop :=
 match h o with
 |.cells cs=>match IX cs k with
  |.slice (.id d sz) es=>match h d with
   |.tok GP n=>match h r with
    |.vox v=>(es.length=n∧sz=GP)∧K (AT (AT (AT h d .dead) r (.var sz (v+1) n)) o (.cells (Er cs k (.slice (.ver r sz (v+1)) es))))
    |_=>False
   |_=>False
  |_=>K h
 |_=>False
def vK(h:Nat→HO)(r:Nat)(K:(Nat→HO)→Prop):Prop :=
 match h r with
 |.free=>K (AT h r (.vox 0))
 |_=>False
def so(h:Nat→HO)(o k:Nat)(K:(Nat→HO)→Prop):Prop :=
 match h o with
 |.cells cs=>match IX cs k with
  |.mref r=>match h r with
   |.rom sh B5=>K (AT h o (.cells (Er cs k (.cmap sh B5))))
   |_=>False
  |_=>False
 |_=>False
def wX(h:Nat→HO)(o k j sz:Nat)(K:(Nat→HO)→Prop):Prop :=
 match h o with
 |.cells cs=>match IX cs k with
  |.v (.slice none 0 0)=>match h j with
   |.free=>K (AT (AT h j (.arr sz [])) o (.cells (Er cs k (.msl j 0))))
   |_=>False
  |_=>False
 |_=>False
def tM(cx:Cx)(id:Nat)(h:Nat→HO)(K:(Nat→HO)→Prop):Prop :=
 match Eb cx.pl.ak (850000+id)with
 |some v=>K (eU h v)
 |none=>K h
def sn(cx:Cx)(id:Nat)(h:Nat→HO)(K:(Nat→HO)→Prop):Prop :=
 match Eb cx.pl.ak (800000+id)with
 |some v=>so h (v % 10000) (v / 10000 % 100) K
 |none=>K h
def rm(cx:Cx)(id:Nat)(h:Nat→HO)(K:(Nat→HO)→Prop):Prop :=
 match Eb cx.pl.ak (810000+id)with
 |some v=>so h (v % 10000) (v / 10000 % 100) K
 |none=>K h
def oQ(cx:Cx)(id:Nat)(h:Nat→HO)(K:(Nat→HO)→Prop):Prop :=
 match Eb cx.pl.ak (900000+id)with
 |some v=>wX h (v % 10000) (v / 10000 % 100) (v / 1000000 % 10000) (v / 10000000000) K
 |none=>K h
def oa(cx:Cx)(id:Nat)(h:Nat→HO)(K:(Nat→HO)→Prop):Prop :=
 match Eb cx.pl.ak (500000+id)with
 |some v=>wW h (v % 10000) (v / 10000 % 100) (v / 1000000) K
 |none=>match Eb cx.pl.ak (600000+id)with
  |some v=>sq h (v % 10000) (v / 10000 % 100) (v / 1000000) K
  |none=>match Eb cx.pl.ak (700000+id)with
   |some v=>vK h v K
   |none=>tM cx id h fun h=>sn cx id h fun h=>rm cx id h fun h=>oQ cx id h K
def sF(st:St)(s k:Nat)(K:St→Prop):Prop :=
 match st.t s with
 |.msl r n=>match st.h r with
  |.arr sz es=>match k with
   |0=>n=es.length∧K ⟨HG st.t s (.slice .none es),AT (AT st.h r (.tok sz es.length)) r .dead⟩
   |k+1=>match Nat.beq r (k+1)with
    |true=>K st
    |false=>match st.h (k+1)with
     |.free=>n=es.length∧K ⟨HG st.t s (.msl (k+1) n),AT (AT st.h r .dead) (k+1) (.arr sz es)⟩
     |_=>False
  |_=>K st
 |_=>K st
def pI(cx:Cx)(id:Nat)(st:St)(K:St→Prop):Prop :=
 match IB cx.pl.cut id with
 |true=>match Eb cx.pl.ak (100000+id)with
  |none=>match Eb cx.pl.ak (200000+id)with
   |none=>match Eb cx.pl.ak (300000+id)with
    |none=>oa cx id st.h fun h'=>∃s:LS,St.le cx ⟨st.t,h'⟩ s∧K s.st
    |some v=>sE st.h (v % 10000) (v / 10000 % 100) (v / 1000000) fun h'=>∃s:LS,St.le cx ⟨st.t,h'⟩ s∧K s.st
   |some v=>sF st (v % 1000) (v / 1000) fun Fo=>∃s:LS,St.le cx Fo s∧K s.st
  |some v=>sG st.h (v % 1000) (v / 1000) fun h'=>∃s:LS,St.le cx ⟨st.t,h'⟩ s∧K s.st
 |false=>K st
def MX(cx:Cx)(c:Code)(Q:Ex→St→Prop)(st:St):Prop :=
 match c with
 |.skip=>Q .normal st
 |.label _=>Q .normal st
 |.region id ops dr=>pI cx id st fun st=>match cx.pl.dyn with
  | []=>Mq cx ops dr st (Q .normal)
  |_=>∃n,Mq { cx with nid:=n } ops dr st (Q .normal)
 |.seq a b=>MX cx a (fun e Fo=>match e with |.normal=>MX cx b Q Fo |e=>Q e Fo) st
 |.cond c a b=>match ev st.t c with
  |.v (.bool true)=>MX cx a Q st
  |.v (.bool false)=>MX cx b Q st
  |_=>False
 |.block id c=>MX cx c (fun e Fo=>match e with |.exit j=>(bif Nat.beq j id then Q .normal Fo else Q (.exit j) Fo) |e=>Q e Fo) st
 |.loop c=>∃(α:Type) (I:α→LS) (μ:α→Nat),(∃x,St.le cx st (I x)) ∧
   ∀x,MX cx c (fun e Fo=>match e with | .normal=>∃y,μ y<μ x∧St.le cx Fo (I y) | e=>Q e Fo) (I x).st
 |.exit id=>Q (.exit id) st
 |.ret=>Q .ret st
 |_=>False

def LA:List AV→Nat→AV
 | [],_=>.v undef
 |a::r,n=>match n with |0=>a |n+1=>LA r n
def kH(T:GK)(st:St):List ResultVar→(List AV→Prop)→Prop
 | [],K=>K []
 |.tmp i::r,K=>kH T st r fun l=>K (str st.h (st.t i)::l)
 |.cell a t::r,K=>IA T st.h t (st.t a) fun v=>kH T st r fun l=>K (str st.h v::l)
def cE(cx:Cx)(st:St)(rs:List ResultVar)(K:AV→Prop):Prop :=
 kH cx.T ⟨st.t,MM st.h cx.pl.fin⟩ rs fun
  | [v]=>K v
  |vs=>K (.tup vs)
def YD(cx:Cx)(rs:List ResultVar)(K:AV→Prop)(e:Ex)(st:St):Prop :=
 match e with
 |.normal=>cE cx st rs K
 |.ret=>cE cx st rs K
 |.exit _=>False
def kJ(T:GK)(st:St):List ResultVar→(List AV→Prop)→Prop
 | [],K=>K []
 |.tmp i::r,K=>kJ T st r fun l=>K (st.t i::l)
 |.cell a t::r,K=>IA T st.h t (st.t a) fun v=>kJ T st r fun l=>K (v::l)
def cD(cx:Cx)(st:St)(rs:List ResultVar)(σ:Hh)(Q:AV→(Nat→HO)→Prop):Prop :=
 kJ cx.T ⟨st.t,MM st.h cx.pl.fin⟩ rs fun
  | [v]=>Q (ren (Ch σ) (MM st.h cx.pl.fin) v) (E3 σ (MM st.h cx.pl.fin))
  |vs=>Q (ren (Ch σ) (MM st.h cx.pl.fin) (.tup vs)) (E3 σ (MM st.h cx.pl.fin))
def TV(cx:Cx)(rs:List ResultVar)(σ:Hh)(Q:AV→(Nat→HO)→Prop)(e:Ex)(st:St):Prop :=
 match e with
 |.normal=>cD cx st rs σ Q
 |.ret=>cD cx st rs σ Q
 |.exit _=>False
def FA(σ:Hh):List (Nat×HO)→Bool
 | []=>true
 |(i,_)::r=>Nat.ble 1000 i&&Nat.blt i 2000&&(match Ch σ i with |some j=>Nat.beq j i |none=>false)&&FA σ r
end Go.Eng
