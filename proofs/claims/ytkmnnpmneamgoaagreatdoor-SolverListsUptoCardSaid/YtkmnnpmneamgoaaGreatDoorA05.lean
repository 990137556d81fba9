/- Lemmas for the claims of this seat, without a condition: part 5 (EngA). -/
import Derived.Test.YtkmnnpmneamgoaaGreatDoorA00
import Derived.WalkKit
import Derived.Still
import Derived.RangeFuncSeq
import Derived.OrdersIn
import Derived.TacticsIn
namespace Go.Eng

inductive Tk | none | full (sz:Nat) | id (r sz:Nat) | ver (r sz v:Nat)

inductive KS | int (k:IntKind) | str | bool
structure EL where
 agg:Bool
 l:List KS

inductive AV
 |v (x:Value)
 |slice (tk:Tk) (es:List (List AV))
 |msl (r n:Nat)
 |agg (cs:List AV)
 |tup (vs:List AV)
 |cptr (cs:List AV)
 |ref (r off:Nat)
 |eref (r n sz i off:Nat)
 |mref (r:Nat)
 |cmap (sh:EL) (Cb:List (Value×AV))
 |clo (f:Nat) (caps:List AV)
 |junk

inductive HO
 |free
 |dead
 |cells (cs:List AV)
 |ro (cs:List AV)
 |tok (sz n:Nat)
 |var (sz v n:Nat)
 |vox (v:Nat)
 |arr (sz:Nat) (es:List (List AV))
 |map (sh:EL) (Cb:List (Value×AV))
 |mapU (sh:EL) (Cb:List (Value×AV))
 |rom (sh:EL) (Cb:List (Value×AV))
 |iter (all rem:List (Value×AV)) (F6:Option (Value×AV))
 |raw (b:Nat) (ob:Obj)

structure St where
 t:Nat→AV
 h:Nat→HO

def Aa:Nat→HO:=fun _=>.free
def AW(h:Nat→HO)(r:Nat)(o:HO):Nat→HO:=fun i=>bif Nat.beq i r then o else h i
def HS(t:Nat→AV)(d:Nat)(v:AV):Nat→AV:=fun i=>bif Nat.beq i d then v else t i
def St.put(st:St)(d:Option Nat)(v:AV)(h:Nat→HO):St :=
 match d with
 |none=>⟨st.t,h⟩
 |some d=>⟨HS st.t d v,h⟩
def ev(t:Nat→AV):Operand→AV
 |.tmp i=>t i
 |.const v=>.v v
 |.global g=>.v (.pointer (some ⟨g,0,none⟩))
 |.func f=>.v (.func (.func f) #[] #[])

inductive TD
 |int (k:IntKind) |bool |string |slice (e:Nat) |array (n e:Nat) |struct (fs:List (Nat×Nat)) |ptr (e:Nat) |map (k e:Nat) |func |iface |other
structure TI where
 d:TD
 size:Nat
 bytes:Nat
 zero:Value
 eqok:Bool
def TI.zc(i:TI):List Value:=match i.zero with | .agg cs=>cs.toList | v=>[v]
abbrev GQ:=Nat→TI

structure QA where
 frz:List Nat
 tok:List (Nat×Nat)
 arr:List (Nat×Nat)
 fz:List (Nat×List Nat)
 fin:List Nat
 mku:List Nat
 dyn:List Nat
 tz:List (Nat×(Nat×Nat×Nat×Nat))
 dc:List (Nat×Nat)
 ak:List (Nat×Nat)
 cut:List Nat

def II(l:List Nat)(n:Nat):Bool :=
 match l with
 | []=>false
 |x::r=>bif Nat.beq x n then true else II r n
def Em(l:List (Nat×Nat))(n:Nat):Option Nat :=
 match l with
 | []=>none
 |(x,y)::r=>bif Nat.beq x n then some y else Em r n

def str0(h:Nat→HO):AV→AV
 |.slice _ es=>.slice .none es
 |.ref r off=>match h r with |.ro cs=>.cptr (cs.drop off) |_=>.junk
 |.mref r=>match h r with |.rom sh Cb=>.cmap sh Cb |_=>.junk
 |.v x=>.v x
 |.cptr cs=>.cptr cs
 |.cmap s m=>.cmap s m
 |_=>.junk
def str(h:Nat→HO):AV→AV
 |.agg cs=>.agg (cs.map (str0 h))
 |.clo f cs=>.clo f (cs.map (str0 h))
 |a=>str0 h a
def Rs(h:Nat→HO)(Cb:List (Value×AV)):List (Value×AV):=Cb.map fun p=>(p.1,str h p.2)
def fO(h:Nat→HO)(r:Nat):Nat→HO :=
 match h r with
 |.cells cs=>AW h r (.ro (cs.map (str h)))
 |.map sh Cb=>AW h r (.rom sh Cb)
 |.mapU sh Cb=>AW h r (.rom sh (Rs h Cb))
 |_=>h
def M2(h:Nat→HO):List Nat→Nat→HO
 | []=>h
 |r::l=>M2 (fO h r) l
def mX(l:List (Nat×List Nat))(n:Nat):List Nat :=
 match l with
 | []=>[]
 |(x,y)::r=>bif Nat.beq x n then y else mX r n
def p8(l:List (Nat×(Nat×Nat×Nat×Nat)))(n:Nat):Option (Nat×Nat×Nat×Nat) :=
 match l with
 | []=>none
 |(x,y)::r=>bif Nat.beq x n then some y else p8 r n
def I5(l:List AV)(n:Nat):AV :=
 match l with
 | []=>.junk
 |x::r=>match n with |0=>x |n+1=>I5 r n
def EG(cs:List AV)(o:Nat)(v:AV):List AV :=
 match cs with
 | []=>[]
 |c::cs=>match o with |0=>v::cs |o+1=>c::EG cs o v
def tR(h:Nat→HO)(r k j sz:Nat):Nat→HO :=
 match h r with
 |.cells cs=>match I5 cs k with
  |.v (.slice none 0 0)=>match h j with
   |.free=>AW (AW h j (.tok sz 0)) r (.cells (EG cs k (.slice (.id j sz) [])))
   |_=>h
  |_=>h
 |_=>h
def rsv(h:Nat→HO):AV→AV
 |.ref r off=>match h r with |.ro cs=>.cptr (cs.drop off) |_=>.ref r off
 |.mref r=>match h r with |.rom sh Cb=>.cmap sh Cb |_=>.mref r
 |a=>a

def one:AV→Bool
 |.v x=>x.oneCell'
 |.agg _ |.tup _ |.junk=>false
 |_=>true
def H7:List AV→Bool
 | []=>true
 |a::r=>match one a with |true=>H7 r |false=>false
def s9:AV→List AV
 |.agg cs=>cs
 |a=>[a]

def Bf(a:Int):Prop:=-9223372036854775808≤a∧a<9223372036854775808

def Mi(cs:List AV)(K:AV→Prop):Prop :=
 match cs with
 |a::_=>K a
 | []=>False
def IQ(p:Prop)(K:AV→Prop):Prop:=(p→K (.v (.bool true)))∧(¬p→K (.v (.bool false)))
def Mo(T:GQ)(t:Nat)(cs:List AV)(K:AV→Prop):Prop :=
 match(T t).d with
 |.struct _=>(T t).size≤cs.length∧K (.agg (cs.take (T t).size))
 |.array _ _=>(T t).size≤cs.length∧K (.agg (cs.take (T t).size))
 |.bool=>Mi cs fun |.v (.bool b)=>(b=true→K (.v (.bool true)))∧(b=false→K (.v (.bool false))) |_=>False
 |.other=>False
 |_=>Mi cs K

def ki:List AV→List AV→Prop
 | [],[]=>True
 |.v (.int _ a)::r,.v (.int _ b)::s=>a=b∧ki r s
 |.v (.string a)::r,.v (.string b)::s=>a=b∧ki r s
 |.v (.bool a)::r,.v (.bool b)::s=>a=b∧ki r s
 |_,_=>False
def pN:IntKind→IntKind→Bool
 |.i64,.i64 |.u8,.u8 |.u32,.u32 |.i32,.i32 |.u64,.u64 |.u16,.u16 |.i16,.i16 |.i8,.i8=>true
 |_,_=>false
def NG(f:Nat→Option (List KS)):Nat→List (Nat×Nat)→Option (List KS)
 |_,[]=>some []
 |n,(t,o)::r=>match Nat.beq o n with
  |true=>match f t with
   |some a=>match NG f (n+a.length) r with
    |some b=>some (a++b)
    |none=>none
   |none=>none
  |false=>none
def HA(T:GQ):Nat→Nat→Option (List KS)
 |0,_=>none
 |n+1,t=>match(T t).d with
  |.int k=>match(T t).size with |1=>some [.int k] |_=>none
  |.string=>match(T t).size with |1=>some [.str] |_=>none
  |.bool=>match(T t).size with |1=>some [.bool] |_=>none
  |.struct fs=>match(T t).eqok with
   |true=>match NG (HA T n) 0 fs with
    |some l=>match Nat.beq l.length (T t).size with |true=>some l |false=>none
    |none=>none
   |false=>none
  |_=>none
def Np:KS→Value→Bool
 |.int k,.int k' _=>pN k k'
 |.str,.string _=>true
 |.bool,.bool _=>true
 |_,_=>false
def XX:List KS→List AV→Bool
 | [],[]=>true
 |k::r,.v x::s=>match Np k x with |true=>XX r s |false=>false
 |_,_=>false
def pn(T:GQ)(t:Nat)(x y:AV)(K:AV→Prop):Prop :=
 match(T t).d with
 |.bool=>match x,y with
  |.v (.bool a),.v (.bool b)=>K (.v (.bool (a == b)))
  |_,_=>False
 |.struct _=>match x,y with
  |.agg xs,.agg ys=>match HA T 8 t with
   |some l=>match XX l xs with
    |true=>match XX l ys with
     |true=>IQ (ki xs ys) K
     |false=>False
    |false=>False
   |none=>False
  |_,_=>False
 |.slice _=>match x,y with
  |.slice _ es,.v (.slice none 0 0)=>(es≠[]→K (.v (.bool false)))∧(es=[]→K (.v (.bool true))∧K (.v (.bool false)))
  |.v (.slice none 0 0),.v (.slice none 0 0)=>K (.v (.bool true))
  |_,_=>False
 |.ptr _=>match x,y with
  |.v (.pointer none),.v (.pointer none)=>K (.v (.bool true))
  |.cptr _,.v (.pointer none)=>K (.v (.bool false))
  |.ref _ _,.v (.pointer none)=>K (.v (.bool false))
  |.eref _ _ _ _ _,.v (.pointer none)=>K (.v (.bool false))
  |_,_=>False
 |_=>False
def cZ(K:AV→Prop):AV→Prop
 |.v (.bool true)=>K (.v (.bool false))
 |.v (.bool false)=>K (.v (.bool true))
 |_=>False
def YS(op:BinOp)(k:IntKind)(a b:Int)(K:AV→Prop):Prop :=
 match op with
 |.add=>K (.v (.int k (k.wrap (a+b))))
 |.sub=>K (.v (.int k (k.wrap (a-b))))
 |.mul=>K (.v (.int k (k.wrap (a*b))))
 |_=>False
def Sa(op:BinOp)(k:IntKind)(a b:Int)(K:AV→Prop):Prop :=
 match k with
 |.i64=>match op with
  |.add=>Bf (a+b)∧K (.v (.int .i64 (a+b)))
  |.sub=>Bf (a-b)∧K (.v (.int .i64 (a-b)))
  |.mul=>Bf (a*b)∧K (.v (.int .i64 (a*b)))
  |.quo=>(0≤a∧0<b∧Bf a)∧K (.v (.int .i64 (a / b)))
  |.rem=>(0≤a∧0<b)∧K (.v (.int .i64 (a % b)))
  |_=>False
 |k=>YS op k a b K
def Sd(T:GQ)(op:BinOp)(t:Nat)(x y:AV)(K:AV→Prop):Prop :=
 match x,y with
 |.v (.int k a),.v (.int k' b)=>match pN k k' with
  |false=>False
  |true=>match op with
   |.eql=>IQ (a=b) K
   |.neq=>IQ (a≠b) K
   |.lss=>IQ (a<b) K
   |.leq=>IQ (a≤b) K
   |.gtr=>IQ (b<a) K
   |.geq=>IQ (b≤a) K
   |op=>Sa op k a b K
 |.v (.string a),.v (.string b)=>match op with
   |.eql=>IQ (a=b) K
   |.neq=>IQ (a≠b) K
   |.lss=>IQ (Op.bytesLess a.toList b.toList=true) K
   |.geq=>IQ (Op.bytesLess a.toList b.toList=false) K
   |.gtr=>IQ (Op.bytesLess b.toList a.toList=true) K
   |.leq=>IQ (Op.bytesLess b.toList a.toList=false) K
   |.add=>((a.size+b.size:Nat):Int)≤9223372036854775807∧K (.v (.string (a++b)))
   |_=>False
 |x,y=>match op with
  |.eql=>pn T t x y K
  |.neq=>pn T t x y (cZ K)
  |_=>False
def W3(T:GQ)(op:BinOp)(t:Nat)(Y:Operand)(x y:AV)(K:AV→Prop):Prop :=
 match Y with
 |.const .nilIface=>match x with
  |.v .nilIface=>match(T t).d with
   |.iface=>match op with
    |.eql=>K (.v (.bool true))
    |.neq=>K (.v (.bool false))
    |_=>False
   |_=>False
  |_=>False
 |_=>Sd T op t x y K
def W9(T:GQ)(s t:Nat)(x:AV)(K:AV→Prop):Prop :=
 match(T s).d,(T t).d,x with
 |.int _,.int .i64,.v (.int _ n)=>Bf n∧K (.v (.int .i64 n))
 |.int _,.int k,.v (.int _ n)=>K (.v (.int k (k.wrap n)))
 |.string,.string,.v (.string s)=>K (.v (.string s))
 |.slice e,.string,.slice _ es=>match(T e).d with
  |.int .u8=>∃l:List UInt8,es=l.map (fun b=>[AV.v (.int .u8 b.toNat)])∧K (.v (.string ⟨l.toArray⟩))
  |_=>False
 |_,_,_=>False
def V6(fs:List (Nat×Nat))(n:Nat):Option (Nat×Nat) :=
 match fs with
 | []=>none
 |x::r=>match n with |0=>some x |n+1=>V6 r n
def Sy(T:GQ)(s f:Nat)(x:AV)(K:AV→Prop):Prop :=
 match(T s).d with
 |.struct fs=>match V6 fs f with
  |some (t,o)=>match(T t).size with
   |0=>False
   |_+1=>match x with
    |.cptr cs=>K (.cptr (cs.drop o))
    |.ref r off=>K (.ref r (off+o))
    |.eref r n z i off=>K (.eref r n z i (off+o))
    |_=>False
  |none=>False
 |_=>False
def Yp(T:GQ)(t:Nat)(cs:List AV)(K:AV→Prop):Prop:=Mo T t cs K
def OA(T:GQ)(s f:Nat)(x:AV)(K:AV→Prop):Prop :=
 match(T s).d,x with
 |.struct fs,.agg cs=>match V6 fs f with
  |some (t,o)=>Yp T t (cs.drop o) K
  |none=>False
 |_,_=>False
def Jt(T:GQ)(t:Nat)(x ix:AV)(K:AV→Prop):Prop :=
 match(T t).d,ix with
 |.slice e,.v (.int .i64 i)=>match(T e).size with
  |0=>False
  |_+1=>match x with
   |.slice _ es=>∃cs,(0≤i∧es[i.toNat]?=some cs)∧cs.length=(T e).size∧K (.cptr cs)
   |.msl r n=>(0≤i∧i<n)∧K (.eref r n (T e).size i.toNat 0)
   |_=>False
 |.array n e,.v (.int .i64 i)=>match(T e).size with
  |0=>False
  |_+1=>match x with
   |.cptr cs=>(0≤i∧i<n)∧K (.cptr (cs.drop (i.toNat*(T e).size)))
   |.ref r off=>(0≤i∧i<n)∧K (.ref r (off+i.toNat*(T e).size))
   |_=>False
 |_,_=>False
def Ta(T:GQ)(t:Nat)(x ix:AV)(K:AV→Prop):Prop :=
 match(T t).d,x,ix with
 |.string,.v (.string s),.v (.int .i64 i)=>∃b:UInt8,(0≤i∧s.data[i.toNat]?=some b)∧K (.v (.int .u8 b.toNat))
 |.array n e,.agg cs,.v (.int .i64 i)=>(0≤i∧i<n)∧Yp T e (cs.drop (i.toNat*(T e).size)) K
 |_,_,_=>False
def Ca(t:Nat→AV):Option Operand→Option (Option Int)
 |none=>some none
 |some x=>match ev t x with |.v (.int .i64 i)=>some (some i) |_=>none
def over{α:Type}(cs:List α)(o:Nat)(vs:List α):List α :=
 match cs with
 | []=>[]
 |c::cs=>match o with
  |o+1=>c::over cs o vs
  |0=>match vs with
   | []=>c::cs
   |v::vs=>v::over cs 0 vs
structure Gh where
 ρ:Nat→Value
 ln:Nat→Nat
 tk:Nat→Bool
 own:Nat→Option Nat
 S:Nat→Nat→Prop

def Jd:List KS→List Value→Bool
 | [],[]=>true
 |k::r,v::s=>match Np k v with |true=>Jd r s |false=>false
 |_,_=>false
def Vs(sh:EL)(v:Value):Bool :=
 match sh.agg,v with
 |true,.agg cs=>Jd sh.l cs.toList
 |false,v=>Jd sh.l [v]
 |_,_=>false

def He(sh:EL)(es:Array MapEntry)(ck:Nat)(Cb:List (Value×AV)):Prop :=
 es.size=Cb.length∧(∀(i:Nat) (kv:Value×AV) (e:MapEntry),Cb[i]?=some kv→es[i]?=some e→e.key=kv.1) ∧
 (∀kv∈Cb,Vs sh kv.1=true)∧(Cb.map (·.1)).Nodup∧(∀(i:Nat) (e:MapEntry),es[i]?=some e→e.born<ck) ∧
 ∀(i j:Nat) (e e' : MapEntry),es[i]?=some e→es[j]?=some e'→e.born=e'.born→i=j

inductive BI(g:Gh)(w:World):(Nat→Prop)→AV→Value→Prop
 |v (U:Nat→Prop) (x:Value):BI g w U (.v x) x
 |junk (U:Nat→Prop) (x:Value):BI g w U .junk x
 |snil (U:Nat→Prop) (a:Option Addr) (cap:Nat):BI g w U (.slice .none []) (.slice a 0 cap)
 |slice (U:Nat→Prop) (es:List (List AV)) (b off sz cap:Nat) (val:Nat→Nat→Value) (hc:es.length≤cap)
   (hl:∀(i:Nat) (cs:List AV),es[i]?=some cs→cs.length=sz)
   (Di:∀(i:Nat) (cs:List AV) (j:Nat) (av:AV),es[i]?=some cs→cs[j]?=some av →
    g.S b (off+i*sz+j)∧w.cell? ⟨b,off+i*sz+j,none⟩=some (val i j)∧(val i j).oneCell'=true)
   (Ez:∀(i:Nat) (cs:List AV) (j:Nat) (av:AV),es[i]?=some cs→cs[j]?=some av→BI g w (fun _=>False) av (val i j)) :
   BI g w U (.slice .none es) (.slice (some ⟨b,off,none⟩) es.length cap)
 |tok (U:Nat→Prop) (r sz:Nat) (es:List (List AV)) (x:Value) (h:BI g w U (.slice .none es) x) (hl:∀c∈es,c.length=sz) (hu:U r) (ht:g.tk r=true) (hn:es.length≤g.ln r)
   (hx:es.length=g.ln r→x=g.ρ r):BI g w U (.slice (.id r sz) es) x
 |ver (U:Nat→Prop) (r sz v:Nat) (es:List (List AV)) (x:Value) (h:BI g w U (.slice .none es) x) (hl:∀c∈es,c.length=sz) (hu:U r) (ht:g.tk r=true) (hn:v≤g.ln r)
   (hx:v=g.ln r→x=g.ρ r):BI g w U (.slice (.ver r sz v) es) x
 |full (U:Nat→Prop) (sz:Nat) (es:List (List AV)) (x:Value) (h:BI g w U (.slice .none es) x) (hl:∀c∈es,c.length=sz) (hx:∃a,x=.slice a es.length es.length):BI g w U (.slice (.full sz) es) x
 |msl (U:Nat→Prop) (r n:Nat) (a:Option Addr) (cap:Nat) (hu:U r) (ht:g.tk r=true) (hn:n≤g.ln r) (ha:n=0∨∃b,a=some ⟨b,0,none⟩) (hx:n=g.ln r→.slice a n cap=g.ρ r) :
   BI g w U (.msl r n) (.slice a n cap)
 |agg (U:Nat→Prop) (cs:List AV) (vs:Array Value) (hs:vs.size=cs.length) (h1:∀(i:Nat) (x:Value),vs[i]?=some x→x.oneCell'=true)
   (h:∀(i:Nat) (av:AV) (x:Value),cs[i]?=some av→vs[i]?=some x→BI g w U av x):BI g w U (.agg cs) (.agg vs)
 |tup (U:Nat→Prop) (cs:List AV) (vs:Array Value) (hs:vs.size=cs.length)
   (h:∀(i:Nat) (av:AV) (x:Value),cs[i]?=some av→vs[i]?=some x→BI g w U av x):BI g w U (.tup cs) (.tuple vs)
 |cptr (U:Nat→Prop) (cs:List AV) (b off:Nat) (val:Nat→Value)
   (Di:∀(j:Nat) (av:AV),cs[j]?=some av→g.S b (off+j)∧w.cell? ⟨b,off+j,none⟩=some (val j)∧(val j).oneCell'=true)
   (Ez:∀(j:Nat) (av:AV),cs[j]?=some av→BI g w (fun _=>False) av (val j)) :
   BI g w U (.cptr cs) (.pointer (some ⟨b,off,none⟩))
 |ref (U:Nat→Prop) (r off b:Nat) (hu:U r) (ht:g.tk r=false) (hx:g.ρ r=.pointer (some ⟨b,0,none⟩)):BI g w U (.ref r off) (.pointer (some ⟨b,off,none⟩))
 |eref (U:Nat→Prop) (r n sz i off b cap:Nat) (hu:U r) (ht:g.tk r=true) (hn:i<n∧n≤g.ln r) (hx:n=g.ln r→g.ρ r=.slice (some ⟨b,0,none⟩) n cap) :
   BI g w U (.eref r n sz i off) (.pointer (some ⟨b,i*sz+off,none⟩))
 |mref (U:Nat→Prop) (r b:Nat) (hu:U r) (ht:g.tk r=false) (hx:g.ρ r=.map (some b)):BI g w U (.mref r) (.map (some b))
 |cmap (U:Nat→Prop) (sh:EL) (Cb:List (Value×AV)) (b:Nat) (es:Array MapEntry) (ck:Nat) (hS:g.S b 0) (hb:w.heap[b]?=some (.map es ck)) (hm:He sh es ck Cb)
   (h:∀(i:Nat) (kv:Value×AV) (e:MapEntry),Cb[i]?=some kv→es[i]?=some e→BI g w (fun _=>False) kv.2 e.val):BI g w U (.cmap sh Cb) (.map (some b))
 |clo (U:Nat→Prop) (f:Nat) (cs:List AV) (vs:Array Value) (hs:vs.size=cs.length)
   (h:∀(i:Nat) (av:AV) (x:Value),cs[i]?=some av→vs[i]?=some x→BI g w U av x):BI g w U (.clo f cs) (.func (.func f) #[] vs)

def HO.live:HO→Prop
 |.free |.dead |.vox _ |.ro _ |.rom _ _=>False
 |_=>True
def AM(h:Nat→HO)(r:Nat):Prop:=h r≠.free
def Fj:Nat→Prop:=fun _=>False

def CT(g:Gh)(w:World)(U:Nat→Prop)(cs:List AV)(vs:List Value):Prop :=
 vs.length=cs.length∧(∀x∈vs,x.oneCell'=true)∧∀(i:Nat) (av:AV) (x:Value),cs[i]?=some av→vs[i]?=some x→BI g w U av x

def LP:List Nat→Code→Bool
 |bs,.block id c=>LP (id::bs) c
 |bs,.seq a b=>LP bs a||LP bs b
 |bs,.cond _ a b=>LP bs a||LP bs b
 |bs,.loop c=>LP bs c
 |bs,.exit id=>!(bs.any fun i=>Nat.beq i id)
 |_,_=>false
def m0:Obj→Bool
 |.loop r=>LP [] r.body
 |_=>false
def Ec(g:Gh)(w:World)(U:Nat→Prop)(r:Nat):HO→Prop
 |.free |.dead=>True
 |.cells cs=>g.tk r=false∧∃b E vs,g.own r=some b∧g.ρ r=.pointer (some ⟨b,0,none⟩)∧w.heap[b]?=some (.cells vs E (0,0))∧CT g w U cs vs.toList∧∀o,¬g.S b o
 |.ro cs=>g.tk r=false∧∃b,g.ρ r=.pointer (some ⟨b,0,none⟩)∧BI g w Fj (.cptr cs) (.pointer (some ⟨b,0,none⟩))
 |.tok sz n=>g.tk r=true∧g.ln r=n∧∃a cap,g.ρ r=.slice a n cap∧(n=cap∧g.own r=none ∨
   n≤cap∧∃b E vs off,a=some ⟨b,off,none⟩∧g.own r=some b∧w.heap[b]?=some (.cells vs E (0,0))∧vs.size=off+cap*sz∧∀o,g.S b o→o<off+n*sz)
 |.var sz v n=>g.tk r=true∧g.ln r=v∧∃a cap,g.ρ r=.slice a n cap∧(n=cap∧g.own r=none ∨
   n≤cap∧∃b E vs off,a=some ⟨b,off,none⟩∧g.own r=some b∧w.heap[b]?=some (.cells vs E (0,0))∧vs.size=off+cap*sz∧∀o,g.S b o→o<off+n*sz)
 |.vox v=>g.tk r=true∧g.ln r=v
 |.arr sz es=>g.tk r=true∧g.ln r=es.length∧(∀cs∈es,cs.length=sz)∧(es=[]∧g.ρ r=.slice none 0 0∧g.own r=none ∨
   ∃b cap E vs,g.ρ r=.slice (some ⟨b,0,none⟩) es.length cap∧g.own r=some b∧es.length≤cap∧w.heap[b]?=some (.cells vs E (0,0))∧vs.size=cap*sz ∧
    CT g w Fj es.flatten (vs.toList.take (es.length*sz))∧∀o,¬g.S b o)
 |.map sh Cb=>g.tk r=false∧∃b es ck,g.own r=some b∧g.ρ r=.map (some b)∧w.heap[b]?=some (.map es ck)∧He sh es ck Cb ∧
   (∀(i:Nat) (kv:Value×AV) (e:MapEntry),Cb[i]?=some kv→es[i]?=some e→BI g w Fj kv.2 e.val)∧∀o,¬g.S b o
 |.mapU sh Cb=>g.tk r=false∧∃b es ck,g.own r=some b∧g.ρ r=.map (some b)∧w.heap[b]?=some (.map es ck)∧He sh es ck Cb ∧
   (∀(i:Nat) (kv:Value×AV) (e:MapEntry),Cb[i]?=some kv→es[i]?=some e→BI g w U kv.2 e.val)∧∀o,¬g.S b o
 |.rom sh Cb=>g.tk r=false∧∃b,g.ρ r=.map (some b)∧BI g w Fj (.cmap sh Cb) (.map (some b))
 |.iter all rem F6=>g.tk r=false∧∃b mb J3 seen st es ck,g.own r=some b∧g.ρ r=.pointer (some ⟨b,0,none⟩)∧w.heap[b]?=some (.mapIter (some mb) J3 seen st) ∧
   g.S mb 0∧w.heap[mb]?=some (.map es ck)∧(∃sh,He sh es ck all)∧J3=ck∧st=ck ∧
   (∀(i:Nat) (kv:Value×AV) (e:MapEntry),all[i]?=some kv→es[i]?=some e→BI g w Fj kv.2 e.val) ∧
   (rem.Nodup∧∀kv∈rem,kv∈all)∧(∀(i:Nat) (kv:Value×AV) (e:MapEntry),all[i]?=some kv→es[i]?=some e→(kv∈rem↔e.born∉seen)) ∧
   (match F6 with | none=>True | some kv=>∃(i:Nat) (e:MapEntry),all[i]?=some kv∧es[i]?=some e∧seen.back?=some e.born)∧∀o,¬g.S b o
 |.raw b ob=>g.tk r=false∧g.own r=some b∧w.heap[b]?=some ob∧m0 ob=true∧∀o,¬g.S b o

def gB:Nat:=0
def qD:List (Nat×Nat×Option Value):=[]
def VM(g:Gh)(w:World):Prop:=(g.S gB 0∧∃m,w.cell? ⟨gB,0,none⟩=some (.int .i64 m))∧∀x∈qD,g.S x.1 x.2.1∧w.cell? ⟨x.1,x.2.1,none⟩=x.2.2
structure Dx(w0:World)(g0:Gh)(h0:Nat→HO)(h:Nat→HO)(g:Gh)(w:World):Prop where
 os:w.os=w0.os
 tape:w.tape=w0.tape
 output:w.output=w0.output
 size:w0.heap.size≤w.heap.size
 frame:∀b,b<w0.heap.size→(∀r,(h0 r).live→g0.own r≠some b)→w.heap[b]?=w0.heap[b]?
 slt:∀b o,g.S b o→b<w.heap.size
 objs:∀r,Ec g w (AM h) r (h r)
 inj:∀r r' b,(h r).live→(h r').live→g.own r=some b→g.own r'=some b→r=r'
 loc:∀r b,(h r).live→g.own r=some b→b<w.heap.size∧(w0.heap.size≤b∨∃r',(h0 r').live∧g0.own r'=some b)
 sg:∀b o,g.S b o→g0.S b o∨w0.heap.size≤b∨∃r',(h0 r').live∧g0.own r'=some b
 glob:VM g w

def E0(g:Gh)(w:World)(g' : Gh)(w' : World):Prop :=
 ∀b o,g.S b o→g'.S b o∧w'.cell? ⟨b,o,none⟩=w.cell? ⟨b,o,none⟩∧∀es ck,w.heap[b]?=some (.map es ck)→w'.heap[b]?=some (.map es ck)
def J6(g g' : Gh)(U:Nat→Prop):Prop :=
 ∀i,U i→g'.tk i=g.tk i∧g.ln i≤g'.ln i∧(g.tk i=false→g'.ρ i=g.ρ i)∧(g'.ln i=g.ln i→g'.ρ i=g.ρ i)

structure Le(h:Nat→HO)(g:Gh)(w:World)(h' : Nat→HO)(g' : Gh)(w' : World):Prop where
 gh:J6 g g' (AM h)
 us:∀i,AM h i→AM h' i
 keeps:E0 g w g' w'

def Gd (P : Program) (f : Nat) : Prop := ∃ fn, P.funcs[f]? = some fn ∧ (fn.name == "runtime.NumGoroutine") = false ∧ fn.body.isNone = false

def Bo(P:Program)(f:Nat)(args:List AV)(h0:Nat→HO)(Q:AV→(Nat→HO)→Prop):Prop :=
 Gd P f∧∀(g:Gh) (w:World) (vals:Array Value),vals.size=args.length→(∀(i:Nat) (av:AV) (x:Value),args[i]?=some av→vals[i]?=some x→BI g w (AM h0) av x) →
  Dx w g h0 h0 g w →
  Calls P f vals w fun e w'=>∃v r h' g',e=.returned v∧Q r h'∧BI g' w' (AM h') r v∧Dx w g h0 h' g' w'∧Le h0 g w h' g' w'

def LA(P:Program)(f:Nat)(args:List AV)(res:AV):Prop:=Bo P f args Aa fun r h'=>r=res∧h'=Aa

def GO(P:Program)(Y:Gh→World→Prop)(l:Nat)(args:List AV)(h0:Nat→HO)(Q:AV→(Nat→HO)→Prop):Prop :=
 ∀(g:Gh) (w:World) (vals:Array Value),vals.size=args.length→(∀(i:Nat) (av:AV) (x:Value),args[i]?=some av→vals[i]?=some x→BI g w (AM h0) av x) →
  Dx w g h0 h0 g w→Y g w →
  YieldAt Fence.wide 0 P l vals w fun e w'=>∃v r h' g',e=.returned v∧Q r h'∧BI g' w' (AM h') r v∧Dx w g h0 h' g' w'∧Le h0 g w h' g' w'
def FX(P:Program)(Y:Gh→World→Prop)(f:Nat)(args:List AV)(h0:Nat→HO)(Q:AV→(Nat→HO)→Prop):Prop :=
 Gd P f∧∀(g:Gh) (w:World) (vals:Array Value),vals.size=args.length→(∀(i:Nat) (av:AV) (x:Value),args[i]?=some av→vals[i]?=some x→BI g w (AM h0) av x) →
  Dx w g h0 h0 g w→Y g w →
  Calls P f vals w fun e w'=>∃v r h' g',e=.returned v∧Q r h'∧BI g' w' (AM h') r v∧Dx w g h0 h' g' w'∧Le h0 g w h' g' w'
def Gc(P:Program)(Y:Nat→Gh→World→Prop)(F:AV)(args:List AV)(h:Nat→HO)(Q:AV→(Nat→HO)→Prop):Prop :=
 match F with
 |.v (.func (.func f) ⟨[]⟩ ⟨[]⟩)=>Bo P f args h Q
 |.clo f caps=>Bo P f (args++caps) h Q
 |.v (.func (.yield l) ⟨[]⟩ ⟨[]⟩)=>GO P (Y l) l args h Q
 |_=>False
def Pq(P:Program)(F:AV)(args:List AV)(res:AV):Prop :=
 match F with
 |.v (.func (.func f) ⟨[]⟩ ⟨[]⟩)=>LA P f args res
 |.clo f caps=>LA P f (args++caps) res
 |_=>False

structure Cx where
 P:Program
 T:GQ
 pl:QA
 ext:Bool
 nid:Nat
 yp:Nat→List (Nat×Nat)→Gh→World→Prop
def KB(cx:Cx)(d:Nat):Nat:=bif II cx.pl.dyn d then cx.nid else d

abbrev HK:=AV→(Nat→HO)→Prop

def RX(T:GQ)(d:Option Nat)(h:Nat→HO)(e:Nat)(K:HK):Prop :=
 match d with
 |none=>False
 |some d=>match h d with
  |.free=>match(T e).d with
   |.other=>False
   |_=>match H7 ((T e).zc.map .v)with
    |true=>K (.ref d 0) (AW h d (.cells ((T e).zc.map .v)))
    |false=>False
  |_=>False
def G8(n:Nat)(a:AV)(K:List AV→Prop):Prop :=
 match a with
 |.agg cs=>match Nat.beq cs.length n with
  |true=>K cs
  |false=>False
 |a=>match one a with
  |true=>match n with
   |1=>K [a]
   |_=>False
  |false=>False
def bL(cx:Cx)(d:Option Nat)(h:Nat→HO)(e:Nat)(x:AV)(K:HK):Prop :=
 match d with
 |none=>False
 |some d=>match h d with
  |.free=>match(cx.T e).d with
   |.other=>False
   |_=>G8 (cx.T e).size x fun cs=>match II cx.pl.frz d with
    |true=>K (.ref d 0) (AW h d (.ro (cs.map (str h))))
    |false=>K (.ref d 0) (AW h d (.cells cs))
  |_=>False
def Qm(cx:Cx)(h:Nat→HO)(t:Nat)(p x:AV)(K:HK):Prop :=
 match(cx.T t).d with
 |.other=>False
 |_=>G8 (cx.T t).size x fun vs=>match p with
  |.ref r off=>match h r with
   |.cells cs=>off+vs.length≤cs.length∧(match II cx.pl.frz r with
    |true=>K (.v undef) (AW h r (.ro ((over cs off vs).map (str h))))
    |false=>K (.v undef) (AW h r (.cells (over cs off vs))))
   |_=>False
  |.eref r n sz i off=>match h r with
   |.arr GW es=>match Nat.beq sz GW with
    |true=>n=es.length∧∃cs,es[i]?=some cs∧off+vs.length≤sz∧K (.v undef) (AW h r (.arr sz (es.set i (over cs off (vs.map (str h))))))
    |false=>False
   |_=>False
  |_=>False
def IH(T:GQ)(h:Nat→HO)(t:Nat)(p:AV)(K:AV→Prop):Prop :=
 match p with
 |.cptr cs=>Mo T t cs K
 |.ref r off=>match h r with
  |.cells cs=>Mo T t (cs.drop off) K
  |.ro cs=>Mo T t (cs.drop off) K
  |_=>False
 |.eref r n sz i off=>match h r with
  |.arr GW es=>match Nat.beq sz GW with
   |true=>n=es.length∧∃cs,es[i]?=some cs∧Mo T t (cs.drop off) K
   |false=>False
  |_=>False
 |_=>False
def KD(pl:Nat→Option (Nat×Nat))(cs:List AV)(t:Nat→AV)(ps:List (Nat×Operand))(K:List AV→Prop):Prop :=
 match ps with
 | []=>K cs
 |(i,x)::r=>match pl i with
  |none=>False
  |some (o,n)=>G8 n (ev t x) fun vs=>match Nat.ble (o+n) cs.length with
   |true=>KD pl (over cs o vs) t r K
   |false=>False
def Oj(T:GQ):List (Nat×Nat)→Bool
 | []=>true
 |(t,_)::r=>match(T t).size with |0=>false |_+1=>Oj T r
def Pw(T:GQ)(ty:Nat)(t:Nat→AV)(ps:List (Nat×Operand))(K:AV→Prop):Prop :=
 match H7 ((T ty).zc.map .v)with
 |false=>False
 |true=>match(T ty).d with
  |.struct fs=>match Oj T fs with
   |false=>False
   |true=>KD (fun i=>match V6 fs i with |some (t,o)=>some (o,(T t).size) |none=>none) ((T ty).zc.map .v) t ps fun cs=>K (.agg cs)
  |.array _ e=>match(T e).size with
   |0=>False
   |_+1=>KD (fun i=>some (i*(T e).size,(T e).size)) ((T ty).zc.map .v) t ps fun cs=>K (.agg cs)
  |_=>False
def QH(n sz:Nat)(h:Nat→HO)(es:List (List AV))(t:Nat→AV)(ps:List (Nat×Operand))(K:List (List AV)→Prop):Prop :=
 match ps with
 | []=>K es
 |(i,x)::r=>match Nat.blt i n with
  |true=>G8 sz (ev t x) fun vs=>QH n sz h (es.set i (vs.map (str h))) t r K
  |false=>False
def EF(cx:Cx)(d:Option Nat)(h:Nat→HO)(sz:Nat)(es:List (List AV))(K:HK):Prop :=
 match d with
 |none=>False
 |some d=>match h (KB cx d)with
  |.free=>match Em cx.pl.arr d with
   |some _=>K (.msl (KB cx d) es.length) (AW h (KB cx d) (.arr sz es))
   |none=>K (.slice (.id (KB cx d) sz) es) (AW h (KB cx d) (.tok sz es.length))
  |_=>False
def Ip(cx:Cx)(d:Option Nat)(h:Nat→HO)(ty n:Nat)(t:Nat→AV)(ps:List (Nat×Operand))(K:HK):Prop :=
 match(cx.T ty).d with
 |.slice e=>match H7 ((cx.T e).zc.map .v),Nat.beq (cx.T e).zc.length (cx.T e).size with
  |true,true=>match(cx.T e).size with
   |0=>False
   |_+1=>match Nat.ble (n*(cx.T e).size) 16777216 with
    |true=>QH n (cx.T e).size h (List.replicate n ((cx.T e).zc.map .v)) t ps fun es=>EF cx d h (cx.T e).size es K
    |false=>False
  |_,_=>False
 |_=>False
def KJ(t:Nat→AV)(h:Nat→HO)(fn:Fn)(first captured:List Operand)(K:AV→Prop):Prop :=
 match fn,first with
 |.func f,[]=>K (.clo f (captured.map fun x=>rsv h (ev t x)))
 |_,_=>False
def B1(sz:Nat):List (List AV)→Prop
 | []=>True
 |c::r=>c.length=sz∧B1 sz r
def Ld(h:Nat→HO)(x:AV)(K:List (List AV)→Prop):Prop :=
 match x with
 |.slice _ es=>K es
 |.v (.slice none 0 0)=>K []
 |.msl r n=>match h r with
  |.arr _ es=>n=es.length∧K es
  |_=>False
 |_=>False
def If(cx:Cx)(d:Option Nat)(h:Nat→HO)(ty:Nat)(s x:AV)(K:HK):Prop :=
 match(cx.T ty).d with
 |.slice e=>match Nat.beq (cx.T e).zc.length (cx.T e).size with
  |false=>False
  |true=>match(cx.T e).size with
   |0=>False
   |_+1=>Ld h x fun es2=>match s with
    |.v (.slice none 0 0)=>(B1 (cx.T e).size es2∧es2.length*(cx.T e).bytes≤140737488355328∧es2.length≤9223372036854775807)∧EF cx d h (cx.T e).size es2 K
    |.slice (.full GW) es=>match Nat.beq GW (cx.T e).size with
     |true=>(B1 (cx.T e).size es2∧0<es2.length∧(es.length+es2.length)*(cx.T e).bytes≤140737488355328∧es.length+es2.length≤9223372036854775807)∧EF cx d h (cx.T e).size (es++es2) K
     |false=>False
    |.slice (.id r GW) es=>match h r with
     |.tok sz n=>match Nat.beq sz (cx.T e).size,Nat.beq GW sz with
      |true,true=>(B1 sz es2∧es.length=n∧(es.length+es2.length)*(cx.T e).bytes≤140737488355328∧es.length+es2.length≤9223372036854775807) ∧
        K (.slice (.id r sz) (es++es2)) (AW h r (.tok sz (es.length+es2.length)))
      |_,_=>False
     |_=>False
    |.msl r n=>match h r with
     |.arr sz es=>match Nat.beq sz (cx.T e).size with
      |true=>(B1 sz es2∧es.length=n∧(es.length+es2.length)*(cx.T e).bytes≤140737488355328∧es.length+es2.length≤9223372036854775807) ∧
        K (.msl r (es.length+es2.length)) (AW h r (.arr sz (es++es2)))
      |false=>False
     |_=>False
    |_=>False
 |_=>False

abbrev Hq:=List (Nat×Nat)
inductive pS | pure | rel | gen (σ:Hq) (nn:Nat) | geny (σ:Hq) (nn:Nat)
def Cn(σ:Hq)(n:Nat):Option Nat :=
 match σ with
 | []=>none
 |(i,j)::r=>bif Nat.beq i n then some j else Cn r n
def GC(σ:Hq)(n:Nat):Option Nat :=
 match σ with
 | []=>none
 |(i,j)::r=>bif Nat.beq j n then some i else GC r n
def D4:Hq→Bool
 | []=>true
 |(i,j)::r=>(match Cn r i,GC r j with |none,none=>true |_,_=>false)&&Nat.ble 1000 j&&Nat.blt j 2000&&D4 r

def ES:Hq→Bool
 | []=>true
 |(i,j)::r=>(match Cn r i,GC r j with |none,none=>true |_,_=>false)&&ES r
def ren0(f:Nat→Option Nat)(h:Nat→HO):AV→AV
 |.slice (.id r sz) es=>match f r with |some r'=>.slice (.id r' sz) es |none=>.slice .none es
 |.slice (.ver r sz v) es=>match f r with |some r'=>.slice (.ver r' sz v) es |none=>.slice .none es
 |.msl r n=>match f r with |some r'=>.msl r' n |none=>.junk
 |.ref r off=>match f r with |some r'=>.ref r' off |none=>str0 h (.ref r off)
 |.eref r n sz i off=>match f r with |some r'=>.eref r' n sz i off |none=>.junk
 |.mref r=>match f r with |some r'=>.mref r' |none=>str0 h (.mref r)
 |a=>str0 h a
def ren1(f:Nat→Option Nat)(h:Nat→HO):AV→AV
 |.agg cs=>.agg (cs.map (ren0 f h))
 |.clo g cs=>.clo g (cs.map (ren0 f h))
 |a=>ren0 f h a
def ren(f:Nat→Option Nat)(h:Nat→HO):AV→AV
 |.tup cs=>.tup (cs.map (ren1 f h))
 |a=>ren1 f h a
def HO.ren(f:Nat→Option Nat)(h:Nat→HO):HO→HO
 |.cells cs=>.cells (cs.map (ren1 f h))
 |.mapU sh Cb=>.mapU sh (Cb.map fun p=>(p.1,ren1 f h p.2))
 |o=>o
def Af(l:List (Nat×HO))(hb:Nat→HO)(i:Nat):HO:=match l with | []=>hb i | (j,v)::r=>bif Nat.beq i j then v else Af r hb i
def WC(f:Nat→Option Nat)(h:Nat→HO):Hq→List (Nat×HO)
 | []=>[]
 |(i,j)::r=>(j,(h i).ren f h)::WC f h r
def Fc(σ:Hq)(h:Nat→HO):Nat→HO:=Af (WC (Cn σ) h σ) Aa
def BA(d k:Nat):Nat:=10000+100*d+k
def Fg(σ:Hq)(d nn:Nat)(j:Nat):Option Nat :=
 match GC σ j with
 |some i=>some i
 |none=>match Nat.ble 2000 j&&Nat.blt j (2000+nn)with |true=>some (BA d (j-2000)) |false=>none
def Ea(σ:Hq)(d nn:Nat)(h h' : Nat→HO):Nat→HO:=fun i =>
 match Cn σ i with
 |some j=>(h' j).ren (Fg σ d nn) h'
 |none=>match Nat.ble (BA d 0) i&&Nat.blt i (BA d nn)with |true=>(h' (2000+(i-BA d 0))).ren (Fg σ d nn) h' |false=>h i
def DA(h:Nat→HO)(d:Nat):Nat→Bool
 |0=>true
 |k+1=>(match h (BA d k)with |.free=>true |_=>false)&&DA h d k
def Dj(σ:Hq)(d nn:Nat):Bool :=
 match σ with
 | []=>true
 |(i,_)::r=>!(Nat.ble (BA d 0) i&&Nat.blt i (BA d nn))&&Dj r d nn

def NC(l:List (Nat×Nat))(d:Option Nat):Option Nat:=match d with | none=>none | some d=>Em l d
def aU:AV→Bool | .tup _=>false | _=>true
def Tx:List AV→Bool
 | []=>true
 |a::r=>match aU a with |true=>Tx r |false=>false
def VH:List AV→Option (List Value)
 | []=>some []
 |.v x::r=>match VH r with |some l=>some (x::l) |none=>none
 |_=>none
def Rf(cx:Cx)(k:Nat)(d:Option Nat)(h:Nat→HO)(F:AV)(args:List AV)(K:HK):Prop :=
 match d,F,args with
 |some d,.v (.func (.func f) ⟨[]⟩ ⟨[]⟩),.msl r n::l=>match VH l with
  |some vs=>match h r with
   |.arr sz es=>match k with
    |0=>∃n' EM,Bo cx.P f (.msl 1000 n::vs.map .v) (Af [(1000,.arr sz es)] Aa) (fun r' h'=>r'=.msl 1000 n'∧h'=Af [(1000,.arr sz EM)] Aa)∧K (.msl r n') (AW h r (.arr sz EM))
    |_+1=>∃n' EM,(DA h d 1&&Nat.blt r 10000000&&!Nat.beq r (BA d 0))=true∧Bo cx.P f (.msl 1000 n::vs.map .v) (Af [(1000,.arr sz es)] Aa) (fun r' h'=>r'=.msl 2000 n'∧h'=Af [(1000,.dead),(2000,.arr sz EM)] Aa) ∧
      K (.msl (BA d 0) n') (AW (AW h r .dead) (BA d 0) (.arr sz EM))
   |_=>False
  |none=>False
 |_,_,_=>False
def T1(cx:Cx)(d:Option Nat)(st:St)(F:AV)(args:List AV)(K:HK):Prop :=
 match d with
 |none=>False
 |some d=>∃sz es,(DA st.h d 1&&aU F&&Tx args)=true∧Gc cx.P (fun l=>cx.yp l []) (str st.h F) (args.map (str st.h)) Aa (fun r h'=>r=.slice (.id 2000 sz) es∧h'=Af [(2000,.tok sz es.length)] Aa) ∧
   K (.slice (.id (BA d 0) sz) es) (AW st.h (BA d 0) (.tok sz es.length))
def Qw(cx:Cx)(d:Option Nat)(st:St)(F:AV)(args:List AV)(K:HK):Prop :=
  match d,F,VH args with
  |some _,.v (.func (.yield l) ⟨[]⟩ ⟨[]⟩),some vs=>match st.h 1000,st.h 1001 with
    |.cells [.slice (.id r sz) es],.tok lR n=>(r=1001∧lR=sz)∧∃v EM n',GO cx.P (cx.yp l [(1000,1000),(1001,1001)]) l (vs.map .v) (Af [(1000,.cells [.slice (.id 1001 sz) es]),(1001,.tok sz n)] Aa)
          (fun r h'=>r=.v v∧h'=Af [(1000,.cells [.slice (.id 1001 sz) EM]),(1001,.tok sz n')] Aa) ∧
        K (.v v) (AW (AW st.h 1001 (.tok sz n')) 1000 (.cells [.slice (.id 1001 sz) EM]))
    |_,_=>False
  |_,_,_=>False
def kj:List Nat:=[1000,1001,1002,1003,1004,1005,1006,1007]
def Xr(cx:Cx)(d:Option Nat)(st:St)(F:AV)(args:List AV)(K:HK):Prop :=
 match d,F with
 |some d,.v (.func (.func f) ⟨[]⟩ ⟨[]⟩)=>∃(σ:Hq) (H0 Hn:List (Nat×HO)) (args' : List AV) (res:AV),
   (∀h2:Nat→HO,(∀r∈kj,h2 r=st.h r)→Fc σ h2=Af H0 Aa∧args.map (ren (Cn σ) h2)=args')∧(D4 σ&&Dj σ d 0&&σ.all fun p=>II kj p.1)=true ∧
   Bo cx.P f args' (Af H0 Aa) (fun r h'=>r=res∧h'=Af Hn Aa)∧K (ren (Fg σ d 0) (Af Hn Aa) res) (Ea σ d 0 st.h (Af Hn Aa))
 |_,_=>False
def O9(cx:Cx)(k:Nat)(d:Option Nat)(st:St)(F:AV)(args:List AV)(K:HK):Prop :=
 match Nat.beq k 4 with
 |true=>Xr cx d st F args K
 |false=>Rf cx k d st.h F args K
def Gu(cx:Cx)(dr:Bool)(d:Option Nat)(st:St)(F:AV)(args:List AV)(K:HK):Prop :=
 match dr with
 |true=>match NC cx.pl.dc d with
  |none=>∃res,Pq cx.P (str st.h F) (args.map (str st.h)) res∧K res st.h
  |some 0=>match d with
   |none=>False
   |some d=>∃n sz es,(DA st.h d 1&&aU F&&Tx args)=true∧Gc cx.P (fun l=>cx.yp l []) (str st.h F) (args.map (str st.h)) Aa (fun r h'=>r=.msl 2000 n∧h'=Af [(2000,.arr sz es)] Aa) ∧
     K (.msl (BA d 0) n) (AW st.h (BA d 0) (.arr sz es))
  |some (k+1)=>match Nat.beq k 2 with
   |true=>T1 cx d st F args K
   |false=>match Nat.beq k 3 with
    |true=>Qw cx d st F args K
    |false=>O9 cx k d st F args K
 |false=>∃m:pS,match m with
  |.pure=>∃res,Pq cx.P (str st.h F) (args.map (str st.h)) res∧K res st.h
  |.rel=>Gc cx.P (fun _ _ _=>True) (str st.h F) (args.map (str st.h)) Aa fun r h'=>h'=Aa∧K r st.h
  |.gen σ nn=>match d with
   |none=>False
   |some d=>(D4 σ&&DA st.h d nn&&Dj σ d nn)=true ∧
     Gc cx.P (fun l=>cx.yp l σ) (ren (Cn σ) st.h F) (args.map (ren (Cn σ) st.h)) (Fc σ st.h) fun r h'=>K (ren (Fg σ d nn) h' r) (Ea σ d nn st.h h')
  |.geny σ nn=>match d with
   |none=>False
   |some d=>(D4 σ&&DA st.h d nn&&Dj σ d nn)=true ∧
     match ren (Cn σ) st.h F with
     |.clo f caps=>FX cx.P (fun g w=>∀l,cx.yp l σ g w) f (args.map (ren (Cn σ) st.h)++caps) (Fc σ st.h) fun r h'=>K (ren (Fg σ d nn) h' r) (Ea σ d nn st.h h')
     |_=>False

def WJ:List AV→Option (List Value)
 | []=>some []
 |.v x::r=>match WJ r with |some l=>some (x::l) |none=>none
 |_=>none
def oq:AV→Option Value
 |.v x=>some x
 |.agg cs=>match WJ cs with |some l=>some (.agg l.toArray) |none=>none
 |_=>none
def HQ(T:GQ)(t:Nat):Option EL :=
 match(T t).d with
 |.struct _=>match HA T 8 t with |some l=>some ⟨true,l⟩ |none=>none
 |_=>match HA T 1 t with |some l=>some ⟨false,l⟩ |none=>none
def kW:KS→KS→Bool
 |.int k,.int k'=>pN k k'
 |.str,.str=>true
 |.bool,.bool=>true
 |_,_=>false
def Tg:List KS→List KS→Bool
 | [],[]=>true
 |a::r,b::s=>match kW a b with |true=>Tg r s |false=>false
 |_,_=>false
def o5(a b:EL):Bool :=
 match a.agg,b.agg with
 |true,true=>Tg a.l b.l
 |false,false=>Tg a.l b.l
 |_,_=>false
def Ke(T:GQ)(ty:Nat)(sh:EL)(k:AV)(K:Value→Prop):Prop :=
 match(T ty).d with
 |.map kt _=>match HQ T kt with
  |some tO=>match o5 sh tO with
   |true=>match oq k with
    |some kx=>match Vs sh kx with
     |true=>K kx
     |false=>False
    |none=>False
   |false=>False
  |none=>False
 |_=>False
open Classical in
noncomputable def Fa(Cb:List (Value×AV))(k:Value)(a:AV):List (Value×AV) :=
 if ∃a',(k,a')∈Cb then Cb.map fun p=>if p.1=k then(k,a)else p else Cb++[(k,a)]
def KK(T:GQ)(mku:List Nat)(d:Option Nat)(h:Nat→HO)(ty:Nat)(K:HK):Prop :=
 match d with
 |none=>False
 |some d=>match h d with
  |.free=>match(T ty).d with
   |.map kt _=>match HQ T kt with
    |some sh=>match II mku d with
     |true=>K (.mref d) (AW h d (.mapU sh []))
     |false=>K (.mref d) (AW h d (.map sh []))
    |none=>False
   |_=>False
  |_=>False
def Ha(T:GQ)(h:Nat→HO)(ty:Nat)(m k x:AV)(K:HK):Prop :=
 match m with
 |.mref r=>match h r with
  |.map sh Cb=>Ke T ty sh k fun kx=>K (.v undef) (AW h r (.map sh (Fa Cb kx (str h x))))
  |.mapU sh Cb=>Ke T ty sh k fun kx=>K (.v undef) (AW h r (.mapU sh (Fa Cb kx x)))
  |_=>False
 |_=>False
def Kl(T:GQ)(t:Nat)(K:AV→Prop):Prop :=
 match(T t).d with
 |.other=>False
 |_=>match(T t).zero with
  |.agg cs=>match H7 (cs.toList.map .v)with |true=>K (.agg (cs.toList.map .v)) |false=>False
  |z=>K (.v z)
def Mf(T:GQ)(ty:Nat)(ok:Bool)(Cb:List (Value×AV))(kx:Value)(K:AV→Prop):Prop :=
 match(T ty).d with
 |.map _ e=>match ok with
  |true=>(∀a,(kx,a)∈Cb→K (.tup [a,.v (.bool true)]))∧((∀a,(kx,a)∉Cb)→Kl T e fun z=>K (.tup [z,.v (.bool false)]))
  |false=>(∀a,(kx,a)∈Cb→K a)∧((∀a,(kx,a)∉Cb)→Kl T e K)
 |_=>False
def Me(T:GQ)(ty:Nat)(ok:Bool)(Cb:List (Value×AV))(kx:Value)(K:AV→Prop):Prop :=
 match(T ty).d with
 |.map _ e=>match ok with
  |true=>(∃a,((kx,a)∈Cb∧∀b,(kx,b)∈Cb→b=a)∧K (.tup [a,.v (.bool true)]))∨((∀a,(kx,a)∉Cb)∧Kl T e fun z=>K (.tup [z,.v (.bool false)]))
  |false=>(∃a,((kx,a)∈Cb∧∀b,(kx,b)∈Cb→b=a)∧K a)∨((∀a,(kx,a)∉Cb)∧Kl T e K)
 |_=>False
def MP(T:GQ)(h:Nat→HO)(ty:Nat)(m k:AV)(ok:Bool)(K:AV→Prop):Prop :=
 match m with
 |.cmap sh Cb=>Ke T ty sh k fun kx=>Me T ty ok Cb kx K
 |.mref r=>match h r with
  |.map sh Cb=>Ke T ty sh k fun kx=>Me T ty ok Cb kx K
  |.mapU sh Cb=>Ke T ty sh k fun kx=>Me T ty ok Cb kx K
  |.rom sh Cb=>Ke T ty sh k fun kx=>Me T ty ok Cb kx K
  |_=>False
 |_=>False
def MQ(T:GQ)(h:Nat→HO)(ty:Nat)(m k:AV)(ok:Bool)(K:AV→Prop):Prop :=
 match m with
 |.cmap sh Cb=>Ke T ty sh k fun kx=>Mf T ty ok Cb kx K
 |.mref r=>match h r with
  |.map sh Cb=>Ke T ty sh k fun kx=>Mf T ty ok Cb kx K
  |.mapU sh Cb=>Ke T ty sh k fun kx=>Mf T ty ok Cb kx K
  |.rom sh Cb=>Ke T ty sh k fun kx=>Mf T ty ok Cb kx K
  |_=>False
 |_=>False
def ZV(d:Option Nat)(h:Nat→HO)(x:AV)(K:HK):Prop :=
 match d with
 |none=>False
 |some d=>match h d with
  |.free=>match x with
   |.cmap _ Cb=>K (.ref d 0) (AW h d (.iter Cb Cb none))
   |.mref r=>match h r with
    |.rom _ Cb=>K (.ref d 0) (AW h d (.iter Cb Cb none))
    |.map sh Cb=>K (.ref d 0) (AW (AW h r (.rom sh Cb)) d (.iter Cb Cb none))
    |_=>False
   |_=>False
  |_=>False
def ik(h:Nat→HO)(x:AV)(K:HK):Prop :=
 match x with
 |.ref r 0=>match h r with
  |.iter all rem _=>(rem=[]→K (.tup [.v (.bool false)]) h) ∧
    (∀kv NY,rem.Perm (kv::NY)→K (.tup [.v (.bool true),.v kv.1,kv.2]) (AW h r (.iter all NY (some kv))))
  |_=>False
 |_=>False
def Y8(h:Nat→HO)(x:AV)(K:AV→Prop):Prop :=
 match x with
 |.ref r 0=>match h r with
  |.iter _ _ (some kv)=>K (.tup [.v kv.1,kv.2])
  |_=>False
 |_=>False
def QR(T:GQ)(t:Nat)(h:Nat→HO)(x:AV)(K:AV→Prop):Prop :=
 match(T t).d with
 |.slice _=>match x with
  |.slice _ es=>K (.v (.int .i64 es.length))
  |.msl _ n=>K (.v (.int .i64 n))
  |.v (.slice none 0 0)=>K (.v (.int .i64 0))
  |_=>False
 |.string=>match x with
  |.v (.string s)=>K (.v (.int .i64 s.size))
  |_=>False
 |.map _ _=>match x with
  |.cmap _ Cb=>K (.v (.int .i64 Cb.length))
  |.mref r=>match h r with
   |.map _ Cb=>K (.v (.int .i64 Cb.length))
   |.mapU _ Cb=>K (.v (.int .i64 Cb.length))
   |.rom _ Cb=>K (.v (.int .i64 Cb.length))
   |_=>False
  |_=>False
 |_=>False
def GD(cx:Cx)(d:Option Nat)(h:Nat→HO)(ty:Nat)(x:AV)(lo hi mx:Option (Option Int))(K:HK):Prop :=
 match lo,hi,mx with
 |some lo,some hi,some mx=>match(cx.T ty).d with
  |.string=>match mx,x with
   |none,.v (.string s)=>(0≤lo.getD 0∧lo.getD 0≤hi.getD s.size∧hi.getD s.size≤s.size)∧K (.v (.string (s.extract (lo.getD 0).toNat (hi.getD s.size).toNat))) h
   |_,_=>False
  |.slice e=>match(cx.T e).size with
   |0=>False
   |_+1=>match x with
    |.slice _ es=>match mx with
     |none=>(0≤lo.getD 0∧lo.getD 0≤hi.getD es.length∧hi.getD es.length≤es.length) ∧
       (∀cs∈es,cs.length=(cx.T e).size)∧K (.slice .none ((es.take (hi.getD es.length).toNat).drop (lo.getD 0).toNat)) h
     |some m=>match d,hi with
      |some d,some hi=>match Em cx.pl.arr d with
       |some _=>(0≤lo.getD 0∧lo.getD 0≤hi∧m=hi∧hi≤es.length)∧(∀cs∈es,cs.length=(cx.T e).size) ∧
         K (.slice (.full (cx.T e).size) ((es.take hi.toNat).drop (lo.getD 0).toNat)) h
       |none=>match h d with
        |.free=>(0≤lo.getD 0∧lo.getD 0≤hi∧m=hi∧hi≤es.length)∧(∀cs∈es,cs.length=(cx.T e).size) ∧
          K (.slice (.id d (cx.T e).size) ((es.take hi.toNat).drop (lo.getD 0).toNat)) (AW h d (.tok (cx.T e).size (hi.toNat-(lo.getD 0).toNat)))
        |_=>False
      |_,_=>False
    |.v (.slice none 0 0)=>(lo.getD 0=0∧hi.getD 0=0∧mx.getD 0=0)∧(mx=none∨hi≠none)∧K (.v (.slice none 0 0)) h
    |.msl r n=>match h r with
     |.arr sz es=>match Nat.beq sz (cx.T e).size with
      |true=>(n=es.length∧0≤lo.getD 0∧lo.getD 0≤hi.getD es.length∧hi.getD es.length≤es.length∧(mx=none∨(mx=hi∧hi≠none))) ∧
        K (.slice .none ((es.take (hi.getD es.length).toNat).drop (lo.getD 0).toNat)) (AW h r .dead)
      |false=>False
     |_=>False
    |_=>False
  |_=>False
 |_,_,_=>False
def KU(cx:Cx)(d:Option Nat)(h:Nat→HO)(ty:Nat)(x:AV)(lo:Option (Option Int))(hi mx:Option Operand)(K:HK):Prop :=
 match d,lo,hi,mx with
 |some d,some (some lo),none,none=>match(cx.T ty).d with
  |.slice e=>match(cx.T e).size with
   |0=>False
   |_+1=>match x with
    |.slice (.id r sz) es=>match h r with
     |.tok GW n=>match h (KB cx d)with
      |.free=>match Nat.beq GW sz,Nat.beq sz (cx.T e).size with
       |true,true=>(es.length=n∧0≤lo∧lo≤es.length)∧K (.slice (.id (KB cx d) sz) (es.drop lo.toNat)) (AW (AW h r .dead) (KB cx d) (.tok sz (es.drop lo.toNat).length))
       |_,_=>False
      |_=>False
     |_=>False
    |_=>False
  |_=>False
 |_,_,_,_=>False
def iJ(cx:Cx)(d:Option Nat)(h:Nat→HO)(ty:Nat)(x:AV)(hi:Option (Option Int))(K:HK):Prop :=
 match d,hi with
 |some d,some (some hi)=>match(cx.T ty).d with
  |.slice e=>match(cx.T e).size with
   |0=>False
   |_+1=>match x with
    |.msl r n=>match h r with
     |.arr sz es=>match h (KB cx d)with
      |.free=>match Nat.beq sz (cx.T e).size,Nat.blt r 10000000&&Nat.blt 0 (KB cx d)with
       |true,true=>(n=es.length∧0≤hi∧hi≤es.length)∧K (.msl (KB cx d) hi.toNat) (AW (AW h r .dead) (KB cx d) (.arr sz (es.take hi.toNat)))
       |_,_=>False
      |_=>False
     |_=>False
    |_=>False
  |_=>False
 |_,_=>False
def TJ(cx:Cx)(d:Option Nat)(h:Nat→HO)(ty:Nat)(x:AV)(lo:Option Operand)(hi:Option (Option Int))(mx:Option Operand)(K:HK):Prop :=
 match lo,mx with
 |none,none=>iJ cx d h ty x hi K
 |_,_=>False
def zY:AV→AV
 |.slice _ es=>.slice .none es
 |a=>a
def Om(cx:Cx)(d:Option Nat)(h:Nat→HO)(x:AV)(K:HK):Prop :=
 match d with
 |none=>K x h
 |some d=>match Em cx.pl.tok d with
  |some sz=>match Nat.beq sz 0 with
   |true=>K (zY x) h
   |false=>match x with
    |.v (.slice none 0 0)=>match h d with
     |.free=>K (.slice (.id d sz) []) (AW h d (.tok sz 0))
     |_=>False
    |x=>K x h
  |none=>match Em cx.pl.arr d with
   |some sz=>match x with
    |.v (.slice none 0 0)=>match h d with
     |.free=>K (.msl d 0) (AW h d (.arr sz []))
     |_=>False
    |x=>K x h
   |none=>K x h
def lp(l:List AV)(n:Nat):Option AV :=
 match l with
 | []=>none
 |x::r=>match n with |0=>some x |n+1=>lp r n
def Mb(x:AV)(i:Nat)(K:AV→Prop):Prop :=
 match x with
 |.tup vs=>match lp vs i with
  |some a=>K a
  |none=>False
 |_=>False
def KM(x:AV)(K:AV→Prop):Prop :=
 match x with
 |.ref r o=>K (.ref r o)
 |.eref r n z i o=>K (.eref r n z i o)
 |.cptr cs=>K (.cptr cs)
 |.clo f cs=>K (.clo f cs)
 |.v (.func (.func f) a b)=>K (.v (.func (.func f) a b))
 |_=>False
def Yr(c a b:AV)(K:AV→Prop):Prop :=
 match c with
 |.v (.bool true)=>K a
 |.v (.bool false)=>K b
 |_=>False
def lh(f:Int→Int→Int)(x y:AV)(K:AV→Prop):Prop :=
 match x,y with
 |.v (.int k a),.v (.int k' b)=>match pN k k' with
  |true=>K (.v (.int k (f a b)))
  |false=>False
 |_,_=>False
def Jw(cx:Cx)(d:Option Nat)(h:Nat→HO)(ty:Nat)(len cap:AV)(K:HK):Prop :=
 match(cx.T ty).d,len,cap with
 |.slice e,.v (.int .i64 n),.v (.int .i64 c)=>match H7 ((cx.T e).zc.map .v)with
  |true=>match Nat.beq (cx.T e).zc.length (cx.T e).size with
   |true=>match(cx.T e).size with
    |0=>False
    |_+1=>(0≤n∧n≤c∧c*(cx.T e).bytes≤140737488355328∧c≤9223372036854775807)∧EF cx d h (cx.T e).size (List.replicate n.toNat ((cx.T e).zc.map .v)) K
   |false=>False
  |false=>False
 |_,_,_=>False
def YA(op:UnOp)(x:AV)(K:AV→Prop):Prop :=
 match op,x with
 |.not,x=>cZ K x
 |.neg,.v (.int .i64 a)=>Bf (-a)∧K (.v (.int .i64 (-a)))
 |_,_=>False
def F7(cx:Cx)(d:Option Nat)(h:Nat→HO)(b:Builtin)(G4:List Nat)(args:List AV)(K:HK):Prop :=
 match b,args,G4 with
 |.len,[x],[t]=>QR cx.T t h x fun v=>K v h
 |.append,[s,x],[t,t']=>match Nat.beq t t' with
  |true=>If cx d h t s x K
  |false=>False
 |.max,[x,y],_=>lh max x y fun v=>K v h
 |.min,[x,y],_=>lh min x y fun v=>K v h
 |_,_,_=>False

def F5(cx:Cx)(dr:Bool)(o:Oper)(st:St)(K:HK):Prop :=
 match o.op with
 |.move x=>K (ev st.t x) st.h
 |.assign x=>Om cx o.dst st.h (ev st.t x) K
 |.pick c a b=>Yr (ev st.t c) (ev st.t a) (ev st.t b) fun v=>K v st.h
 |.alloc e=>RX cx.T o.dst st.h e K
 |.box e x=>bL cx o.dst st.h e (ev st.t x) K
 |.build ty ps=>Pw cx.T ty st.t ps.toList fun v=>K v st.h
 |.buildSlice ty n ps=>Ip cx o.dst st.h ty n st.t ps.toList K
 |.insert ty m k x=>Ha cx.T st.h ty (ev st.t m) (ev st.t k) (ev st.t x) K
 |.load ty x=>IH cx.T st.h ty (ev st.t x) fun v=>K v st.h
 |.store ty p x=>Qm cx st.h ty (ev st.t p) (ev st.t x) K
 |.nilCheck x=>KM (ev st.t x) fun v=>K v st.h
 |.binOp op ty x y _=>W3 cx.T op ty y (ev st.t x) (ev st.t y) fun v=>K v st.h
 |.unOp op _ x=>YA op (ev st.t x) fun v=>K v st.h
 |.convert s ty x=>W9 cx.T s ty (ev st.t x) fun v=>K v st.h
 |.makeFunc fn first cap=>KJ st.t st.h fn first.toList cap.toList fun v=>K v st.h
 |.makeMap ty none=>KK cx.T cx.pl.mku o.dst st.h ty K
 |.makeSlice ty n c=>Jw cx o.dst st.h ty (ev st.t n) (ev st.t c) K
 |.slice ty x lo hi mx=>match dr with
  |true=>match NC cx.pl.tok o.dst with
   |none=>GD cx o.dst st.h ty (ev st.t x) (Ca st.t lo) (Ca st.t hi) (Ca st.t mx) K
   |some _=>TJ cx o.dst st.h ty (ev st.t x) lo (Ca st.t hi) mx K
  |false=>match NC cx.pl.tok o.dst with
   |none=>GD cx o.dst st.h ty (ev st.t x) (Ca st.t lo) (Ca st.t hi) (Ca st.t mx) K
   |some _=>KU cx o.dst st.h ty (ev st.t x) (Ca st.t lo) hi mx K
 |.fieldAddr s x f=>Sy cx.T s f (ev st.t x) fun v=>K v st.h
 |.field s x f=>OA cx.T s f (ev st.t x) fun v=>K v st.h
 |.indexAddr ty x ix=>Jt cx.T ty (ev st.t x) (ev st.t ix) fun v=>K v st.h
 |.index ty x ix=>Ta cx.T ty (ev st.t x) (ev st.t ix) fun v=>K v st.h
 |.lookup ty x ix ok=>match dr with
  |true=>MP cx.T st.h ty (ev st.t x) (ev st.t ix) ok fun v=>K v st.h
  |false=>MQ cx.T st.h ty (ev st.t x) (ev st.t ix) ok fun v=>K v st.h
 |.mapUpdate ty m k x=>Ha cx.T st.h ty (ev st.t m) (ev st.t k) (ev st.t x) K
 |.range ty x=>match(cx.T ty).d with |.map _ _=>ZV o.dst st.h (ev st.t x) K |_=>False
 |.next it false=>ik st.h (ev st.t it) K
 |.entry it=>Y8 st.h (ev st.t it) fun v=>K v st.h
 |.extract x i=>Mb (ev st.t x) i fun v=>K v st.h
 |.call c=>match c.callee with
  |.builtin b=>F7 cx o.dst st.h b c.argTypes.toList (c.args.toList.map (ev st.t)) K
  |.value f=>Gu cx dr o.dst st (ev st.t f) (c.args.toList.map (ev st.t)) K
  |_=>False
 |_=>False
def Kg(ops:List Oper)(j:Nat):Option Nat:=match ops with | []=>none | o::r=>match j with | 0=>o.dst | j+1=>Kg r j
def iK(cx:Cx)(o:Oper)(st:St):St :=
 match o.dst with
 |none=>st
 |some d=>match p8 cx.pl.tz d with
  |some (r,k,j,sz)=>⟨st.t,tR st.h r k j sz⟩
  |none=>match mX cx.pl.fz d with
   | []=>st
   |l=>⟨st.t,M2 st.h l⟩
def tX(cx:Cx)(o:Oper)(st:St)(K:St→Prop):Prop :=
 match o.dst with
 |none=>K st
 |some d=>match Em cx.pl.ak d with
  |none=>K st
  |some s=>match st.t s with
   |.msl r n=>match st.h r with
    |.arr sz es=>n=es.length∧K ⟨HS st.t s (.slice (.id r sz) es),AW st.h r (.tok sz es.length)⟩
    |_=>K st
   |_=>K st
def eI(cx:Cx)(dr:Bool)(o:Oper)(st:St)(K:St→Prop):Prop :=
 match dr with
 |true=>F5 cx true o st fun v h=>K (st.put o.dst v h)
 |false=>tX cx o (iK cx o st) fun Fv=>F5 cx false o Fv fun v h=>K (Fv.put o.dst v h)
def IP(cx:Cx)(dr:Bool)(all:List Oper)(o:Oper)(st:St)(K:St→Prop):Prop :=
 match o.guard with
 |none=>eI cx dr o st K
 |some (j,want)=>match Kg all j with
  |none=>False
  |some d=>match st.t d,want with
   |.v (.bool true),true=>eI cx dr o st K
   |.v (.bool false),false=>eI cx dr o st K
   |.v (.bool true),false=>K (st.put o.dst (.v undef) st.h)
   |.v (.bool false),true=>K (st.put o.dst (.v undef) st.h)
   |.v (.tuple _),_=>K (st.put o.dst (.v undef) st.h)
   |_,_=>False
def mV(cx:Cx)(all l:List Oper)(st:St)(K:St→Prop):Prop :=
 match l with
 | []=>K st
 |o::r=>IP cx false all o st fun Fv=>mV cx all r Fv K

def Uo:AV→List Nat
 |.ref r _=>[r]
 |.mref r=>[r]
 |_=>[]
def kQ:List AV→List Nat
 | []=>[]
 |a::r=>Uo a++kQ r
def Up:AV→List Nat
 |.agg cs=>kQ cs
 |.clo _ cs=>kQ cs
 |a=>Uo a
def ol:List AV→List Nat
 | []=>[]
 |a::r=>Up a++ol r
def WR:AV→List Nat
 |.agg cs=>ol cs
 |a=>Up a
def SX:List AV→List Nat
 | []=>[]
 |a::r=>WR a++SX r
abbrev FE:=List Nat×Option Nat
def Ir(d:Option Nat)(l:List Nat):Option FE:=match d with | some d=>some (d::l,some d) | none=>none
def cP:AV→List Nat
 |.msl r _=>[r]
 |_=>[]
def V7(cx:Cx)(d:Option Nat)(s x:AV):Option FE :=
 match s with
 |.v (.slice none 0 0)=>Ir (d.map (KB cx)) (cP x)
 |.slice (.full _) _=>Ir (d.map (KB cx)) (cP x)
 |.slice (.id r _) _=>Ir (some r) (cP x)
 |.msl r _=>Ir (some r) (cP x)
 |_=>none
def aD(d:Option Nat)(args:List AV):Option FE :=
 match d with
 |some d=>match args with
  |.msl r _::_=>some ([r,BA d 0],some (r+10000000*BA d 0))
  |_=>none
 |none=>none
theorem Zc{d:Option Nat}{args:List AV}{f:FE}(h:aD d args=some f):∃d' r n l,d=some d'∧args=.msl r n::l∧f=([r,BA d' 0],some (r+10000000*BA d' 0)):=by
 unfold aD at h;split at h
 ·split at h
  ·cases h;exact⟨_,_,_,_,rfl,rfl,rfl⟩
  ·cases h
 ·cases h
def fJ(d:Option Nat)(x:AV):Option FE :=
 match d with
 |some d=>match x with
  |.msl r _=>some ([r,d],some (r+10000000*d))
  |_=>none
 |none=>none
theorem Zd{d:Option Nat}{x:AV}{f:FE}(h:fJ d x=some f):∃d' r n,d=some d'∧x=.msl r n∧f=([r,d'],some (r+10000000*d')):=by
 unfold fJ at h;split at h
 ·split at h
  ·cases h;exact⟨_,_,_,rfl,rfl,rfl⟩
  ·cases h
 ·cases h
def fK(args:List AV):Option FE:=match VH args with | some _=>some ([1000,1001],some 10010001000) | none=>none
def VU:Nat:=99999999999999
def fI(k:Nat)(d:Option Nat)(args:List AV):Option FE :=
 match Nat.beq k 3 with
 |true=>some (kj,some VU)
 |false=>aD d args
def G0(cx:Cx)(d:Option Nat)(c:Callee)(t:Nat→AV)(args:List AV):Option FE :=
 match c,args with
 |.builtin .len,[.mref r]=>some ([r],none)
 |.builtin .len,[_]=>some ([],none)
 |.builtin .max,_=>some ([],none)
 |.builtin .min,_=>some ([],none)
 |.builtin .append,[s,x]=>V7 cx d s x
 |.value f,args=>match NC cx.pl.dc d with
  |none=>some (WR (ev t f)++SX args,none)
  |some 0=>Ir (d.map fun d=>BA d 0) (WR (ev t f)++SX args)
  |some 1=>match args with |.msl r _::_=>some ([r],some r) |_=>none
  |some (k+2)=>match Nat.beq k 1 with
   |true=>Ir (d.map fun d=>BA d 0) (WR (ev t f)++SX args)
   |false=>match Nat.beq k 2 with
    |true=>fK args
    |false=>fI k d args
 |_,_=>none
def Fq(cx:Cx)(o:Oper)(st:St):Option FE :=
 match o.op with
 |.move _ |.pick .. |.nilCheck _ |.unOp .. |.convert .. |.fieldAddr .. |.field .. |.indexAddr .. |.index .. |.extract .. |.build ..=>some ([],none)
 |.binOp _ _ x _ _=>match ev st.t x with |.slice ..=>none |_=>some ([],none)
 |.assign x=>match ev st.t x with |.v (.slice ..)=>none |_=>some ([],none)
 |.load _ p=>match ev st.t p with |.cptr _=>some ([],none) |.ref r _=>some ([r],none) |.eref r ..=>some ([r],none) |_=>none
 |.call c=>G0 cx o.dst c.callee st.t (c.args.toList.map (ev st.t))
 |.alloc _=>Ir o.dst []
 |.box _ x=>Ir o.dst (WR (ev st.t x))
 |.buildSlice _ _ ps=>Ir (o.dst.map (KB cx)) (SX (ps.toList.map fun p=>ev st.t p.2))
 |.store _ p x=>match ev st.t p with
  |.ref r _=>match II cx.pl.frz r with |true=>none |false=>Ir (some r) []
  |.eref r ..=>Ir (some r) (WR (ev st.t x))
  |_=>none
 |.slice _ x _ _ mx=>match NC cx.pl.tok o.dst with
  |some _=>fJ (o.dst.map (KB cx)) (ev st.t x)
  |none=>match mx,ev st.t x with
   |none,.msl ..=>none
   |none,_=>some ([],none)
   |some _,.slice ..=>Ir o.dst []
   |_,_=>none
 |.makeFunc _ _ cap=>some (SX (cap.toList.map (ev st.t)),none)
 |.mapUpdate _ m _ x=>match ev st.t m with |.mref r=>Ir (some r) (WR (ev st.t x)) |_=>none
 |.makeSlice ..=>Ir (o.dst.map (KB cx)) []
 |.lookup _ m _ _=>match ev st.t m with |.cmap ..=>some ([],none) |.mref r=>some ([r],none) |_=>none
 |.makeMap ..=>Ir o.dst []
 |_=>none
def Nm(cx:Cx)(all:List Oper)(o:Oper)(st:St):Option FE :=
 match o.guard with
 |none=>Fq cx o st
 |some (j,want)=>match Kg all j with
  |none=>none
  |some d=>match st.t d,want with
   |.v (.bool true),true=>Fq cx o st
   |.v (.bool false),false=>Fq cx o st
   |_,_=>some ([],none)
def r8(l:List Nat):Bool:=match l with | []=>true | _=>false
def Yk(l:List Nat)(r:Nat):Bool:=bif Nat.beq r VU then r8 l else !II l r&&(Nat.blt r 10000000||(!II l (r % 10000000)&&!II l (r / 10000000)))
def Sr(a b:FE):Bool :=
 (match a.2 with | some r=>Yk b.1 r | none=>true)&&(match b.2 with | some r=>Yk a.1 r | none=>true)
def OL(o:Oper)(i:Nat)(D:List Nat):Bool:=o.after.toList.any fun e=>Region.binds .any e&&(Nat.beq e.on i||II D e.on)
def PD(i:Nat)(D:List Nat)(k:Nat):List Oper→List Nat
 | []=>D
 |o::r=>match OL o i D with
  |true=>PD i (k::D) (k+1) r
  |false=>PD i D (k+1) r
def TW(i:Nat)(D:List Nat)(k:Nat):List Oper→Bool
 | []=>true
 |o::r=>(OL o i D||!II D k)&&TW i D (k+1) r
def Io(ops:Array Oper)(oi:Oper)(fi:FE)(D:List Nat)(k:Nat):List Oper→List FE→Bool
 |o::r,f::fs=>(II D k||(oi.apart ops o&&Sr fi f))&&Io ops oi fi D (k+1) r fs
 | [],[]=>true
 |_,_=>false
def L9(ops:Array Oper)(all:List Oper)(k:Nat):List Oper→List FE→Bool
 |o::r,f::fs =>
  let D:=PD k [] 0 all
  (o.after.toList.all fun e=>!Region.binds .any e||Nat.blt e.on k)&&TW k D 0 all&&(D.all fun j=>Nat.blt k j&&Nat.blt j all.length)&&Io ops o f D (k+1) r fs&&L9 ops all (k+1) r fs
 | [],[]=>true
 |_,_=>false
def Ss(ops:Array Oper)(fs:List FE):Bool:=Region.noSelect ops&&L9 ops ops.toList 0 ops.toList fs
def W0(cx:Cx)(ops:Array Oper)(l:List Oper)(fs:List FE)(st:St)(K:St→Prop):Prop :=
 match l with
 | []=>Ss ops fs.reverse=true∧K st
 |o::r=>match Nm cx ops.toList o st with
  |some f=>IP cx true ops.toList o st fun Fv=>W0 cx ops r (f::fs) Fv K
  |none=>False

def Sv(l:List (Nat×AV))(i:Nat):AV:=match l with | []=>.junk | (j,v)::r=>bif Nat.beq i j then v else Sv r i
structure LS where
 t:List (Nat×AV)
 h:List (Nat×HO)
 hb:Nat→HO
def LS.st(s:LS):St:=⟨Sv s.t,Af s.h s.hb⟩

def Rn(h:Nat→HO)(r:Nat):Bool:=match h r with | .free=>false | _=>true
def ids0(h:Nat→HO):AV→Bool
 |.slice (.id r _) _=>Rn h r
 |.slice (.ver r _ _) _=>Rn h r
 |.msl r _=>Rn h r
 |.ref r _=>Rn h r
 |.eref r _ _ _ _=>Rn h r
 |.mref r=>Rn h r
 |.agg _ |.tup _ |.clo ..=>false
 |_=>true
def XP(h:Nat→HO):List AV→Bool
 | []=>true
 |a::r=>match ids0 h a with |true=>XP h r |false=>false
def Wm(h:Nat→HO):AV→Bool
 |.agg cs=>XP h cs
 |.tup cs=>XP h cs
 |.clo _ cs=>XP h cs
 |a=>ids0 h a
def QP(h:Nat→HO):List (Value×AV)→Bool
 | []=>true
 |p::r=>match Wm h p.2 with |true=>QP h r |false=>false
def kR(h:Nat→HO):List AV→Bool
 | []=>true
 |a::r=>match Wm h a with |true=>kR h r |false=>false
def XO(h:Nat→HO):HO→Bool
 |.cells cs=>kR h cs
 |.mapU _ Cb=>QP h Cb
 |_=>true
def xc(st:St)(h:Nat→HO):List (Nat×AV)→Prop
 | []=>True
 |(j,a)::r=>(st.t j=a∧Wm h a=true)∧xc st h r
def xb(st:St)(h:Nat→HO):List (Nat×HO)→Prop
 | []=>True
 |(j,o)::r=>(st.h j=o∧XO h o=true)∧xb st h r
def St.le(cx:Cx)(st:St)(s:LS):Prop :=
 xc st s.st.h s.t∧xb st s.st.h s.h∧(∀j,s.hb j=.free∨(st.h j=s.hb j∧XO s.st.h (s.hb j)=true)) ∧
 match cx.ext with
 |false=>True
 |true=>∀j,1000≤j→j<2000→st.h j≠.free→s.st.h j≠.free

def MB(cx:Cx)(ops:Array Oper)(dr:Bool)(st:St)(K:St→Prop):Prop :=
 match dr with
 |false=>mV cx ops.toList ops.toList st K
 |true=>W0 cx ops ops.toList [] st K
inductive Ex | normal | exit (id:Nat) | ret
def t6(h:Nat→HO)(o k:Nat)(K:(Nat→HO)→Prop):Prop :=
 match h o with
 |.cells cs=>match I5 cs k with
  |.msl r n=>match h r with
   |.arr sz es=>n=es.length∧K (AW (AW h r (.tok sz es.length)) o (.cells (EG cs k (.slice (.id r sz) es))))
   |_=>K h
  |_=>K h
 |_=>K h
def tY(h:Nat→HO)(o k j:Nat)(K:(Nat→HO)→Prop):Prop :=
 match h o with
 |.cells cs=>match I5 cs k with
  |.msl r n=>match h r with
   |.arr sz es=>match h j with
    |.free=>n=es.length∧K (AW (AW (AW h r .dead) j (.arr sz es)) o (.cells (EG cs k (.msl j n))))
    |_=>False
   |_=>False
  |_=>False
 |_=>False
def yr(h:Nat→HO)(o k d:Nat)(K:(Nat→HO)→Prop):Prop :=
 match h o with
 |.cells cs=>match I5 cs k with
  |.slice (.ver r sz v) es=>match h r with
   |.var GW v' _=>match h d with
    |.free=>(v=v'∧sz=GW)∧K (AW (AW (AW h r (.vox v)) d (.tok sz es.length)) o (.cells (EG cs k (.slice (.id d sz) es))))
    |_=>False
   |_=>False
  |_=>K h
 |_=>False
def tL(h:Nat→HO)(o k r:Nat)(K:(Nat→HO)→Prop):Prop :=
 match h o with
 |.cells cs=>match I5 cs k with
  |.slice (.id d sz) es=>match h d with
   |.tok GW n=>match h r with
    |.vox v=>(es.length=n∧sz=GW)∧K (AW (AW (AW h d .dead) r (.var sz (v+1) n)) o (.cells (EG cs k (.slice (.ver r sz (v+1)) es))))
    |_=>False
   |_=>False
  |_=>K h
 |_=>False
def xd(h:Nat→HO)(r:Nat)(K:(Nat→HO)→Prop):Prop :=
 match h r with
 |.free=>K (AW h r (.vox 0))
 |_=>False
def tK(h:Nat→HO)(o k:Nat)(K:(Nat→HO)→Prop):Prop :=
 match h o with
 |.cells cs=>match I5 cs k with
  |.mref r=>match h r with
   |.rom sh Cb=>K (AW h o (.cells (EG cs k (.cmap sh Cb))))
   |_=>False
  |_=>False
 |_=>False
def yu(h:Nat→HO)(o k j sz:Nat)(K:(Nat→HO)→Prop):Prop :=
 match h o with
 |.cells cs=>match I5 cs k with
  |.v (.slice none 0 0)=>match h j with
   |.free=>K (AW (AW h j (.arr sz [])) o (.cells (EG cs k (.msl j 0))))
   |_=>False
  |_=>False
 |_=>False
def vr(cx:Cx)(id:Nat)(h:Nat→HO)(K:(Nat→HO)→Prop):Prop :=
 match Em cx.pl.ak (850000+id)with
 |some v=>K (fO h v)
 |none=>K h
def tJ(cx:Cx)(id:Nat)(h:Nat→HO)(K:(Nat→HO)→Prop):Prop :=
 match Em cx.pl.ak (800000+id)with
 |some v=>tK h (v % 10000) (v / 10000 % 100) K
 |none=>K h
def sy(cx:Cx)(id:Nat)(h:Nat→HO)(K:(Nat→HO)→Prop):Prop :=
 match Em cx.pl.ak (810000+id)with
 |some v=>tK h (v % 10000) (v / 10000 % 100) K
 |none=>K h
def pR(cx:Cx)(id:Nat)(h:Nat→HO)(K:(Nat→HO)→Prop):Prop :=
 match Em cx.pl.ak (900000+id)with
 |some v=>yu h (v % 10000) (v / 10000 % 100) (v / 1000000 % 10000) (v / 10000000000) K
 |none=>K h
def pe(cx:Cx)(id:Nat)(h:Nat→HO)(K:(Nat→HO)→Prop):Prop :=
 match Em cx.pl.ak (500000+id)with
 |some v=>yr h (v % 10000) (v / 10000 % 100) (v / 1000000) K
 |none=>match Em cx.pl.ak (600000+id)with
  |some v=>tL h (v % 10000) (v / 10000 % 100) (v / 1000000) K
  |none=>match Em cx.pl.ak (700000+id)with
   |some v=>xd h v K
   |none=>vr cx id h fun h=>tJ cx id h fun h=>sy cx id h fun h=>pR cx id h K
def tZ(st:St)(s k:Nat)(K:St→Prop):Prop :=
 match st.t s with
 |.msl r n=>match st.h r with
  |.arr sz es=>match k with
   |0=>n=es.length∧K ⟨HS st.t s (.slice .none es),AW (AW st.h r (.tok sz es.length)) r .dead⟩
   |k+1=>match Nat.beq r (k+1)with
    |true=>K st
    |false=>match st.h (k+1)with
     |.free=>n=es.length∧K ⟨HS st.t s (.msl (k+1) n),AW (AW st.h r .dead) (k+1) (.arr sz es)⟩
     |_=>False
  |_=>K st
 |_=>K st
def qA(cx:Cx)(id:Nat)(st:St)(K:St→Prop):Prop :=
 match II cx.pl.cut id with
 |true=>match Em cx.pl.ak (100000+id)with
  |none=>match Em cx.pl.ak (200000+id)with
   |none=>match Em cx.pl.ak (300000+id)with
    |none=>pe cx id st.h fun h'=>∃s:LS,St.le cx ⟨st.t,h'⟩ s∧K s.st
    |some v=>tY st.h (v % 10000) (v / 10000 % 100) (v / 1000000) fun h'=>∃s:LS,St.le cx ⟨st.t,h'⟩ s∧K s.st
   |some v=>tZ st (v % 1000) (v / 1000) fun Fv=>∃s:LS,St.le cx Fv s∧K s.st
  |some v=>t6 st.h (v % 1000) (v / 1000) fun h'=>∃s:LS,St.le cx ⟨st.t,h'⟩ s∧K s.st
 |false=>K st
def MD(cx:Cx)(c:Code)(Q:Ex→St→Prop)(st:St):Prop :=
 match c with
 |.skip=>Q .normal st
 |.label _=>Q .normal st
 |.region id ops dr=>qA cx id st fun st=>match cx.pl.dyn with
  | []=>MB cx ops dr st (Q .normal)
  |_=>∃n,MB { cx with nid:=n } ops dr st (Q .normal)
 |.seq a b=>MD cx a (fun e Fv=>match e with |.normal=>MD cx b Q Fv |e=>Q e Fv) st
 |.cond c a b=>match ev st.t c with
  |.v (.bool true)=>MD cx a Q st
  |.v (.bool false)=>MD cx b Q st
  |_=>False
 |.block id c=>MD cx c (fun e Fv=>match e with |.exit j=>(bif Nat.beq j id then Q .normal Fv else Q (.exit j) Fv) |e=>Q e Fv) st
 |.loop c=>∃(α:Type) (I:α→LS) (μ:α→Nat),(∃x,St.le cx st (I x)) ∧
   ∀x,MD cx c (fun e Fv=>match e with | .normal=>∃y,μ y<μ x∧St.le cx Fv (I y) | e=>Q e Fv) (I x).st
 |.exit id=>Q (.exit id) st
 |.ret=>Q .ret st
 |_=>False

def LR:List AV→Nat→AV
 | [],_=>.v undef
 |a::r,n=>match n with |0=>a |n+1=>LR r n
def ly(T:GQ)(st:St):List ResultVar→(List AV→Prop)→Prop
 | [],K=>K []
 |.tmp i::r,K=>ly T st r fun l=>K (str st.h (st.t i)::l)
 |.cell a t::r,K=>IH T st.h t (st.t a) fun v=>ly T st r fun l=>K (str st.h v::l)
def dh(cx:Cx)(st:St)(rs:List ResultVar)(K:AV→Prop):Prop :=
 ly cx.T ⟨st.t,M2 st.h cx.pl.fin⟩ rs fun
  | [v]=>K v
  |vs=>K (.tup vs)
def Y7(cx:Cx)(rs:List ResultVar)(K:AV→Prop)(e:Ex)(st:St):Prop :=
 match e with
 |.normal=>dh cx st rs K
 |.ret=>dh cx st rs K
 |.exit _=>False
def lz(T:GQ)(st:St):List ResultVar→(List AV→Prop)→Prop
 | [],K=>K []
 |.tmp i::r,K=>lz T st r fun l=>K (st.t i::l)
 |.cell a t::r,K=>IH T st.h t (st.t a) fun v=>lz T st r fun l=>K (v::l)
def dg(cx:Cx)(st:St)(rs:List ResultVar)(σ:Hq)(Q:AV→(Nat→HO)→Prop):Prop :=
 lz cx.T ⟨st.t,M2 st.h cx.pl.fin⟩ rs fun
  | [v]=>Q (ren (Cn σ) (M2 st.h cx.pl.fin) v) (Fc σ (M2 st.h cx.pl.fin))
  |vs=>Q (ren (Cn σ) (M2 st.h cx.pl.fin) (.tup vs)) (Fc σ (M2 st.h cx.pl.fin))
def Uf(cx:Cx)(rs:List ResultVar)(σ:Hq)(Q:AV→(Nat→HO)→Prop)(e:Ex)(st:St):Prop :=
 match e with
 |.normal=>dg cx st rs σ Q
 |.ret=>dg cx st rs σ Q
 |.exit _=>False
def FD(σ:Hq):List (Nat×HO)→Bool
 | []=>true
 |(i,_)::r=>Nat.ble 1000 i&&Nat.blt i 2000&&(match Cn σ i with |some j=>Nat.beq j i |none=>false)&&FD σ r
end Go.Eng
