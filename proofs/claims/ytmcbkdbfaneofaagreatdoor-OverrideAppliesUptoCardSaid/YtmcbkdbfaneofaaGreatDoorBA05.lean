/- Lemmas for the claims of this seat, without a condition: part 5 (EngA). -/
import Derived.Test.YtmcbkdbfaneofaaGreatDoorBA00
import Derived.WalkKit
import Derived.Still
import Derived.RangeFuncSeq
import Derived.OrdersIn
import Derived.TacticsIn
namespace Go.Eng
inductive Tk | none | full (sz:Nat) | id (r sz:Nat) | ver (r sz v:Nat)
inductive KS | int (k:IntKind) | str | bool
structure EU where
 agg:Bool
 l:List KS
inductive AV
 |v (x:Value)
 |slice (tk:Tk) (es:List (List AV))
 |msl (r n:Nat)
 |agg (cs:List AV)
 |tup (vs:List AV)
 |cptr (cs:List AV)
 |ref (r off:Nat)
 |eref (r n sz i off:Nat)
 |mref (r:Nat)
 |cmap (sh:EU) (B7:List (Value×AV))
 |clo (f:Nat) (caps:List AV)
 |junk
inductive HO
 |free
 |dead
 |cells (cs:List AV)
 |ro (cs:List AV)
 |tok (sz n:Nat)
 |var (sz v n:Nat)
 |vox (v:Nat)
 |arr (sz:Nat) (es:List (List AV))
 |map (sh:EU) (B7:List (Value×AV))
 |mapU (sh:EU) (B7:List (Value×AV))
 |rom (sh:EU) (B7:List (Value×AV))
 |iter (all rem:List (Value×AV)) (FP:Option (Value×AV))
 |raw (b:Nat) (ob:Obj)
 |hol (sz:Nat) (es:List (List AV)) (i c:Nat) (a:AV)
structure St where
 t:Nat→AV
 h:Nat→HO
def Ab:Nat→HO:=fun _=>.free
def A2(h:Nat→HO)(r:Nat)(o:HO):Nat→HO:=fun i=>bif Nat.beq i r then o else h i
def Hq(t:Nat→AV)(d:Nat)(v:AV):Nat→AV:=fun i=>bif Nat.beq i d then v else t i
def St.put(st:St)(d:Option Nat)(v:AV)(h:Nat→HO):St :=
 match d with
 |none=>⟨st.t,h⟩
 |some d=>⟨Hq st.t d v,h⟩
def ev(t:Nat→AV):Operand→AV
 |.tmp i=>t i
 |.const v=>.v v
 |.global g=>.v (.pointer (some ⟨g,0,none⟩))
 |.func f=>.v (.func (.func f) #[] #[])
inductive TD
 |int (k:IntKind) |bool |string |slice (e:Nat) |array (n e:Nat) |struct (fs:List (Nat×Nat)) |ptr (e:Nat) |map (k e:Nat) |func |iface |other
structure TI where
 d:TD
 size:Nat
 bytes:Nat
 zero:Value
 eqok:Bool
def TI.zc(i:TI):List Value:=match i.zero with | .agg cs=>cs.toList | v=>[v]
abbrev GN:=Nat→TI
structure Si where
 frz:List Nat
 tok:List (Nat×Nat)
 arr:List (Nat×Nat)
 fz:List (Nat×List Nat)
 fin:List Nat
 mku:List Nat
 dyn:List Nat
 tz:List (Nat×(Nat×Nat×Nat×Nat))
 dc:List (Nat×Nat)
 ak:List (Nat×Nat)
 cut:List Nat
def I5(l:List Nat)(n:Nat):Bool :=
 match l with
 | []=>false
 |x::r=>bif Nat.beq x n then true else I5 r n
def GU(l:List (Nat×Nat))(n:Nat):Option Nat :=
 match l with
 | []=>none
 |(x,y)::r=>bif Nat.beq x n then some y else GU r n
def str0(h:Nat→HO):AV→AV
 |.slice _ es=>.slice .none es
 |.ref r off=>match h r with |.ro cs=>.cptr (cs.drop off) |_=>.junk
 |.mref r=>match h r with |.rom sh B7=>.cmap sh B7 |_=>.junk
 |.v x=>.v x
 |.cptr cs=>.cptr cs
 |.cmap s m=>.cmap s m
 |_=>.junk
def str(h:Nat→HO):AV→AV
 |.agg cs=>.agg (cs.map (str0 h))
 |.clo f cs=>.clo f (cs.map (str0 h))
 |a=>str0 h a
def Sf(h:Nat→HO)(B7:List (Value×AV)):List (Value×AV):=B7.map fun p=>(p.1,str h p.2)
def gz(h:Nat→HO)(r:Nat):Nat→HO :=
 match h r with
 |.cells cs=>A2 h r (.ro (cs.map (str h)))
 |.map sh B7=>A2 h r (.rom sh B7)
 |.mapU sh B7=>A2 h r (.rom sh (Sf h B7))
 |_=>h
def Pr(h:Nat→HO):List Nat→Nat→HO
 | []=>h
 |r::l=>Pr (gz h r) l
def nV(l:List (Nat×List Nat))(n:Nat):List Nat :=
 match l with
 | []=>[]
 |(x,y)::r=>bif Nat.beq x n then y else nV r n
def qQ(l:List (Nat×(Nat×Nat×Nat×Nat)))(n:Nat):Option (Nat×Nat×Nat×Nat) :=
 match l with
 | []=>none
 |(x,y)::r=>bif Nat.beq x n then some y else qQ r n
def Jp(l:List AV)(n:Nat):AV :=
 match l with
 | []=>.junk
 |x::r=>match n with |0=>x |n+1=>Jp r n
def EM(cs:List AV)(o:Nat)(v:AV):List AV :=
 match cs with
 | []=>[]
 |c::cs=>match o with |0=>v::cs |o+1=>c::EM cs o v
def uO(h:Nat→HO)(r k j sz:Nat):Nat→HO :=
 match h r with
 |.cells cs=>match Jp cs k with
  |.v (.slice none 0 0)=>match h j with
   |.free=>A2 (A2 h j (.tok sz 0)) r (.cells (EM cs k (.slice (.id j sz) [])))
   |_=>h
  |_=>h
 |_=>h
def rsv(h:Nat→HO):AV→AV
 |.ref r off=>match h r with |.ro cs=>.cptr (cs.drop off) |_=>.ref r off
 |.mref r=>match h r with |.rom sh B7=>.cmap sh B7 |_=>.mref r
 |a=>a
def one:AV→Bool
 |.v x=>x.oneCell'
 |.agg _ |.tup _ |.junk=>false
 |_=>true
def Hj:List AV→Bool
 | []=>true
 |a::r=>match one a with |true=>Hj r |false=>false
def tT:AV→List AV
 |.agg cs=>cs
 |a=>[a]
def Bs(a:Int):Prop:=-9223372036854775808≤a∧a<9223372036854775808
def Mw(cs:List AV)(K:AV→Prop):Prop :=
 match cs with
 |a::_=>K a
 | []=>False
def Jb(p:Prop)(K:AV→Prop):Prop:=(p→K (.v (.bool true)))∧(¬p→K (.v (.bool false)))
def LW(T:GN)(t:Nat)(cs:List AV)(K:AV→Prop):Prop :=
 match(T t).d with
 |.struct _=>(T t).size≤cs.length∧K (.agg (cs.take (T t).size))
 |.array _ _=>(T t).size≤cs.length∧K (.agg (cs.take (T t).size))
 |.bool=>Mw cs fun |.v (.bool b)=>(b=true→K (.v (.bool true)))∧(b=false→K (.v (.bool false))) |_=>False
 |.other=>False
 |_=>Mw cs K
def mX:List AV→List AV→Prop
 | [],[]=>True
 |.v (.int _ a)::r,.v (.int _ b)::s=>a=b∧mX r s
 |.v (.string a)::r,.v (.string b)::s=>a=b∧mX r s
 |.v (.bool a)::r,.v (.bool b)::s=>a=b∧mX r s
 |_,_=>False
def qz:IntKind→IntKind→Bool
 |.i64,.i64 |.u8,.u8 |.u32,.u32 |.i32,.i32 |.u64,.u64 |.u16,.u16 |.i16,.i16 |.i8,.i8=>true
 |_,_=>false
def Oa(f:Nat→Option (List KS)):Nat→List (Nat×Nat)→Option (List KS)
 |_,[]=>some []
 |n,(t,o)::r=>match Nat.beq o n with
  |true=>match f t with
   |some a=>match Oa f (n+a.length) r with
    |some b=>some (a++b)
    |none=>none
   |none=>none
  |false=>none
def HS(T:GN):Nat→Nat→Option (List KS)
 |0,_=>none
 |n+1,t=>match(T t).d with
  |.int k=>match(T t).size with |1=>some [.int k] |_=>none
  |.string=>match(T t).size with |1=>some [.str] |_=>none
  |.bool=>match(T t).size with |1=>some [.bool] |_=>none
  |.struct fs=>match(T t).eqok with
   |true=>match Oa (HS T n) 0 fs with
    |some l=>match Nat.beq l.length (T t).size with |true=>some l |false=>none
    |none=>none
   |false=>none
  |_=>none
def NP:KS→Value→Bool
 |.int k,.int k' _=>qz k k'
 |.str,.string _=>true
 |.bool,.bool _=>true
 |_,_=>false
def Yw:List KS→List AV→Bool
 | [],[]=>true
 |k::r,.v x::s=>match NP k x with |true=>Yw r s |false=>false
 |_,_=>false
def qd(T:GN)(t:Nat)(x y:AV)(K:AV→Prop):Prop :=
 match(T t).d with
 |.bool=>match x,y with
  |.v (.bool a),.v (.bool b)=>K (.v (.bool (a == b)))
  |_,_=>False
 |.struct _=>match x,y with
  |.agg xs,.agg ys=>match HS T 8 t with
   |some l=>match Yw l xs with
    |true=>match Yw l ys with
     |true=>Jb (mX xs ys) K
     |false=>False
    |false=>False
   |none=>False
  |_,_=>False
 |.slice _=>match x,y with
  |.slice _ es,.v (.slice none 0 0)=>(es≠[]→K (.v (.bool false)))∧(es=[]→K (.v (.bool true))∧K (.v (.bool false)))
  |.v (.slice none 0 0),.v (.slice none 0 0)=>K (.v (.bool true))
  |_,_=>False
 |.ptr _=>match x,y with
  |.v (.pointer none),.v (.pointer none)=>K (.v (.bool true))
  |.cptr _,.v (.pointer none)=>K (.v (.bool false))
  |.ref _ _,.v (.pointer none)=>K (.v (.bool false))
  |.eref _ _ _ _ _,.v (.pointer none)=>K (.v (.bool false))
  |_,_=>False
 |_=>False
def dH(K:AV→Prop):AV→Prop
 |.v (.bool true)=>K (.v (.bool false))
 |.v (.bool false)=>K (.v (.bool true))
 |_=>False
def Zp(op:BinOp)(k:IntKind)(a b:Int)(K:AV→Prop):Prop :=
 match op with
 |.add=>K (.v (.int k (k.wrap (a+b))))
 |.sub=>K (.v (.int k (k.wrap (a-b))))
 |.mul=>K (.v (.int k (k.wrap (a*b))))
 |_=>False
def SQ(op:BinOp)(k:IntKind)(a b:Int)(K:AV→Prop):Prop :=
 match k with
 |.i64=>match op with
  |.add=>Bs (a+b)∧K (.v (.int .i64 (a+b)))
  |.sub=>Bs (a-b)∧K (.v (.int .i64 (a-b)))
  |.mul=>Bs (a*b)∧K (.v (.int .i64 (a*b)))
  |.quo=>(0≤a∧0<b∧Bs a)∧K (.v (.int .i64 (a / b)))
  |.rem=>(0≤a∧0<b)∧K (.v (.int .i64 (a % b)))
  |_=>False
 |k=>Zp op k a b K
def SV(T:GN)(op:BinOp)(t:Nat)(x y:AV)(K:AV→Prop):Prop :=
 match x,y with
 |.v (.int k a),.v (.int k' b)=>match qz k k' with
  |false=>False
  |true=>match op with
   |.eql=>Jb (a=b) K
   |.neq=>Jb (a≠b) K
   |.lss=>Jb (a<b) K
   |.leq=>Jb (a≤b) K
   |.gtr=>Jb (b<a) K
   |.geq=>Jb (b≤a) K
   |op=>SQ op k a b K
 |.v (.string a),.v (.string b)=>match op with
   |.eql=>Jb (a=b) K
   |.neq=>Jb (a≠b) K
   |.lss=>Jb (Op.bytesLess a.toList b.toList=true) K
   |.geq=>Jb (Op.bytesLess a.toList b.toList=false) K
   |.gtr=>Jb (Op.bytesLess b.toList a.toList=true) K
   |.leq=>Jb (Op.bytesLess b.toList a.toList=false) K
   |.add=>((a.size+b.size:Nat):Int)≤9223372036854775807∧K (.v (.string (a++b)))
   |_=>False
 |x,y=>match op with
  |.eql=>qd T t x y K
  |.neq=>qd T t x y (dH K)
  |_=>False
def XG(T:GN)(op:BinOp)(t:Nat)(Y:Operand)(x y:AV)(K:AV→Prop):Prop :=
 match Y with
 |.const .nilIface=>match x with
  |.v .nilIface=>match(T t).d with
   |.iface=>match op with
    |.eql=>K (.v (.bool true))
    |.neq=>K (.v (.bool false))
    |_=>False
   |_=>False
  |_=>False
 |_=>SV T op t x y K
def XM(T:GN)(s t:Nat)(x:AV)(K:AV→Prop):Prop :=
 match(T s).d,(T t).d,x with
 |.int _,.int .i64,.v (.int _ n)=>Bs n∧K (.v (.int .i64 n))
 |.int _,.int k,.v (.int _ n)=>K (.v (.int k (k.wrap n)))
 |.string,.string,.v (.string s)=>K (.v (.string s))
 |.slice e,.string,.slice _ es=>match(T e).d with
  |.int .u8=>∃l:List UInt8,es=l.map (fun b=>[AV.v (.int .u8 b.toNat)])∧K (.v (.string ⟨l.toArray⟩))
  |_=>False
 |_,_,_=>False
def WG(fs:List (Nat×Nat))(n:Nat):Option (Nat×Nat) :=
 match fs with
 | []=>none
 |x::r=>match n with |0=>some x |n+1=>WG r n
def Tn(T:GN)(s f:Nat)(x:AV)(K:AV→Prop):Prop :=
 match(T s).d with
 |.struct fs=>match WG fs f with
  |some (t,o)=>match(T t).size with
   |0=>False
   |_+1=>match x with
    |.cptr cs=>K (.cptr (cs.drop o))
    |.ref r off=>K (.ref r (off+o))
    |.eref r n z i off=>K (.eref r n z i (off+o))
    |_=>False
  |none=>False
 |_=>False
def YU(T:GN)(t:Nat)(cs:List AV)(K:AV→Prop):Prop:=LW T t cs K
def Ph(T:GN)(s f:Nat)(x:AV)(K:AV→Prop):Prop :=
 match(T s).d,x with
 |.struct fs,.agg cs=>match WG fs f with
  |some (t,o)=>YU T t (cs.drop o) K
  |none=>False
 |_,_=>False
def JJ(T:GN)(t:Nat)(x ix:AV)(K:AV→Prop):Prop :=
 match(T t).d,ix with
 |.slice e,.v (.int .i64 i)=>match(T e).size with
  |0=>False
  |_+1=>match x with
   |.slice _ es=>∃cs,(0≤i∧es[i.toNat]?=some cs)∧cs.length=(T e).size∧K (.cptr cs)
   |.msl r n=>(0≤i∧i<n)∧K (.eref r n (T e).size i.toNat 0)
   |_=>False
 |.array n e,.v (.int .i64 i)=>match(T e).size with
  |0=>False
  |_+1=>match x with
   |.cptr cs=>(0≤i∧i<n)∧K (.cptr (cs.drop (i.toNat*(T e).size)))
   |.ref r off=>(0≤i∧i<n)∧K (.ref r (off+i.toNat*(T e).size))
   |_=>False
 |_,_=>False
def TS(T:GN)(t:Nat)(x ix:AV)(K:AV→Prop):Prop :=
 match(T t).d,x,ix with
 |.string,.v (.string s),.v (.int .i64 i)=>∃b:UInt8,(0≤i∧s.data[i.toNat]?=some b)∧K (.v (.int .u8 b.toNat))
 |.array n e,.agg cs,.v (.int .i64 i)=>(0≤i∧i<n)∧YU T e (cs.drop (i.toNat*(T e).size)) K
 |_,_,_=>False
def Cb(t:Nat→AV):Option Operand→Option (Option Int)
 |none=>some none
 |some x=>match ev t x with |.v (.int .i64 i)=>some (some i) |_=>none
def over{α:Type}(cs:List α)(o:Nat)(vs:List α):List α :=
 match cs with
 | []=>[]
 |c::cs=>match o with
  |o+1=>c::over cs o vs
  |0=>match vs with
   | []=>c::cs
   |v::vs=>v::over cs 0 vs
structure Gh where
 ρ:Nat→Value
 ln:Nat→Nat
 tk:Nat→Bool
 own:Nat→Option Nat
 S:Nat→Nat→Prop
def Js:List KS→List Value→Bool
 | [],[]=>true
 |k::r,v::s=>match NP k v with |true=>Js r s |false=>false
 |_,_=>false
def V1(sh:EU)(v:Value):Bool :=
 match sh.agg,v with
 |true,.agg cs=>Js sh.l cs.toList
 |false,v=>Js sh.l [v]
 |_,_=>false
def Hs(sh:EU)(es:Array MapEntry)(ck:Nat)(B7:List (Value×AV)):Prop :=
 es.size=B7.length∧(∀(i:Nat) (kv:Value×AV) (e:MapEntry),B7[i]?=some kv→es[i]?=some e→e.key=kv.1) ∧
 (∀kv∈B7,V1 sh kv.1=true)∧(B7.map (·.1)).Nodup∧(∀(i:Nat) (e:MapEntry),es[i]?=some e→e.born<ck) ∧
 ∀(i j:Nat) (e e' : MapEntry),es[i]?=some e→es[j]?=some e'→e.born=e'.born→i=j
inductive BP(g:Gh)(w:World):(Nat→Prop)→AV→Value→Prop
 |v (U:Nat→Prop) (x:Value):BP g w U (.v x) x
 |junk (U:Nat→Prop) (x:Value):BP g w U .junk x
 |snil (U:Nat→Prop) (a:Option Addr) (cap:Nat):BP g w U (.slice .none []) (.slice a 0 cap)
 |slice (U:Nat→Prop) (es:List (List AV)) (b off sz cap:Nat) (val:Nat→Nat→Value) (hc:es.length≤cap)
   (hl:∀(i:Nat) (cs:List AV),es[i]?=some cs→cs.length=sz)
   (DO:∀(i:Nat) (cs:List AV) (j:Nat) (av:AV),es[i]?=some cs→cs[j]?=some av →
    g.S b (off+i*sz+j)∧w.cell? ⟨b,off+i*sz+j,none⟩=some (val i j)∧(val i j).oneCell'=true)
   (Es:∀(i:Nat) (cs:List AV) (j:Nat) (av:AV),es[i]?=some cs→cs[j]?=some av→BP g w (fun _=>False) av (val i j)) :
   BP g w U (.slice .none es) (.slice (some ⟨b,off,none⟩) es.length cap)
 |tok (U:Nat→Prop) (r sz:Nat) (es:List (List AV)) (x:Value) (h:BP g w U (.slice .none es) x) (hl:∀c∈es,c.length=sz) (hu:U r) (ht:g.tk r=true) (hn:es.length≤g.ln r)
   (hx:es.length=g.ln r→x=g.ρ r):BP g w U (.slice (.id r sz) es) x
 |ver (U:Nat→Prop) (r sz v:Nat) (es:List (List AV)) (x:Value) (h:BP g w U (.slice .none es) x) (hl:∀c∈es,c.length=sz) (hu:U r) (ht:g.tk r=true) (hn:v≤g.ln r)
   (hx:v=g.ln r→x=g.ρ r):BP g w U (.slice (.ver r sz v) es) x
 |full (U:Nat→Prop) (sz:Nat) (es:List (List AV)) (x:Value) (h:BP g w U (.slice .none es) x) (hl:∀c∈es,c.length=sz) (hx:∃a,x=.slice a es.length es.length):BP g w U (.slice (.full sz) es) x
 |msl (U:Nat→Prop) (r n:Nat) (a:Option Addr) (cap:Nat) (hu:U r) (ht:g.tk r=true) (hn:n≤g.ln r) (ha:n=0∨∃b,a=some ⟨b,0,none⟩) (hx:n=g.ln r→.slice a n cap=g.ρ r) :
   BP g w U (.msl r n) (.slice a n cap)
 |agg (U:Nat→Prop) (cs:List AV) (vs:Array Value) (hs:vs.size=cs.length) (h1:∀(i:Nat) (x:Value),vs[i]?=some x→x.oneCell'=true)
   (h:∀(i:Nat) (av:AV) (x:Value),cs[i]?=some av→vs[i]?=some x→BP g w U av x):BP g w U (.agg cs) (.agg vs)
 |tup (U:Nat→Prop) (cs:List AV) (vs:Array Value) (hs:vs.size=cs.length)
   (h:∀(i:Nat) (av:AV) (x:Value),cs[i]?=some av→vs[i]?=some x→BP g w U av x):BP g w U (.tup cs) (.tuple vs)
 |cptr (U:Nat→Prop) (cs:List AV) (b off:Nat) (val:Nat→Value)
   (DO:∀(j:Nat) (av:AV),cs[j]?=some av→g.S b (off+j)∧w.cell? ⟨b,off+j,none⟩=some (val j)∧(val j).oneCell'=true)
   (Es:∀(j:Nat) (av:AV),cs[j]?=some av→BP g w (fun _=>False) av (val j)) :
   BP g w U (.cptr cs) (.pointer (some ⟨b,off,none⟩))
 |ref (U:Nat→Prop) (r off b:Nat) (hu:U r) (ht:g.tk r=false) (hx:g.ρ r=.pointer (some ⟨b,0,none⟩)):BP g w U (.ref r off) (.pointer (some ⟨b,off,none⟩))
 |eref (U:Nat→Prop) (r n sz i off b cap:Nat) (hu:U r) (ht:g.tk r=true) (hn:i<n∧n≤g.ln r) (hx:n=g.ln r→g.ρ r=.slice (some ⟨b,0,none⟩) n cap) :
   BP g w U (.eref r n sz i off) (.pointer (some ⟨b,i*sz+off,none⟩))
 |mref (U:Nat→Prop) (r b:Nat) (hu:U r) (ht:g.tk r=false) (hx:g.ρ r=.map (some b)):BP g w U (.mref r) (.map (some b))
 |cmap (U:Nat→Prop) (sh:EU) (B7:List (Value×AV)) (b:Nat) (es:Array MapEntry) (ck:Nat) (hS:g.S b 0) (hb:w.heap[b]?=some (.map es ck)) (hm:Hs sh es ck B7)
   (h:∀(i:Nat) (kv:Value×AV) (e:MapEntry),B7[i]?=some kv→es[i]?=some e→BP g w (fun _=>False) kv.2 e.val):BP g w U (.cmap sh B7) (.map (some b))
 |clo (U:Nat→Prop) (f:Nat) (cs:List AV) (vs:Array Value) (hs:vs.size=cs.length)
   (h:∀(i:Nat) (av:AV) (x:Value),cs[i]?=some av→vs[i]?=some x→BP g w U av x):BP g w U (.clo f cs) (.func (.func f) #[] vs)
def HO.live:HO→Prop
 |.free |.dead |.vox _ |.ro _ |.rom _ _=>False
 |_=>True
def AW(h:Nat→HO)(r:Nat):Prop:=h r≠.free
def FH:Nat→Prop:=fun _=>False
def CR(g:Gh)(w:World)(U:Nat→Prop)(cs:List AV)(vs:List Value):Prop :=
 vs.length=cs.length∧(∀x∈vs,x.oneCell'=true)∧∀(i:Nat) (av:AV) (x:Value),cs[i]?=some av→vs[i]?=some x→BP g w U av x
def OX:List Nat→Code→Bool
 |bs,.block id c=>OX (id::bs) c
 |bs,.seq a b=>OX bs a||OX bs b
 |bs,.cond _ a b=>OX bs a||OX bs b
 |bs,.loop c=>OX bs c
 |bs,.exit id=>!(bs.any fun i=>Nat.beq i id)
 |_,_=>false
def qV:Obj→Bool
 |.loop r=>OX [] r.body
 |_=>false
def Er(g:Gh)(w:World)(U:Nat→Prop)(r:Nat):HO→Prop
  |.free |.dead=>True
  |.cells cs=>g.tk r=false∧∃b E vs,g.own r=some b∧g.ρ r=.pointer (some ⟨b,0,none⟩)∧w.heap[b]?=some (.cells vs E (0,0))∧CR g w U cs vs.toList∧∀o,¬g.S b o
  |.ro cs=>g.tk r=false∧∃b,g.ρ r=.pointer (some ⟨b,0,none⟩)∧BP g w FH (.cptr cs) (.pointer (some ⟨b,0,none⟩))
  |.tok sz n=>g.tk r=true∧g.ln r=n∧∃a cap,g.ρ r=.slice a n cap∧(n=cap∧g.own r=none ∨
      n≤cap∧∃b E vs off,a=some ⟨b,off,none⟩∧g.own r=some b∧w.heap[b]?=some (.cells vs E (0,0))∧vs.size=off+cap*sz∧∀o,g.S b o→o<off+n*sz)
  |.var sz v n=>g.tk r=true∧g.ln r=v∧∃a cap,g.ρ r=.slice a n cap∧(n=cap∧g.own r=none ∨
      n≤cap∧∃b E vs off,a=some ⟨b,off,none⟩∧g.own r=some b∧w.heap[b]?=some (.cells vs E (0,0))∧vs.size=off+cap*sz∧∀o,g.S b o→o<off+n*sz)
  |.vox v=>g.tk r=true∧g.ln r=v
  |.arr sz es=>g.tk r=true∧g.ln r=es.length∧(∀cs∈es,cs.length=sz)∧(es=[]∧g.ρ r=.slice none 0 0∧g.own r=none ∨
      ∃b cap E vs,g.ρ r=.slice (some ⟨b,0,none⟩) es.length cap∧g.own r=some b∧es.length≤cap∧w.heap[b]?=some (.cells vs E (0,0))∧vs.size=cap*sz ∧
        CR g w FH es.flatten (vs.toList.take (es.length*sz))∧∀o,¬g.S b o)
  |.map sh B7=>g.tk r=false∧∃b es ck,g.own r=some b∧g.ρ r=.map (some b)∧w.heap[b]?=some (.map es ck)∧Hs sh es ck B7 ∧
      (∀(i:Nat) (kv:Value×AV) (e:MapEntry),B7[i]?=some kv→es[i]?=some e→BP g w FH kv.2 e.val)∧∀o,¬g.S b o
  |.mapU sh B7=>g.tk r=false∧∃b es ck,g.own r=some b∧g.ρ r=.map (some b)∧w.heap[b]?=some (.map es ck)∧Hs sh es ck B7 ∧
      (∀(i:Nat) (kv:Value×AV) (e:MapEntry),B7[i]?=some kv→es[i]?=some e→BP g w U kv.2 e.val)∧∀o,¬g.S b o
  |.rom sh B7=>g.tk r=false∧∃b,g.ρ r=.map (some b)∧BP g w FH (.cmap sh B7) (.map (some b))
  |.iter all rem FP=>g.tk r=false∧∃b mb Ki seen st es ck,g.own r=some b∧g.ρ r=.pointer (some ⟨b,0,none⟩)∧w.heap[b]?=some (.mapIter (some mb) Ki seen st) ∧
      g.S mb 0∧w.heap[mb]?=some (.map es ck)∧(∃sh,Hs sh es ck all)∧Ki=ck∧st=ck ∧
      (∀(i:Nat) (kv:Value×AV) (e:MapEntry),all[i]?=some kv→es[i]?=some e→BP g w FH kv.2 e.val) ∧
      (rem.Nodup∧∀kv∈rem,kv∈all)∧(∀(i:Nat) (kv:Value×AV) (e:MapEntry),all[i]?=some kv→es[i]?=some e→(kv∈rem↔e.born∉seen)) ∧
      (match FP with | none=>True | some kv=>∃(i:Nat) (e:MapEntry),all[i]?=some kv∧es[i]?=some e∧seen.back?=some e.born)∧∀o,¬g.S b o
  |.hol sz es i c a=>g.tk r=true∧g.ln r=es.length∧(∀cs∈es,cs.length=sz)∧∃b cap E vs,g.ρ r=.slice (some ⟨b,0,none⟩) es.length cap∧g.own r=some b∧es.length≤cap∧w.heap[b]?=some (.cells vs E (0,0))∧vs.size=cap*sz ∧
        CR g w FH es.flatten (vs.toList.take (es.length*sz))∧(∀o,¬g.S b o)∧i*sz+c<es.length*sz∧∃x,vs[i*sz+c]?=some x∧BP g w U a x
  |.raw b ob=>g.tk r=false∧g.own r=some b∧w.heap[b]?=some ob∧qV ob=true∧∀o,¬g.S b o
def gB:Nat:=0
def rA:List (Nat×Nat×Option Value):=[]
def Wi(g:Gh)(w:World):Prop:=(g.S gB 0∧∃m,w.cell? ⟨gB,0,none⟩=some (.int .i64 m))∧∀x∈rA,g.S x.1 x.2.1∧w.cell? ⟨x.1,x.2.1,none⟩=x.2.2
structure DS(w0:World)(g0:Gh)(h0:Nat→HO)(h:Nat→HO)(g:Gh)(w:World):Prop where
 os:w.os=w0.os
 tape:w.tape=w0.tape
 output:w.output=w0.output
 size:w0.heap.size≤w.heap.size
 frame:∀b,b<w0.heap.size→(∀r,(h0 r).live→g0.own r≠some b)→w.heap[b]?=w0.heap[b]?
 slt:∀b o,g.S b o→b<w.heap.size
 objs:∀r,Er g w (AW h) r (h r)
 inj:∀r r' b,(h r).live→(h r').live→g.own r=some b→g.own r'=some b→r=r'
 loc:∀r b,(h r).live→g.own r=some b→b<w.heap.size∧(w0.heap.size≤b∨∃r',(h0 r').live∧g0.own r'=some b)
 sg:∀b o,g.S b o→g0.S b o∨w0.heap.size≤b∨∃r',(h0 r').live∧g0.own r'=some b
 glob:Wi g w
def Fg(g:Gh)(w:World)(g' : Gh)(w' : World):Prop :=
 ∀b o,g.S b o→g'.S b o∧w'.cell? ⟨b,o,none⟩=w.cell? ⟨b,o,none⟩∧∀es ck,w.heap[b]?=some (.map es ck)→w'.heap[b]?=some (.map es ck)
def Kl(g g' : Gh)(U:Nat→Prop):Prop :=
 ∀i,U i→g'.tk i=g.tk i∧g.ln i≤g'.ln i∧(g.tk i=false→g'.ρ i=g.ρ i)∧(g'.ln i=g.ln i→g'.ρ i=g.ρ i)
structure Le(h:Nat→HO)(g:Gh)(w:World)(h' : Nat→HO)(g' : Gh)(w' : World):Prop where
 gh:Kl g g' (AW h)
 us:∀i,AW h i→AW h' i
 keeps:Fg g w g' w'
def Gl (P : Program) (f : Nat) : Prop := ∃ fn, P.funcs[f]? = some fn ∧ (fn.name == "runtime.NumGoroutine") = false ∧ fn.body.isNone = false
def Bj(P:Program)(f:Nat)(args:List AV)(h0:Nat→HO)(Q:AV→(Nat→HO)→Prop):Prop :=
 Gl P f∧∀(g:Gh) (w:World) (vals:Array Value),vals.size=args.length→(∀(i:Nat) (av:AV) (x:Value),args[i]?=some av→vals[i]?=some x→BP g w (AW h0) av x) →
  DS w g h0 h0 g w →
  Calls P f vals w fun e w'=>∃v r h' g',e=.returned v∧Q r h'∧BP g' w' (AW h') r v∧DS w g h0 h' g' w'∧Le h0 g w h' g' w'
def Md(P:Program)(f:Nat)(args:List AV)(res:AV):Prop:=Bj P f args Ab fun r h'=>r=res∧h'=Ab
def Ja(P:Program)(Y:Gh→World→Prop)(l:Nat)(args:List AV)(h0:Nat→HO)(Q:AV→(Nat→HO)→Prop):Prop :=
 ∀(g:Gh) (w:World) (vals:Array Value),vals.size=args.length→(∀(i:Nat) (av:AV) (x:Value),args[i]?=some av→vals[i]?=some x→BP g w (AW h0) av x) →
  DS w g h0 h0 g w→Y g w →
  YieldAt Fence.wide 0 P l vals w fun e w'=>∃v r h' g',e=.returned v∧Q r h'∧BP g' w' (AW h') r v∧DS w g h0 h' g' w'∧Le h0 g w h' g' w'
def nI(P:Program)(Y:Gh→World→Prop)(f:Nat)(args:List AV)(h0:Nat→HO)(Q:AV→(Nat→HO)→Prop):Prop :=
 Gl P f∧∀(g:Gh) (w:World) (vals:Array Value),vals.size=args.length→(∀(i:Nat) (av:AV) (x:Value),args[i]?=some av→vals[i]?=some x→BP g w (AW h0) av x) →
  DS w g h0 h0 g w→Y g w →
  Calls P f vals w fun e w'=>∃v r h' g',e=.returned v∧Q r h'∧BP g' w' (AW h') r v∧DS w g h0 h' g' w'∧Le h0 g w h' g' w'
def Gk(P:Program)(Y:Nat→Gh→World→Prop)(F:AV)(args:List AV)(h:Nat→HO)(Q:AV→(Nat→HO)→Prop):Prop :=
 match F with
 |.v (.func (.func f) ⟨[]⟩ ⟨[]⟩)=>Bj P f args h Q
 |.clo f caps=>Bj P f (args++caps) h Q
 |.v (.func (.yield l) ⟨[]⟩ ⟨[]⟩)=>Ja P (Y l) l args h Q
 |_=>False
def Qg(P:Program)(F:AV)(args:List AV)(res:AV):Prop :=
 match F with
 |.v (.func (.func f) ⟨[]⟩ ⟨[]⟩)=>Md P f args res
 |.clo f caps=>Md P f (args++caps) res
 |_=>False
structure Cx where
 P:Program
 T:GN
 pl:Si
 ext:Bool
 nid:Nat
 yp:Nat→List (Nat×Nat)→Gh→World→Prop
def KQ(cx:Cx)(d:Nat):Nat:=bif I5 cx.pl.dyn d then cx.nid else d
abbrev HK:=AV→(Nat→HO)→Prop
def SO(T:GN)(d:Option Nat)(h:Nat→HO)(e:Nat)(K:HK):Prop :=
 match d with
 |none=>False
 |some d=>match h d with
  |.free=>match(T e).d with
   |.other=>False
   |_=>match Hj ((T e).zc.map .v)with
    |true=>K (.ref d 0) (A2 h d (.cells ((T e).zc.map .v)))
    |false=>False
  |_=>False
def Hk(n:Nat)(a:AV)(K:List AV→Prop):Prop :=
 match a with
 |.agg cs=>match Nat.beq cs.length n with
  |true=>K cs
  |false=>False
 |a=>match one a with
  |true=>match n with
   |1=>K [a]
   |_=>False
  |false=>False
def cB(cx:Cx)(d:Option Nat)(h:Nat→HO)(e:Nat)(x:AV)(K:HK):Prop :=
 match d with
 |none=>False
 |some d=>match h d with
  |.free=>match(cx.T e).d with
   |.other=>False
   |_=>Hk (cx.T e).size x fun cs=>match I5 cx.pl.frz d with
    |true=>K (.ref d 0) (A2 h d (.ro (cs.map (str h))))
    |false=>K (.ref d 0) (A2 h d (.cells cs))
  |_=>False
def OE(cx:Cx)(h:Nat→HO)(t:Nat)(p x:AV)(K:HK):Prop :=
 match(cx.T t).d with
 |.other=>False
 |_=>Hk (cx.T t).size x fun vs=>match p with
  |.ref r off=>match h r with
   |.cells cs=>off+vs.length≤cs.length∧(match I5 cx.pl.frz r with
    |true=>K (.v undef) (A2 h r (.ro ((over cs off vs).map (str h))))
    |false=>K (.v undef) (A2 h r (.cells (over cs off vs))))
   |_=>False
  |.eref r n sz i off=>match h r with
   |.arr GL es=>match Nat.beq sz GL with
    |true=>n=es.length∧∃cs,es[i]?=some cs∧off+vs.length≤sz∧(match vs with
     | [.msl j m]=>K (.v undef) (A2 h r (.hol sz (es.set i (over cs off [.junk])) i off (.msl j m)))
     |_=>K (.v undef) (A2 h r (.arr sz (es.set i (over cs off (vs.map (str h)))))))
    |false=>False
   |_=>False
  |_=>False
def Iz(T:GN)(h:Nat→HO)(t:Nat)(p:AV)(K:AV→Prop):Prop :=
 match p with
 |.cptr cs=>LW T t cs K
 |.ref r off=>match h r with
  |.cells cs=>LW T t (cs.drop off) K
  |.ro cs=>LW T t (cs.drop off) K
  |_=>False
 |.eref r n sz i off=>match h r with
  |.arr GL es=>match Nat.beq sz GL with
   |true=>n=es.length∧∃cs,es[i]?=some cs∧LW T t (cs.drop off) K
   |false=>False
  |.hol GL es i' c a=>match Nat.beq sz GL with
   |true=>(n=es.length∧i=i'∧off=c)∧LW T t [a] K
   |false=>False
  |_=>False
 |_=>False
def KT(pl:Nat→Option (Nat×Nat))(cs:List AV)(t:Nat→AV)(ps:List (Nat×Operand))(K:List AV→Prop):Prop :=
 match ps with
 | []=>K cs
 |(i,x)::r=>match pl i with
  |none=>False
  |some (o,n)=>Hk n (ev t x) fun vs=>match Nat.ble (o+n) cs.length with
   |true=>KT pl (over cs o vs) t r K
   |false=>False
def OR(T:GN):List (Nat×Nat)→Bool
 | []=>true
 |(t,_)::r=>match(T t).size with |0=>false |_+1=>OR T r
def Ql(T:GN)(ty:Nat)(t:Nat→AV)(ps:List (Nat×Operand))(K:AV→Prop):Prop :=
 match Hj ((T ty).zc.map .v)with
 |false=>False
 |true=>match(T ty).d with
  |.struct fs=>match OR T fs with
   |false=>False
   |true=>KT (fun i=>match WG fs i with |some (t,o)=>some (o,(T t).size) |none=>none) ((T ty).zc.map .v) t ps fun cs=>K (.agg cs)
  |.array _ e=>match(T e).size with
   |0=>False
   |_+1=>KT (fun i=>some (i*(T e).size,(T e).size)) ((T ty).zc.map .v) t ps fun cs=>K (.agg cs)
  |_=>False
def Rw(n sz:Nat)(h:Nat→HO)(es:List (List AV))(t:Nat→AV)(ps:List (Nat×Operand))(K:List (List AV)→Prop):Prop :=
 match ps with
 | []=>K es
 |(i,x)::r=>match Nat.blt i n with
  |true=>Hk sz (ev t x) fun vs=>Rw n sz h (es.set i (vs.map (str h))) t r K
  |false=>False
def EL(cx:Cx)(d:Option Nat)(h:Nat→HO)(sz:Nat)(es:List (List AV))(K:HK):Prop :=
 match d with
 |none=>False
 |some d=>match h (KQ cx d)with
  |.free=>match GU cx.pl.arr d with
   |some _=>K (.msl (KQ cx d) es.length) (A2 h (KQ cx d) (.arr sz es))
   |none=>K (.slice (.id (KQ cx d) sz) es) (A2 h (KQ cx d) (.tok sz es.length))
  |_=>False
def IP(cx:Cx)(d:Option Nat)(h:Nat→HO)(ty n:Nat)(t:Nat→AV)(ps:List (Nat×Operand))(K:HK):Prop :=
 match(cx.T ty).d with
 |.slice e=>match Hj ((cx.T e).zc.map .v),Nat.beq (cx.T e).zc.length (cx.T e).size with
  |true,true=>match(cx.T e).size with
   |0=>False
   |_+1=>match Nat.ble (n*(cx.T e).size) 16777216 with
    |true=>Rw n (cx.T e).size h (List.replicate n ((cx.T e).zc.map .v)) t ps fun es=>EL cx d h (cx.T e).size es K
    |false=>False
  |_,_=>False
 |_=>False
def KX(t:Nat→AV)(h:Nat→HO)(fn:Fn)(first captured:List Operand)(K:AV→Prop):Prop :=
 match fn,first with
 |.func f,[]=>K (.clo f (captured.map fun x=>rsv h (ev t x)))
 |_,_=>False
def Da(sz:Nat):List (List AV)→Prop
 | []=>True
 |c::r=>c.length=sz∧Da sz r
def Lr(h:Nat→HO)(x:AV)(K:List (List AV)→Prop):Prop :=
 match x with
 |.slice _ es=>K es
 |.v (.slice none 0 0)=>K []
 |.msl r n=>match h r with
  |.arr _ es=>n=es.length∧K es
  |_=>False
 |_=>False
def IF(cx:Cx)(d:Option Nat)(h:Nat→HO)(ty:Nat)(s x:AV)(K:HK):Prop :=
 match(cx.T ty).d with
 |.slice e=>match Nat.beq (cx.T e).zc.length (cx.T e).size with
  |false=>False
  |true=>match(cx.T e).size with
   |0=>False
   |_+1=>Lr h x fun es2=>match s with
    |.v (.slice none 0 0)=>(Da (cx.T e).size es2∧es2.length*(cx.T e).bytes≤140737488355328∧es2.length≤9223372036854775807)∧EL cx d h (cx.T e).size es2 K
    |.slice (.full GL) es=>match Nat.beq GL (cx.T e).size with
     |true=>(Da (cx.T e).size es2∧0<es2.length∧(es.length+es2.length)*(cx.T e).bytes≤140737488355328∧es.length+es2.length≤9223372036854775807)∧EL cx d h (cx.T e).size (es++es2) K
     |false=>False
    |.slice (.id r GL) es=>match h r with
     |.tok sz n=>match Nat.beq sz (cx.T e).size,Nat.beq GL sz with
      |true,true=>(Da sz es2∧es.length=n∧(es.length+es2.length)*(cx.T e).bytes≤140737488355328∧es.length+es2.length≤9223372036854775807) ∧
        K (.slice (.id r sz) (es++es2)) (A2 h r (.tok sz (es.length+es2.length)))
      |_,_=>False
     |_=>False
    |.msl r n=>match h r with
     |.arr sz es=>match Nat.beq sz (cx.T e).size with
      |true=>(Da sz es2∧es.length=n∧(es.length+es2.length)*(cx.T e).bytes≤140737488355328∧es.length+es2.length≤9223372036854775807) ∧
        K (.msl r (es.length+es2.length)) (A2 h r (.arr sz (es++es2)))
      |false=>False
     |_=>False
    |_=>False
 |_=>False
abbrev Ji:=List (Nat×Nat)
inductive qI | pure | rel | gen (σ:Ji) (nn:Nat) | geny (σ:Ji) (nn:Nat)
def CB(σ:Ji)(n:Nat):Option Nat :=
 match σ with
 | []=>none
 |(i,j)::r=>bif Nat.beq i n then some j else CB r n
def H6(σ:Ji)(n:Nat):Option Nat :=
 match σ with
 | []=>none
 |(i,j)::r=>bif Nat.beq j n then some i else H6 r n
def Ey:Ji→Bool
 | []=>true
 |(i,j)::r=>(match CB r i,H6 r j with |none,none=>true |_,_=>false)&&Nat.ble 1000 j&&Nat.blt j 2000&&Ey r
def G0:Ji→Bool
 | []=>true
 |(i,j)::r=>(match CB r i,H6 r j with |none,none=>true |_,_=>false)&&G0 r
def ren0(f:Nat→Option Nat)(h:Nat→HO):AV→AV
 |.slice (.id r sz) es=>match f r with |some r'=>.slice (.id r' sz) es |none=>.slice .none es
 |.slice (.ver r sz v) es=>match f r with |some r'=>.slice (.ver r' sz v) es |none=>.slice .none es
 |.msl r n=>match f r with |some r'=>.msl r' n |none=>.junk
 |.ref r off=>match f r with |some r'=>.ref r' off |none=>str0 h (.ref r off)
 |.eref r n sz i off=>match f r with |some r'=>.eref r' n sz i off |none=>.junk
 |.mref r=>match f r with |some r'=>.mref r' |none=>str0 h (.mref r)
 |a=>str0 h a
def ren1(f:Nat→Option Nat)(h:Nat→HO):AV→AV
 |.agg cs=>.agg (cs.map (ren0 f h))
 |.clo g cs=>.clo g (cs.map (ren0 f h))
 |a=>ren0 f h a
def ren(f:Nat→Option Nat)(h:Nat→HO):AV→AV
 |.tup cs=>.tup (cs.map (ren1 f h))
 |a=>ren1 f h a
def HO.ren(f:Nat→Option Nat)(h:Nat→HO):HO→HO
 |.cells cs=>.cells (cs.map (ren1 f h))
 |.mapU sh B7=>.mapU sh (B7.map fun p=>(p.1,ren1 f h p.2))
 |.hol sz es i c a=>.hol sz es i c (ren1 f h a)
 |o=>o
def Ap(l:List (Nat×HO))(hb:Nat→HO)(i:Nat):HO:=match l with | []=>hb i | (j,v)::r=>bif Nat.beq i j then v else Ap r hb i
def W9(f:Nat→Option Nat)(h:Nat→HO):Ji→List (Nat×HO)
 | []=>[]
 |(i,j)::r=>(j,(h i).ren f h)::W9 f h r
def FO(σ:Ji)(h:Nat→HO):Nat→HO:=Ap (W9 (CB σ) h σ) Ab
def BB(d k:Nat):Nat:=10000+100*d+k
def Fl(σ:Ji)(d nn:Nat)(j:Nat):Option Nat :=
 match H6 σ j with
 |some i=>some i
 |none=>match Nat.ble 2000 j&&Nat.blt j (2000+nn)with |true=>some (BB d (j-2000)) |false=>none
def Eh(σ:Ji)(d nn:Nat)(h h' : Nat→HO):Nat→HO:=fun i =>
 match CB σ i with
 |some j=>(h' j).ren (Fl σ d nn) h'
 |none=>match Nat.ble (BB d 0) i&&Nat.blt i (BB d nn)with |true=>(h' (2000+(i-BB d 0))).ren (Fl σ d nn) h' |false=>h i
def DP(h:Nat→HO)(d:Nat):Nat→Bool
 |0=>true
 |k+1=>(match h (BB d k)with |.free=>true |_=>false)&&DP h d k
def DB(σ:Ji)(d nn:Nat):Bool :=
 match σ with
 | []=>true
 |(i,_)::r=>!(Nat.ble (BB d 0) i&&Nat.blt i (BB d nn))&&DB r d nn
def N2(l:List (Nat×Nat))(d:Option Nat):Option Nat:=match d with | none=>none | some d=>GU l d
def bD:AV→Bool | .tup _=>false | _=>true
def Ub:List AV→Bool
 | []=>true
 |a::r=>match bD a with |true=>Ub r |false=>false
def Wb:List AV→Option (List Value)
 | []=>some []
 |.v x::r=>match Wb r with |some l=>some (x::l) |none=>none
 |_=>none
def RU(cx:Cx)(k:Nat)(d:Option Nat)(h:Nat→HO)(F:AV)(args:List AV)(K:HK):Prop :=
 match d,F,args with
 |some d,.v (.func (.func f) ⟨[]⟩ ⟨[]⟩),.msl r n::l=>match Wb l with
  |some vs=>match h r with
   |.arr sz es=>match k with
    |0=>∃n' FQ,Bj cx.P f (.msl 1000 n::vs.map .v) (Ap [(1000,.arr sz es)] Ab) (fun r' h'=>r'=.msl 1000 n'∧h'=Ap [(1000,.arr sz FQ)] Ab)∧K (.msl r n') (A2 h r (.arr sz FQ))
    |_+1=>∃n' FQ,(DP h d 1&&Nat.blt r 10000000&&!Nat.beq r (BB d 0))=true∧Bj cx.P f (.msl 1000 n::vs.map .v) (Ap [(1000,.arr sz es)] Ab) (fun r' h'=>r'=.msl 2000 n'∧h'=Ap [(1000,.dead),(2000,.arr sz FQ)] Ab) ∧
      K (.msl (BB d 0) n') (A2 (A2 h r .dead) (BB d 0) (.arr sz FQ))
   |_=>False
  |none=>False
 |_,_,_=>False
def UB(cx:Cx)(d:Option Nat)(st:St)(F:AV)(args:List AV)(K:HK):Prop :=
 match d with
 |none=>False
 |some d=>∃sz es,(DP st.h d 1&&bD F&&Ub args)=true∧Gk cx.P (fun l=>cx.yp l []) (str st.h F) (args.map (str st.h)) Ab (fun r h'=>r=.slice (.id 2000 sz) es∧h'=Ap [(2000,.tok sz es.length)] Ab) ∧
   K (.slice (.id (BB d 0) sz) es) (A2 st.h (BB d 0) (.tok sz es.length))
def Rg(cx:Cx)(d:Option Nat)(st:St)(F:AV)(args:List AV)(K:HK):Prop :=
  match d,F,Wb args with
  |some _,.v (.func (.yield l) ⟨[]⟩ ⟨[]⟩),some vs=>match st.h 1000,st.h 1001 with
    |.cells [.slice (.id r sz) es],.tok bZ n=>(r=1001∧bZ=sz)∧∃v FQ n',Ja cx.P (cx.yp l [(1000,1000),(1001,1001)]) l (vs.map .v) (Ap [(1000,.cells [.slice (.id 1001 sz) es]),(1001,.tok sz n)] Ab)
          (fun r h'=>r=.v v∧h'=Ap [(1000,.cells [.slice (.id 1001 sz) FQ]),(1001,.tok sz n')] Ab) ∧
        K (.v v) (A2 (A2 st.h 1001 (.tok sz n')) 1000 (.cells [.slice (.id 1001 sz) FQ]))
    |_,_=>False
  |_,_,_=>False
def ld:List Nat:=[1000,1001,1002,1003,1004,1005,1006,1007]
def X7(cx:Cx)(d:Option Nat)(st:St)(F:AV)(args:List AV)(K:HK):Prop :=
 match d,F with
 |some d,.v (.func (.func f) ⟨[]⟩ ⟨[]⟩)=>∃(σ:Ji) (H0 Hn:List (Nat×HO)) (args' : List AV) (res:AV),
   (∀h2:Nat→HO,(∀r∈ld,h2 r=st.h r)→FO σ h2=Ap H0 Ab∧args.map (ren (CB σ) h2)=args')∧(Ey σ&&DB σ d 0&&σ.all fun p=>I5 ld p.1)=true ∧
   Bj cx.P f args' (Ap H0 Ab) (fun r h'=>r=res∧h'=Ap Hn Ab)∧K (ren (Fl σ d 0) (Ap Hn Ab) res) (Eh σ d 0 st.h (Ap Hn Ab))
 |_,_=>False
def PP(cx:Cx)(k:Nat)(d:Option Nat)(st:St)(F:AV)(args:List AV)(K:HK):Prop :=
 match Nat.beq k 4 with
 |true=>X7 cx d st F args K
 |false=>RU cx k d st.h F args K
def GA(cx:Cx)(dr:Bool)(d:Option Nat)(st:St)(F:AV)(args:List AV)(K:HK):Prop :=
 match dr with
 |true=>match N2 cx.pl.dc d with
  |none=>∃res,Qg cx.P (str st.h F) (args.map (str st.h)) res∧K res st.h
  |some 0=>match d with
   |none=>False
   |some d=>∃n sz es,(DP st.h d 1&&bD F&&Ub args)=true∧Gk cx.P (fun l=>cx.yp l []) (str st.h F) (args.map (str st.h)) Ab (fun r h'=>r=.msl 2000 n∧h'=Ap [(2000,.arr sz es)] Ab) ∧
     K (.msl (BB d 0) n) (A2 st.h (BB d 0) (.arr sz es))
  |some (k+1)=>match Nat.beq k 2 with
   |true=>UB cx d st F args K
   |false=>match Nat.beq k 3 with
    |true=>Rg cx d st F args K
    |false=>PP cx k d st F args K
 |false=>∃m:qI,match m with
  |.pure=>∃res,Qg cx.P (str st.h F) (args.map (str st.h)) res∧K res st.h
  |.rel=>Gk cx.P (fun _ _ _=>True) (str st.h F) (args.map (str st.h)) Ab fun r h'=>h'=Ab∧K r st.h
  |.gen σ nn=>match d with
   |none=>False
   |some d=>(Ey σ&&DP st.h d nn&&DB σ d nn)=true ∧
     Gk cx.P (fun l=>cx.yp l σ) (ren (CB σ) st.h F) (args.map (ren (CB σ) st.h)) (FO σ st.h) fun r h'=>K (ren (Fl σ d nn) h' r) (Eh σ d nn st.h h')
  |.geny σ nn=>match d with
   |none=>False
   |some d=>(Ey σ&&DP st.h d nn&&DB σ d nn)=true ∧
     match ren (CB σ) st.h F with
     |.clo f caps=>nI cx.P (fun g w=>∀l,cx.yp l σ g w) f (args.map (ren (CB σ) st.h)++caps) (FO σ st.h) fun r h'=>K (ren (Fl σ d nn) h' r) (Eh σ d nn st.h h')
     |_=>False
def Xg:List AV→Option (List Value)
 | []=>some []
 |.v x::r=>match Xg r with |some l=>some (x::l) |none=>none
 |_=>none
def px:AV→Option Value
 |.v x=>some x
 |.agg cs=>match Xg cs with |some l=>some (.agg l.toArray) |none=>none
 |_=>none
def Ia(T:GN)(t:Nat):Option EU :=
 match(T t).d with
 |.struct _=>match HS T 8 t with |some l=>some ⟨true,l⟩ |none=>none
 |_=>match HS T 1 t with |some l=>some ⟨false,l⟩ |none=>none
def lQ:KS→KS→Bool
 |.int k,.int k'=>qz k k'
 |.str,.str=>true
 |.bool,.bool=>true
 |_,_=>false
def T1:List KS→List KS→Bool
 | [],[]=>true
 |a::r,b::s=>match lQ a b with |true=>T1 r s |false=>false
 |_,_=>false
def pV(a b:EU):Bool :=
 match a.agg,b.agg with
 |true,true=>T1 a.l b.l
 |false,false=>T1 a.l b.l
 |_,_=>false
def Kv(T:GN)(ty:Nat)(sh:EU)(k:AV)(K:Value→Prop):Prop :=
 match(T ty).d with
 |.map kt _=>match Ia T kt with
  |some uK=>match pV sh uK with
   |true=>match px k with
    |some kx=>match V1 sh kx with
     |true=>K kx
     |false=>False
    |none=>False
   |false=>False
  |none=>False
 |_=>False
open Classical in
noncomputable def E6(B7:List (Value×AV))(k:Value)(a:AV):List (Value×AV) :=
 if ∃a',(k,a')∈B7 then B7.map fun p=>if p.1=k then(k,a)else p else B7++[(k,a)]
def KY(T:GN)(mku:List Nat)(d:Option Nat)(h:Nat→HO)(ty:Nat)(K:HK):Prop :=
 match d with
 |none=>False
 |some d=>match h d with
  |.free=>match(T ty).d with
   |.map kt _=>match Ia T kt with
    |some sh=>match I5 mku d with
     |true=>K (.mref d) (A2 h d (.mapU sh []))
     |false=>K (.mref d) (A2 h d (.map sh []))
    |none=>False
   |_=>False
  |_=>False
def Hp(T:GN)(h:Nat→HO)(ty:Nat)(m k x:AV)(K:HK):Prop :=
 match m with
 |.mref r=>match h r with
  |.map sh B7=>Kv T ty sh k fun kx=>K (.v undef) (A2 h r (.map sh (E6 B7 kx (str h x))))
  |.mapU sh B7=>Kv T ty sh k fun kx=>K (.v undef) (A2 h r (.mapU sh (E6 B7 kx x)))
  |_=>False
 |_=>False
def KB(T:GN)(t:Nat)(K:AV→Prop):Prop :=
 match(T t).d with
 |.other=>False
 |_=>match(T t).zero with
  |.agg cs=>match Hj (cs.toList.map .v)with |true=>K (.agg (cs.toList.map .v)) |false=>False
  |z=>K (.v z)
def Ms(T:GN)(ty:Nat)(ok:Bool)(B7:List (Value×AV))(kx:Value)(K:AV→Prop):Prop :=
 match(T ty).d with
 |.map _ e=>match ok with
  |true=>(∀a,(kx,a)∈B7→K (.tup [a,.v (.bool true)]))∧((∀a,(kx,a)∉B7)→KB T e fun z=>K (.tup [z,.v (.bool false)]))
  |false=>(∀a,(kx,a)∈B7→K a)∧((∀a,(kx,a)∉B7)→KB T e K)
 |_=>False
def Mr(T:GN)(ty:Nat)(ok:Bool)(B7:List (Value×AV))(kx:Value)(K:AV→Prop):Prop :=
 match(T ty).d with
 |.map _ e=>match ok with
  |true=>(∃a,((kx,a)∈B7∧∀b,(kx,b)∈B7→b=a)∧K (.tup [a,.v (.bool true)]))∨((∀a,(kx,a)∉B7)∧KB T e fun z=>K (.tup [z,.v (.bool false)]))
  |false=>(∃a,((kx,a)∈B7∧∀b,(kx,b)∈B7→b=a)∧K a)∨((∀a,(kx,a)∉B7)∧KB T e K)
 |_=>False
def Ng(T:GN)(h:Nat→HO)(ty:Nat)(m k:AV)(ok:Bool)(K:AV→Prop):Prop :=
 match m with
 |.cmap sh B7=>Kv T ty sh k fun kx=>Mr T ty ok B7 kx K
 |.mref r=>match h r with
  |.map sh B7=>Kv T ty sh k fun kx=>Mr T ty ok B7 kx K
  |.mapU sh B7=>Kv T ty sh k fun kx=>Mr T ty ok B7 kx K
  |.rom sh B7=>Kv T ty sh k fun kx=>Mr T ty ok B7 kx K
  |_=>False
 |_=>False
def Nh(T:GN)(h:Nat→HO)(ty:Nat)(m k:AV)(ok:Bool)(K:AV→Prop):Prop :=
 match m with
 |.cmap sh B7=>Kv T ty sh k fun kx=>Ms T ty ok B7 kx K
 |.mref r=>match h r with
  |.map sh B7=>Kv T ty sh k fun kx=>Ms T ty ok B7 kx K
  |.mapU sh B7=>Kv T ty sh k fun kx=>Ms T ty ok B7 kx K
  |.rom sh B7=>Kv T ty sh k fun kx=>Ms T ty ok B7 kx K
  |_=>False
 |_=>False
def aF(d:Option Nat)(h:Nat→HO)(x:AV)(K:HK):Prop :=
 match d with
 |none=>False
 |some d=>match h d with
  |.free=>match x with
   |.cmap _ B7=>K (.ref d 0) (A2 h d (.iter B7 B7 none))
   |.mref r=>match h r with
    |.rom _ B7=>K (.ref d 0) (A2 h d (.iter B7 B7 none))
    |.map sh B7=>K (.ref d 0) (A2 (A2 h r (.rom sh B7)) d (.iter B7 B7 none))
    |_=>False
   |_=>False
  |_=>False
def iU(h:Nat→HO)(x:AV)(K:HK):Prop :=
 match x with
 |.ref r 0=>match h r with
  |.iter all rem _=>(rem=[]→K (.tup [.v (.bool false)]) h) ∧
    (∀kv Oy,rem.Perm (kv::Oy)→K (.tup [.v (.bool true),.v kv.1,kv.2]) (A2 h r (.iter all Oy (some kv))))
  |_=>False
 |_=>False
def ZG(h:Nat→HO)(x:AV)(K:AV→Prop):Prop :=
 match x with
 |.ref r 0=>match h r with
  |.iter _ _ (some kv)=>K (.tup [.v kv.1,kv.2])
  |_=>False
 |_=>False
def RF(T:GN)(t:Nat)(h:Nat→HO)(x:AV)(K:AV→Prop):Prop :=
 match(T t).d with
 |.slice _=>match x with
  |.slice _ es=>K (.v (.int .i64 es.length))
  |.msl _ n=>K (.v (.int .i64 n))
  |.v (.slice none 0 0)=>K (.v (.int .i64 0))
  |_=>False
 |.string=>match x with
  |.v (.string s)=>K (.v (.int .i64 s.size))
  |_=>False
 |.map _ _=>match x with
  |.cmap _ B7=>K (.v (.int .i64 B7.length))
  |.mref r=>match h r with
   |.map _ B7=>K (.v (.int .i64 B7.length))
   |.mapU _ B7=>K (.v (.int .i64 B7.length))
   |.rom _ B7=>K (.v (.int .i64 B7.length))
   |_=>False
  |_=>False
 |_=>False
def GK(cx:Cx)(d:Option Nat)(h:Nat→HO)(ty:Nat)(x:AV)(lo hi mx:Option (Option Int))(K:HK):Prop :=
 match lo,hi,mx with
 |some lo,some hi,some mx=>match(cx.T ty).d with
  |.string=>match mx,x with
   |none,.v (.string s)=>(0≤lo.getD 0∧lo.getD 0≤hi.getD s.size∧hi.getD s.size≤s.size)∧K (.v (.string (s.extract (lo.getD 0).toNat (hi.getD s.size).toNat))) h
   |_,_=>False
  |.slice e=>match(cx.T e).size with
   |0=>False
   |_+1=>match x with
    |.slice _ es=>match mx with
     |none=>(0≤lo.getD 0∧lo.getD 0≤hi.getD es.length∧hi.getD es.length≤es.length) ∧
       (∀cs∈es,cs.length=(cx.T e).size)∧K (.slice .none ((es.take (hi.getD es.length).toNat).drop (lo.getD 0).toNat)) h
     |some m=>match d,hi with
      |some d,some hi=>match GU cx.pl.arr d with
       |some _=>(0≤lo.getD 0∧lo.getD 0≤hi∧m=hi∧hi≤es.length)∧(∀cs∈es,cs.length=(cx.T e).size) ∧
         K (.slice (.full (cx.T e).size) ((es.take hi.toNat).drop (lo.getD 0).toNat)) h
       |none=>match h d with
        |.free=>(0≤lo.getD 0∧lo.getD 0≤hi∧m=hi∧hi≤es.length)∧(∀cs∈es,cs.length=(cx.T e).size) ∧
          K (.slice (.id d (cx.T e).size) ((es.take hi.toNat).drop (lo.getD 0).toNat)) (A2 h d (.tok (cx.T e).size (hi.toNat-(lo.getD 0).toNat)))
        |_=>False
      |_,_=>False
    |.v (.slice none 0 0)=>(lo.getD 0=0∧hi.getD 0=0∧mx.getD 0=0)∧(mx=none∨hi≠none)∧K (.v (.slice none 0 0)) h
    |.msl r n=>match h r with
     |.arr sz es=>match Nat.beq sz (cx.T e).size with
      |true=>(n=es.length∧0≤lo.getD 0∧lo.getD 0≤hi.getD es.length∧hi.getD es.length≤es.length∧(mx=none∨(mx=hi∧hi≠none))) ∧
        K (.slice .none ((es.take (hi.getD es.length).toNat).drop (lo.getD 0).toNat)) (A2 h r .dead)
      |false=>False
     |_=>False
    |_=>False
  |_=>False
 |_,_,_=>False
def Uo(cx:Cx)(d:Option Nat)(h:Nat→HO)(ty:Nat)(x:AV)(lo:Option (Option Int))(hi mx:Option Operand)(K:HK):Prop :=
 match d,lo,hi,mx with
 |some d,some (some lo),none,none=>match(cx.T ty).d with
  |.slice e=>match(cx.T e).size with
   |0=>False
   |_+1=>match x with
    |.slice (.id r sz) es=>match h r with
     |.tok GL n=>match h (KQ cx d)with
      |.free=>match Nat.beq GL sz,Nat.beq sz (cx.T e).size with
       |true,true=>(es.length=n∧0≤lo∧lo≤es.length)∧K (.slice (.id (KQ cx d) sz) (es.drop lo.toNat)) (A2 (A2 h r .dead) (KQ cx d) (.tok sz (es.drop lo.toNat).length))
       |_,_=>False
      |_=>False
     |_=>False
    |_=>False
  |_=>False
 |_,_,_,_=>False
def jv(cx:Cx)(d:Option Nat)(h:Nat→HO)(ty:Nat)(x:AV)(hi:Option (Option Int))(K:HK):Prop :=
 match d,hi with
 |some d,some (some hi)=>match(cx.T ty).d with
  |.slice e=>match(cx.T e).size with
   |0=>False
   |_+1=>match x with
    |.msl r n=>match h r with
     |.arr sz es=>match h (KQ cx d)with
      |.free=>match Nat.beq sz (cx.T e).size,Nat.blt r 10000000&&Nat.blt 0 (KQ cx d)with
       |true,true=>(n=es.length∧0≤hi∧hi≤es.length)∧K (.msl (KQ cx d) hi.toNat) (A2 (A2 h r .dead) (KQ cx d) (.arr sz (es.take hi.toNat)))
       |_,_=>False
      |_=>False
     |_=>False
    |_=>False
  |_=>False
 |_,_=>False
def NV(cx:Cx)(d:Option Nat)(h:Nat→HO)(ty:Nat)(x:AV)(lo:Option Operand)(hi:Option (Option Int))(mx:Option Operand)(K:HK):Prop :=
 match lo,mx with
 |none,none=>jv cx d h ty x hi K
 |_,_=>False
def bQ(cx:Cx)(d:Option Nat)(h:Nat→HO)(ty:Nat)(x:AV)(t:Nat→AV)(lo hi mx:Option Operand)(K:HK):Prop :=
 match lo with
 |none=>NV cx d h ty x none (Cb t hi) mx K
 |some lo=>Uo cx d h ty x (Cb t (some lo)) hi mx K
def unT:AV→AV
 |.slice _ es=>.slice .none es
 |a=>a
def OV(cx:Cx)(d:Option Nat)(h:Nat→HO)(x:AV)(K:HK):Prop :=
 match d with
 |none=>K x h
 |some d=>match GU cx.pl.tok d with
  |some sz=>match Nat.beq sz 0 with
   |true=>K (unT x) h
   |false=>match x with
    |.v (.slice none 0 0)=>match h d with
     |.free=>K (.slice (.id d sz) []) (A2 h d (.tok sz 0))
     |_=>False
    |x=>K x h
  |none=>match GU cx.pl.arr d with
   |some sz=>match x with
    |.v (.slice none 0 0)=>match h d with
     |.free=>K (.msl d 0) (A2 h d (.arr sz []))
     |_=>False
    |x=>K x h
   |none=>K x h
def mc(l:List AV)(n:Nat):Option AV :=
 match l with
 | []=>none
 |x::r=>match n with |0=>some x |n+1=>mc r n
def Mn(x:AV)(i:Nat)(K:AV→Prop):Prop :=
 match x with
 |.tup vs=>match mc vs i with
  |some a=>K a
  |none=>False
 |_=>False
def K3(x:AV)(K:AV→Prop):Prop :=
 match x with
 |.ref r o=>K (.ref r o)
 |.eref r n z i o=>K (.eref r n z i o)
 |.cptr cs=>K (.cptr cs)
 |.clo f cs=>K (.clo f cs)
 |.v (.func (.func f) a b)=>K (.v (.func (.func f) a b))
 |_=>False
def YW(c a b:AV)(K:AV→Prop):Prop :=
 match c with
 |.v (.bool true)=>K a
 |.v (.bool false)=>K b
 |_=>False
def lZ(f:Int→Int→Int)(x y:AV)(K:AV→Prop):Prop :=
 match x,y with
 |.v (.int k a),.v (.int k' b)=>match qz k k' with
  |true=>K (.v (.int k (f a b)))
  |false=>False
 |_,_=>False
def JL(cx:Cx)(d:Option Nat)(h:Nat→HO)(ty:Nat)(len cap:AV)(K:HK):Prop :=
 match(cx.T ty).d,len,cap with
 |.slice e,.v (.int .i64 n),.v (.int .i64 c)=>match Hj ((cx.T e).zc.map .v)with
  |true=>match Nat.beq (cx.T e).zc.length (cx.T e).size with
   |true=>match(cx.T e).size with
    |0=>False
    |_+1=>(0≤n∧n≤c∧c*(cx.T e).bytes≤140737488355328∧c≤9223372036854775807)∧EL cx d h (cx.T e).size (List.replicate n.toNat ((cx.T e).zc.map .v)) K
   |false=>False
  |false=>False
 |_,_,_=>False
def Y7(op:UnOp)(x:AV)(K:AV→Prop):Prop :=
 match op,x with
 |.not,x=>dH K x
 |.neg,.v (.int .i64 a)=>Bs (-a)∧K (.v (.int .i64 (-a)))
 |_,_=>False
def Gc(cx:Cx)(d:Option Nat)(h:Nat→HO)(b:Builtin)(G3:List Nat)(args:List AV)(K:HK):Prop :=
 match b,args,G3 with
 |.len,[x],[t]=>RF cx.T t h x fun v=>K v h
 |.append,[s,x],[t,t']=>match Nat.beq t t' with
  |true=>IF cx d h t s x K
  |false=>False
 |.max,[x,y],_=>lZ max x y fun v=>K v h
 |.min,[x,y],_=>lZ min x y fun v=>K v h
 |_,_,_=>False
def F5(cx:Cx)(dr:Bool)(o:Oper)(st:St)(K:HK):Prop :=
 match o.op with
 |.move x=>K (ev st.t x) st.h
 |.assign x=>OV cx o.dst st.h (ev st.t x) K
 |.pick c a b=>YW (ev st.t c) (ev st.t a) (ev st.t b) fun v=>K v st.h
 |.alloc e=>SO cx.T o.dst st.h e K
 |.box e x=>cB cx o.dst st.h e (ev st.t x) K
 |.build ty ps=>Ql cx.T ty st.t ps.toList fun v=>K v st.h
 |.buildSlice ty n ps=>IP cx o.dst st.h ty n st.t ps.toList K
 |.insert ty m k x=>Hp cx.T st.h ty (ev st.t m) (ev st.t k) (ev st.t x) K
 |.load ty x=>Iz cx.T st.h ty (ev st.t x) fun v=>K v st.h
 |.store ty p x=>OE cx st.h ty (ev st.t p) (ev st.t x) K
 |.nilCheck x=>K3 (ev st.t x) fun v=>K v st.h
 |.binOp op ty x y _=>XG cx.T op ty y (ev st.t x) (ev st.t y) fun v=>K v st.h
 |.unOp op _ x=>Y7 op (ev st.t x) fun v=>K v st.h
 |.convert s ty x=>XM cx.T s ty (ev st.t x) fun v=>K v st.h
 |.makeFunc fn first cap=>KX st.t st.h fn first.toList cap.toList fun v=>K v st.h
 |.makeMap ty none=>KY cx.T cx.pl.mku o.dst st.h ty K
 |.makeSlice ty n c=>JL cx o.dst st.h ty (ev st.t n) (ev st.t c) K
 |.slice ty x lo hi mx=>match dr with
  |true=>match N2 cx.pl.tok o.dst with
   |none=>GK cx o.dst st.h ty (ev st.t x) (Cb st.t lo) (Cb st.t hi) (Cb st.t mx) K
   |some _=>NV cx o.dst st.h ty (ev st.t x) lo (Cb st.t hi) mx K
  |false=>match N2 cx.pl.tok o.dst with
   |none=>GK cx o.dst st.h ty (ev st.t x) (Cb st.t lo) (Cb st.t hi) (Cb st.t mx) K
   |some _=>bQ cx o.dst st.h ty (ev st.t x) st.t lo hi mx K
 |.fieldAddr s x f=>Tn cx.T s f (ev st.t x) fun v=>K v st.h
 |.field s x f=>Ph cx.T s f (ev st.t x) fun v=>K v st.h
 |.indexAddr ty x ix=>JJ cx.T ty (ev st.t x) (ev st.t ix) fun v=>K v st.h
 |.index ty x ix=>TS cx.T ty (ev st.t x) (ev st.t ix) fun v=>K v st.h
 |.lookup ty x ix ok=>match dr with
  |true=>Ng cx.T st.h ty (ev st.t x) (ev st.t ix) ok fun v=>K v st.h
  |false=>Nh cx.T st.h ty (ev st.t x) (ev st.t ix) ok fun v=>K v st.h
 |.mapUpdate ty m k x=>Hp cx.T st.h ty (ev st.t m) (ev st.t k) (ev st.t x) K
 |.range ty x=>match(cx.T ty).d with |.map _ _=>aF o.dst st.h (ev st.t x) K |_=>False
 |.next it false=>iU st.h (ev st.t it) K
 |.entry it=>ZG st.h (ev st.t it) fun v=>K v st.h
 |.extract x i=>Mn (ev st.t x) i fun v=>K v st.h
 |.call c=>match c.callee with
  |.builtin b=>Gc cx o.dst st.h b c.argTypes.toList (c.args.toList.map (ev st.t)) K
  |.value f=>GA cx dr o.dst st (ev st.t f) (c.args.toList.map (ev st.t)) K
  |_=>False
 |_=>False
def Kx(ops:List Oper)(j:Nat):Option Nat:=match ops with | []=>none | o::r=>match j with | 0=>o.dst | j+1=>Kx r j
def jw(cx:Cx)(o:Oper)(st:St):St :=
 match o.dst with
 |none=>st
 |some d=>match qQ cx.pl.tz d with
  |some (r,k,j,sz)=>⟨st.t,uO st.h r k j sz⟩
  |none=>match nV cx.pl.fz d with
   | []=>st
   |l=>⟨st.t,Pr st.h l⟩
def uS(cx:Cx)(o:Oper)(st:St)(K:St→Prop):Prop :=
 match o.dst with
 |none=>K st
 |some d=>match GU cx.pl.ak d with
  |none=>K st
  |some s=>match st.t s with
   |.msl r n=>match st.h r with
    |.arr sz es=>n=es.length∧K ⟨Hq st.t s (.slice (.id r sz) es),A2 st.h r (.tok sz es.length)⟩
    |_=>K st
   |_=>K st
def fE(cx:Cx)(dr:Bool)(o:Oper)(st:St)(K:St→Prop):Prop :=
 match dr with
 |true=>F5 cx true o st fun v h=>K (st.put o.dst v h)
 |false=>uS cx o (jw cx o st) fun Ek=>F5 cx false o Ek fun v h=>K (Ek.put o.dst v h)
def Ht(cx:Cx)(dr:Bool)(all:List Oper)(o:Oper)(st:St)(K:St→Prop):Prop :=
 match o.guard with
 |none=>fE cx dr o st K
 |some (j,want)=>match Kx all j with
  |none=>False
  |some d=>match st.t d,want with
   |.v (.bool true),true=>fE cx dr o st K
   |.v (.bool false),false=>fE cx dr o st K
   |.v (.bool true),false=>K (st.put o.dst (.v undef) st.h)
   |.v (.bool false),true=>K (st.put o.dst (.v undef) st.h)
   |.v (.tuple _),_=>K (st.put o.dst (.v undef) st.h)
   |_,_=>False
def TW(o o2:Oper):Bool :=
 match o2.op with
 |.call c=>match c.callee with
  |.builtin .clear=>match o.op with
   |.slice ty _ (some _) none none=>match o.dst,o2.dst,c.args.toList,c.argTypes.toList,o.guard,o2.guard with
    |some d,none,[.tmp d'],[ty'],none,none=>Nat.beq d d'&&Nat.beq ty ty'
    |_,_,_,_,_,_=>false
   |_=>false
  |_=>false
 |_=>false
def rt(d:Nat)(st:St)(r i sz:Nat)(es:List (List AV))(z:List Value)(K:St→Prop):Prop :=
 match z.all Value.oneCell' with
 |true=>K ⟨Hq st.t d .junk,A2 st.h r (.arr sz (es.take i++List.replicate (es.length-i) (z.map AV.v)))⟩
 |false=>False
def cI(cx:Cx)(o:Oper)(st:St)(K:St→Prop):Prop :=
 match o.op with
 |.slice ty x (some lo) none none=>match o.dst with
  |some d=>match(cx.T ty).d with
   |.slice e=>match ev st.t x with
    |.msl r n=>match ev st.t lo with
     |.v (.int .i64 i)=>match st.h r with
      |.arr sz es=>match Nat.beq sz (cx.T e).size with
       |true=>match(cx.T e).size with
        |0=>False
        |_+1=>match Nat.beq (cx.T e).zc.length sz with
         |true=>(n=es.length∧0≤i∧i≤es.length)∧rt d st r i.toNat sz es (cx.T e).zc K
         |false=>False
       |false=>False
      |_=>False
     |_=>False
    |_=>False
   |_=>False
  |none=>False
 |_=>False
def UM(cx:Cx)(all l:List Oper)(st:St)(K:St→Prop):Prop :=
 match l with
 | []=>K st
 | [o]=>Ht cx false all o st K
 |o::o2::r=>match TW o o2 with
  |true=>cI cx o st fun Ek=>UM cx all r Ek K
  |false=>Ht cx false all o st fun Ek=>UM cx all (o2::r) Ek K
def UT:AV→List Nat
 |.ref r _=>[r]
 |.mref r=>[r]
 |_=>[]
def lK:List AV→List Nat
 | []=>[]
 |a::r=>UT a++lK r
def UU:AV→List Nat
 |.agg cs=>lK cs
 |.clo _ cs=>lK cs
 |a=>UT a
def pp:List AV→List Nat
 | []=>[]
 |a::r=>UU a++pp r
def Xp:AV→List Nat
 |.agg cs=>pp cs
 |a=>UU a
def TN:List AV→List Nat
 | []=>[]
 |a::r=>Xp a++TN r
abbrev FI:=List Nat×Option Nat
def IS(d:Option Nat)(l:List Nat):Option FI:=match d with | some d=>some (d::l,some d) | none=>none
def dz:AV→List Nat
 |.msl r _=>[r]
 |_=>[]
def WH(cx:Cx)(d:Option Nat)(s x:AV):Option FI :=
 match s with
 |.v (.slice none 0 0)=>IS (d.map (KQ cx)) (dz x)
 |.slice (.full _) _=>IS (d.map (KQ cx)) (dz x)
 |.slice (.id r _) _=>IS (some r) (dz x)
 |.msl r _=>IS (some r) (dz x)
 |_=>none
def bc(d:Option Nat)(args:List AV):Option FI :=
 match d with
 |some d=>match args with
  |.msl r _::_=>some ([r,BB d 0],some (r+10000000*BB d 0))
  |_=>none
 |none=>none
theorem ZK{d:Option Nat}{args:List AV}{f:FI}(h:bc d args=some f):∃d' r n l,d=some d'∧args=.msl r n::l∧f=([r,BB d' 0],some (r+10000000*BB d' 0)):=by
 unfold bc at h;split at h
 ·split at h
  ·cases h;exact⟨_,_,_,_,rfl,rfl,rfl⟩
  ·cases h
 ·cases h
def gv(d:Option Nat)(x:AV):Option FI :=
 match d with
 |some d=>match x with
  |.msl r _=>some ([r,d],some (r+10000000*d))
  |_=>none
 |none=>none
theorem ZL{d:Option Nat}{x:AV}{f:FI}(h:gv d x=some f):∃d' r n,d=some d'∧x=.msl r n∧f=([r,d'],some (r+10000000*d')):=by
 unfold gv at h;split at h
 ·split at h
  ·cases h;exact⟨_,_,_,rfl,rfl,rfl⟩
  ·cases h
 ·cases h
def gw(args:List AV):Option FI:=match Wb args with | some _=>some ([1000,1001],some 10010001000) | none=>none
def Wr:Nat:=99999999999999
def gu(k:Nat)(d:Option Nat)(args:List AV):Option FI :=
 match Nat.beq k 3 with
 |true=>some (ld,some Wr)
 |false=>bc d args
def G9(cx:Cx)(d:Option Nat)(c:Callee)(t:Nat→AV)(args:List AV):Option FI :=
 match c,args with
 |.builtin .len,[.mref r]=>some ([r],none)
 |.builtin .len,[_]=>some ([],none)
 |.builtin .max,_=>some ([],none)
 |.builtin .min,_=>some ([],none)
 |.builtin .append,[s,x]=>WH cx d s x
 |.value f,args=>match N2 cx.pl.dc d with
  |none=>some (Xp (ev t f)++TN args,none)
  |some 0=>IS (d.map fun d=>BB d 0) (Xp (ev t f)++TN args)
  |some 1=>match args with |.msl r _::_=>some ([r],some r) |_=>none
  |some (k+2)=>match Nat.beq k 1 with
   |true=>IS (d.map fun d=>BB d 0) (Xp (ev t f)++TN args)
   |false=>match Nat.beq k 2 with
    |true=>gw args
    |false=>gu k d args
 |_,_=>none
def Fv(cx:Cx)(o:Oper)(st:St):Option FI :=
 match o.op with
 |.move _ |.pick .. |.nilCheck _ |.unOp .. |.convert .. |.fieldAddr .. |.field .. |.indexAddr .. |.index .. |.extract .. |.build ..=>some ([],none)
 |.binOp _ _ x _ _=>match ev st.t x with |.slice ..=>none |_=>some ([],none)
 |.assign x=>match ev st.t x with |.v (.slice ..)=>none |_=>some ([],none)
 |.load _ p=>match ev st.t p with |.cptr _=>some ([],none) |.ref r _=>some ([r],none) |.eref r ..=>some ([r],none) |_=>none
 |.call c=>G9 cx o.dst c.callee st.t (c.args.toList.map (ev st.t))
 |.alloc _=>IS o.dst []
 |.box _ x=>IS o.dst (Xp (ev st.t x))
 |.buildSlice _ _ ps=>IS (o.dst.map (KQ cx)) (TN (ps.toList.map fun p=>ev st.t p.2))
 |.store _ p x=>match ev st.t p with
  |.ref r _=>match I5 cx.pl.frz r with |true=>none |false=>IS (some r) []
  |.eref r ..=>IS (some r) (Xp (ev st.t x))
  |_=>none
 |.slice _ x _ _ mx=>match N2 cx.pl.tok o.dst with
  |some _=>gv (o.dst.map (KQ cx)) (ev st.t x)
  |none=>match mx,ev st.t x with
   |none,.msl ..=>none
   |none,_=>some ([],none)
   |some _,.slice ..=>IS o.dst []
   |_,_=>none
 |.makeFunc _ _ cap=>some (TN (cap.toList.map (ev st.t)),none)
 |.mapUpdate _ m _ x=>match ev st.t m with |.mref r=>IS (some r) (Xp (ev st.t x)) |_=>none
 |.makeSlice ..=>IS (o.dst.map (KQ cx)) []
 |.lookup _ m _ _=>match ev st.t m with |.cmap ..=>some ([],none) |.mref r=>some ([r],none) |_=>none
 |.makeMap ..=>IS o.dst []
 |_=>none
def NM(cx:Cx)(all:List Oper)(o:Oper)(st:St):Option FI :=
 match o.guard with
 |none=>Fv cx o st
 |some (j,want)=>match Kx all j with
  |none=>none
  |some d=>match st.t d,want with
   |.v (.bool true),true=>Fv cx o st
   |.v (.bool false),false=>Fv cx o st
   |_,_=>some ([],none)
def sP(l:List Nat):Bool:=match l with | []=>true | _=>false
def YQ(l:List Nat)(r:Nat):Bool:=bif Nat.beq r Wr then sP l else !I5 l r&&(Nat.blt r 10000000||(!I5 l (r % 10000000)&&!I5 l (r / 10000000)))
def Tf(a b:FI):Bool :=
 (match a.2 with | some r=>YQ b.1 r | none=>true)&&(match b.2 with | some r=>YQ a.1 r | none=>true)
def Pu(o:Oper)(i:Nat)(D:List Nat):Bool:=o.after.toList.any fun e=>Region.binds .any e&&(Nat.beq e.on i||I5 D e.on)
def Qp(i:Nat)(D:List Nat)(k:Nat):List Oper→List Nat
 | []=>D
 |o::r=>match Pu o i D with
  |true=>Qp i (k::D) (k+1) r
  |false=>Qp i D (k+1) r
def Uw(i:Nat)(D:List Nat)(k:Nat):List Oper→Bool
 | []=>true
 |o::r=>(Pu o i D||!I5 D k)&&Uw i D (k+1) r
def IN(ops:Array Oper)(oi:Oper)(fi:FI)(D:List Nat)(k:Nat):List Oper→List FI→Bool
 |o::r,f::fs=>(I5 D k||(oi.apart ops o&&Tf fi f))&&IN ops oi fi D (k+1) r fs
 | [],[]=>true
 |_,_=>false
def Mm(ops:Array Oper)(all:List Oper)(k:Nat):List Oper→List FI→Bool
 |o::r,f::fs =>
  let D:=Qp k [] 0 all
  (o.after.toList.all fun e=>!Region.binds .any e||Nat.blt e.on k)&&Uw k D 0 all&&(D.all fun j=>Nat.blt k j&&Nat.blt j all.length)&&IN ops o f D (k+1) r fs&&Mm ops all (k+1) r fs
 | [],[]=>true
 |_,_=>false
def Tg(ops:Array Oper)(fs:List FI):Bool:=Region.noSelect ops&&Mm ops ops.toList 0 ops.toList fs
def XB(cx:Cx)(ops:Array Oper)(l:List Oper)(fs:List FI)(st:St)(K:St→Prop):Prop :=
 match l with
 | []=>Tg ops fs.reverse=true∧K st
 |o::r=>match NM cx ops.toList o st with
  |some f=>Ht cx true ops.toList o st fun Ek=>XB cx ops r (f::fs) Ek K
  |none=>False
def Tj(l:List (Nat×AV))(i:Nat):AV:=match l with | []=>.junk | (j,v)::r=>bif Nat.beq i j then v else Tj r i
structure LS where
 t:List (Nat×AV)
 h:List (Nat×HO)
 hb:Nat→HO
def LS.st(s:LS):St:=⟨Tj s.t,Ap s.h s.hb⟩
def Sd(h:Nat→HO)(r:Nat):Bool:=match h r with | .free=>false | _=>true
def ids0(h:Nat→HO):AV→Bool
 |.slice (.id r _) _=>Sd h r
 |.slice (.ver r _ _) _=>Sd h r
 |.msl r _=>Sd h r
 |.ref r _=>Sd h r
 |.eref r _ _ _ _=>Sd h r
 |.mref r=>Sd h r
 |.agg _ |.tup _ |.clo ..=>false
 |_=>true
def Yp(h:Nat→HO):List AV→Bool
 | []=>true
 |a::r=>match ids0 h a with |true=>Yp h r |false=>false
def UV(h:Nat→HO):AV→Bool
 |.agg cs=>Yp h cs
 |.tup cs=>Yp h cs
 |.clo _ cs=>Yp h cs
 |a=>ids0 h a
def RD(h:Nat→HO):List (Value×AV)→Bool
 | []=>true
 |p::r=>match UV h p.2 with |true=>RD h r |false=>false
def lL(h:Nat→HO):List AV→Bool
 | []=>true
 |a::r=>match UV h a with |true=>lL h r |false=>false
def Yo(h:Nat→HO):HO→Bool
 |.cells cs=>lL h cs
 |.mapU _ B7=>RD h B7
 |.hol _ _ _ _ a=>UV h a
 |_=>true
def xC(st:St)(h:Nat→HO):List (Nat×AV)→Prop
 | []=>True
 |(j,a)::r=>(st.t j=a∧UV h a=true)∧xC st h r
def xB(st:St)(h:Nat→HO):List (Nat×HO)→Prop
 | []=>True
 |(j,o)::r=>(st.h j=o∧Yo h o=true)∧xB st h r
def St.le(cx:Cx)(st:St)(s:LS):Prop :=
 xC st s.st.h s.t∧xB st s.st.h s.h∧(∀j,s.hb j=.free∨(st.h j=s.hb j∧Yo s.st.h (s.hb j)=true)) ∧
 match cx.ext with
 |false=>True
 |true=>∀j,1000≤j→j<2000→st.h j≠.free→s.st.h j≠.free
def MY(cx:Cx)(ops:Array Oper)(dr:Bool)(st:St)(K:St→Prop):Prop :=
 match dr with
 |false=>UM cx ops.toList ops.toList st K
 |true=>XB cx ops ops.toList [] st K
inductive Ex | normal | exit (id:Nat) | ret
def uV(h:Nat→HO)(o k:Nat)(K:(Nat→HO)→Prop):Prop :=
 match h o with
 |.cells cs=>match Jp cs k with
  |.msl r n=>match h r with
   |.arr sz es=>n=es.length∧K (A2 (A2 h r (.tok sz es.length)) o (.cells (EM cs k (.slice (.id r sz) es))))
   |_=>K h
  |_=>K h
 |_=>K h
def uT(h:Nat→HO)(o k j:Nat)(K:(Nat→HO)→Prop):Prop :=
 match h o with
 |.cells cs=>match Jp cs k with
  |.msl r n=>match h r with
   |.arr sz es=>match h j with
    |.free=>n=es.length∧K (A2 (A2 (A2 h r .dead) j (.arr sz es)) o (.cells (EM cs k (.msl j n))))
    |_=>False
   |_=>False
  |_=>False
 |_=>False
def yV(h:Nat→HO)(o k d:Nat)(K:(Nat→HO)→Prop):Prop :=
 match h o with
 |.cells cs=>match Jp cs k with
  |.slice (.ver r sz v) es=>match h r with
   |.var GL v' _=>match h d with
    |.free=>(v=v'∧sz=GL)∧K (A2 (A2 (A2 h r (.vox v)) d (.tok sz es.length)) o (.cells (EM cs k (.slice (.id d sz) es))))
    |_=>False
   |_=>False
  |_=>K h
 |_=>False
def uI(h:Nat→HO)(o k r:Nat)(K:(Nat→HO)→Prop):Prop :=
 match h o with
 |.cells cs=>match Jp cs k with
  |.slice (.id d sz) es=>match h d with
   |.tok GL n=>match h r with
    |.vox v=>(es.length=n∧sz=GL)∧K (A2 (A2 (A2 h d .dead) r (.var sz (v+1) n)) o (.cells (EM cs k (.slice (.ver r sz (v+1)) es))))
    |_=>False
   |_=>False
  |_=>K h
 |_=>False
def xD(h:Nat→HO)(r:Nat)(K:(Nat→HO)→Prop):Prop :=
 match h r with
 |.free=>K (A2 h r (.vox 0))
 |_=>False
def uH(h:Nat→HO)(o k:Nat)(K:(Nat→HO)→Prop):Prop :=
 match h o with
 |.cells cs=>match Jp cs k with
  |.mref r=>match h r with
   |.rom sh B7=>K (A2 h o (.cells (EM cs k (.cmap sh B7))))
   |_=>False
  |_=>False
 |_=>False
def yW(h:Nat→HO)(o k j sz:Nat)(K:(Nat→HO)→Prop):Prop :=
 match h o with
 |.cells cs=>match Jp cs k with
  |.v (.slice none 0 0)=>match h j with
   |.free=>K (A2 (A2 h j (.arr sz [])) o (.cells (EM cs k (.msl j 0))))
   |_=>False
  |_=>False
 |_=>False
def wd(cx:Cx)(id:Nat)(h:Nat→HO)(K:(Nat→HO)→Prop):Prop :=
 match GU cx.pl.ak (850000+id)with
 |some v=>K (gz h v)
 |none=>K h
def uG(cx:Cx)(id:Nat)(h:Nat→HO)(K:(Nat→HO)→Prop):Prop :=
 match GU cx.pl.ak (800000+id)with
 |some v=>uH h (v % 10000) (v / 10000 % 100) K
 |none=>K h
def tj(cx:Cx)(id:Nat)(h:Nat→HO)(K:(Nat→HO)→Prop):Prop :=
 match GU cx.pl.ak (810000+id)with
 |some v=>uH h (v % 10000) (v / 10000 % 100) K
 |none=>K h
def qH(cx:Cx)(id:Nat)(h:Nat→HO)(K:(Nat→HO)→Prop):Prop :=
 match GU cx.pl.ak (900000+id)with
 |some v=>yW h (v % 10000) (v / 10000 % 100) (v / 1000000 % 10000) (v / 10000000000) K
 |none=>K h
def w8(h:Nat→HO)(r:Nat)(K:(Nat→HO)→Prop):Prop :=
 match h r with
 |.hol sz es i c (.msl j m)=>match Nat.beq r j with
  |true=>False
  |false=>match h j with
   |.arr bZ qs=>m=qs.length∧∃cs,es[i]?=some cs∧c<sz∧K (A2 (A2 (A2 h j (.tok bZ qs.length)) j .dead) r (.arr sz (es.set i (over cs c [.slice .none qs]))))
   |_=>False
 |_=>False
def p5(cx:Cx)(id:Nat)(h:Nat→HO)(K:(Nat→HO)→Prop):Prop :=
 match GU cx.pl.ak (500000+id)with
 |some v=>yV h (v % 10000) (v / 10000 % 100) (v / 1000000) K
 |none=>match GU cx.pl.ak (600000+id)with
  |some v=>uI h (v % 10000) (v / 10000 % 100) (v / 1000000) K
  |none=>match GU cx.pl.ak (700000+id)with
   |some v=>xD h v K
   |none=>match GU cx.pl.ak (950000+id)with
    |some v=>w8 h v K
    |none=>wd cx id h fun h=>uG cx id h fun h=>tj cx id h fun h=>qH cx id h K
def uU(st:St)(s k:Nat)(K:St→Prop):Prop :=
 match st.t s with
 |.msl r n=>match st.h r with
  |.arr sz es=>match k with
   |0=>n=es.length∧K ⟨Hq st.t s (.slice .none es),A2 (A2 st.h r (.tok sz es.length)) r .dead⟩
   |k+1=>match Nat.beq r (k+1)with
    |true=>K st
    |false=>match st.h (k+1)with
     |.free=>n=es.length∧K ⟨Hq st.t s (.msl (k+1) n),A2 (A2 st.h r .dead) (k+1) (.arr sz es)⟩
     |_=>False
  |_=>K st
 |_=>K st
def ru(cx:Cx)(id:Nat)(st:St)(K:St→Prop):Prop :=
 match I5 cx.pl.cut id with
 |true=>match GU cx.pl.ak (100000+id)with
  |none=>match GU cx.pl.ak (200000+id)with
   |none=>match GU cx.pl.ak (300000+id)with
    |none=>p5 cx id st.h fun h'=>∃s:LS,St.le cx ⟨st.t,h'⟩ s∧K s.st
    |some v=>uT st.h (v % 10000) (v / 10000 % 100) (v / 1000000) fun h'=>∃s:LS,St.le cx ⟨st.t,h'⟩ s∧K s.st
   |some v=>uU st (v % 1000) (v / 1000) fun Ek=>∃s:LS,St.le cx Ek s∧K s.st
  |some v=>uV st.h (v % 1000) (v / 1000) fun h'=>∃s:LS,St.le cx ⟨st.t,h'⟩ s∧K s.st
 |false=>K st
def RW(cx:Cx)(c:Code)(Q:Ex→St→Prop)(st:St):Prop :=
 match c with
 |.skip=>Q .normal st
 |.label _=>Q .normal st
 |.region id ops dr=>ru cx id st fun st=>match cx.pl.dyn with
  | []=>MY cx ops dr st (Q .normal)
  |_=>∃n,MY { cx with nid:=n } ops dr st (Q .normal)
 |.seq a b=>RW cx a (fun e Ek=>match e with |.normal=>RW cx b Q Ek |e=>Q e Ek) st
 |.cond c a b=>match ev st.t c with
  |.v (.bool true)=>RW cx a Q st
  |.v (.bool false)=>RW cx b Q st
  |_=>False
 |.block id c=>RW cx c (fun e Ek=>match e with |.exit j=>(bif Nat.beq j id then Q .normal Ek else Q (.exit j) Ek) |e=>Q e Ek) st
 |.loop c=>∃(α:Type) (I:α→LS) (μ:α→Nat),(∃x,St.le cx st (I x)) ∧
   ∀x,RW cx c (fun e Ek=>match e with | .normal=>∃y,μ y<μ x∧St.le cx Ek (I y) | e=>Q e Ek) (I x).st
 |.exit id=>Q (.exit id) st
 |.ret=>Q .ret st
 |_=>False
def Pd:List AV→Nat→AV
 | [],_=>.v undef
 |a::r,n=>match n with |0=>a |n+1=>Pd r n
def ml(T:GN)(st:St):List ResultVar→(List AV→Prop)→Prop
 | [],K=>K []
 |.tmp i::r,K=>ml T st r fun l=>K (str st.h (st.t i)::l)
 |.cell a t::r,K=>Iz T st.h t (st.t a) fun v=>ml T st r fun l=>K (str st.h v::l)
def mi(cx:Cx)(st:St)(rs:List ResultVar)(K:AV→Prop):Prop :=
 ml cx.T ⟨st.t,Pr st.h cx.pl.fin⟩ rs fun
  | [v]=>K v
  |vs=>K (.tup vs)
def oG(cx:Cx)(rs:List ResultVar)(K:AV→Prop)(e:Ex)(st:St):Prop :=
 match e with
 |.normal=>mi cx st rs K
 |.ret=>mi cx st rs K
 |.exit _=>False
def mn(T:GN)(st:St):List ResultVar→(List AV→Prop)→Prop
 | [],K=>K []
 |.tmp i::r,K=>mn T st r fun l=>K (st.t i::l)
 |.cell a t::r,K=>Iz T st.h t (st.t a) fun v=>mn T st r fun l=>K (v::l)
def dP(cx:Cx)(st:St)(rs:List ResultVar)(σ:Ji)(Q:AV→(Nat→HO)→Prop):Prop :=
 mn cx.T ⟨st.t,Pr st.h cx.pl.fin⟩ rs fun
  | [v]=>Q (ren (CB σ) (Pr st.h cx.pl.fin) v) (FO σ (Pr st.h cx.pl.fin))
  |vs=>Q (ren (CB σ) (Pr st.h cx.pl.fin) (.tup vs)) (FO σ (Pr st.h cx.pl.fin))
def XT(cx:Cx)(rs:List ResultVar)(σ:Ji)(Q:AV→(Nat→HO)→Prop)(e:Ex)(st:St):Prop :=
 match e with
 |.normal=>dP cx st rs σ Q
 |.ret=>dP cx st rs σ Q
 |.exit _=>False
def IR(σ:Ji):List (Nat×HO)→Bool
 | []=>true
 |(i,_)::r=>Nat.ble 1000 i&&Nat.blt i 2000&&(match CB σ i with |some j=>Nat.beq j i |none=>false)&&IR σ r
end Go.Eng
