/- Lemmas for the claims of this seat, without a condition: part 5 (EngA). -/
import Derived.Test.YtmcbkdbfaneofaaGreatDoorA00
import Derived.WalkKit
import Derived.Still
import Derived.RangeFuncSeq
import Derived.OrdersIn
import Derived.TacticsIn
namespace Go.Eng
inductive Tk | none | full (sz:Nat) | id (r sz:Nat) | ver (r sz v:Nat)
inductive KS | int (k:IntKind) | str | bool
structure EX where
 agg:Bool
 l:List KS
inductive AV
 |v (x:Value)
 |slice (tk:Tk) (es:List (List AV))
 |msl (r n:Nat)
 |agg (cs:List AV)
 |tup (vs:List AV)
 |cptr (cs:List AV)
 |ref (r off:Nat)
 |eref (r n sz i off:Nat)
 |mref (r:Nat)
 |cmap (sh:EX) (Ca:List (Value×AV))
 |clo (f:Nat) (caps:List AV)
 |junk
inductive HO
 |free
 |dead
 |cells (cs:List AV)
 |ro (cs:List AV)
 |tok (sz n:Nat)
 |var (sz v n:Nat)
 |vox (v:Nat)
 |arr (sz:Nat) (es:List (List AV))
 |map (sh:EX) (Ca:List (Value×AV))
 |mapU (sh:EX) (Ca:List (Value×AV))
 |rom (sh:EX) (Ca:List (Value×AV))
 |iter (all rem:List (Value×AV)) (FV:Option (Value×AV))
 |raw (b:Nat) (ob:Obj)
 |hol (sz:Nat) (es:List (List AV)) (i c:Nat) (a:AV)
structure St where
 t:Nat→AV
 h:Nat→HO
def Aa:Nat→HO:=fun _=>.free
def A2(h:Nat→HO)(r:Nat)(o:HO):Nat→HO:=fun i=>bif Nat.beq i r then o else h i
def Hu(t:Nat→AV)(d:Nat)(v:AV):Nat→AV:=fun i=>bif Nat.beq i d then v else t i
def St.put(st:St)(d:Option Nat)(v:AV)(h:Nat→HO):St :=
 match d with
 |none=>⟨st.t,h⟩
 |some d=>⟨Hu st.t d v,h⟩
def ev(t:Nat→AV):Operand→AV
 |.tmp i=>t i
 |.const v=>.v v
 |.global g=>.v (.pointer (some ⟨g,0,none⟩))
 |.func f=>.v (.func (.func f) #[] #[])
inductive TD
 |int (k:IntKind) |bool |string |slice (e:Nat) |array (n e:Nat) |struct (fs:List (Nat×Nat)) |ptr (e:Nat) |map (k e:Nat) |func |iface |other
structure TI where
 d:TD
 size:Nat
 bytes:Nat
 zero:Value
 eqok:Bool
def TI.zc(i:TI):List Value:=match i.zero with | .agg cs=>cs.toList | v=>[v]
abbrev GS:=Nat→TI
structure Sj where
 frz:List Nat
 tok:List (Nat×Nat)
 arr:List (Nat×Nat)
 fz:List (Nat×List Nat)
 fin:List Nat
 mku:List Nat
 dyn:List Nat
 tz:List (Nat×(Nat×Nat×Nat×Nat))
 dc:List (Nat×Nat)
 ak:List (Nat×Nat)
 cut:List Nat
def I5(l:List Nat)(n:Nat):Bool :=
 match l with
 | []=>false
 |x::r=>bif Nat.beq x n then true else I5 r n
def GZ(l:List (Nat×Nat))(n:Nat):Option Nat :=
 match l with
 | []=>none
 |(x,y)::r=>bif Nat.beq x n then some y else GZ r n
def str0(h:Nat→HO):AV→AV
 |.slice _ es=>.slice .none es
 |.ref r off=>match h r with |.ro cs=>.cptr (cs.drop off) |_=>.junk
 |.mref r=>match h r with |.rom sh Ca=>.cmap sh Ca |_=>.junk
 |.v x=>.v x
 |.cptr cs=>.cptr cs
 |.cmap s m=>.cmap s m
 |_=>.junk
def str(h:Nat→HO):AV→AV
 |.agg cs=>.agg (cs.map (str0 h))
 |.clo f cs=>.clo f (cs.map (str0 h))
 |a=>str0 h a
def Sg(h:Nat→HO)(Ca:List (Value×AV)):List (Value×AV):=Ca.map fun p=>(p.1,str h p.2)
def gK(h:Nat→HO)(r:Nat):Nat→HO :=
 match h r with
 |.cells cs=>A2 h r (.ro (cs.map (str h)))
 |.map sh Ca=>A2 h r (.rom sh Ca)
 |.mapU sh Ca=>A2 h r (.rom sh (Sg h Ca))
 |_=>h
def Po(h:Nat→HO):List Nat→Nat→HO
 | []=>h
 |r::l=>Po (gK h r) l
def oc(l:List (Nat×List Nat))(n:Nat):List Nat :=
 match l with
 | []=>[]
 |(x,y)::r=>bif Nat.beq x n then y else oc r n
def qT(l:List (Nat×(Nat×Nat×Nat×Nat)))(n:Nat):Option (Nat×Nat×Nat×Nat) :=
 match l with
 | []=>none
 |(x,y)::r=>bif Nat.beq x n then some y else qT r n
def Jq(l:List AV)(n:Nat):AV :=
 match l with
 | []=>.junk
 |x::r=>match n with |0=>x |n+1=>Jq r n
def EO(cs:List AV)(o:Nat)(v:AV):List AV :=
 match cs with
 | []=>[]
 |c::cs=>match o with |0=>v::cs |o+1=>c::EO cs o v
def uX(h:Nat→HO)(r k j sz:Nat):Nat→HO :=
 match h r with
 |.cells cs=>match Jq cs k with
  |.v (.slice none 0 0)=>match h j with
   |.free=>A2 (A2 h j (.tok sz 0)) r (.cells (EO cs k (.slice (.id j sz) [])))
   |_=>h
  |_=>h
 |_=>h
def rsv(h:Nat→HO):AV→AV
 |.ref r off=>match h r with |.ro cs=>.cptr (cs.drop off) |_=>.ref r off
 |.mref r=>match h r with |.rom sh Ca=>.cmap sh Ca |_=>.mref r
 |a=>a
def one:AV→Bool
 |.v x=>x.oneCell'
 |.agg _ |.tup _ |.junk=>false
 |_=>true
def Ho:List AV→Bool
 | []=>true
 |a::r=>match one a with |true=>Ho r |false=>false
def tY:AV→List AV
 |.agg cs=>cs
 |a=>[a]
def Bu(a:Int):Prop:=-9223372036854775808≤a∧a<9223372036854775808
def Mt(cs:List AV)(K:AV→Prop):Prop :=
 match cs with
 |a::_=>K a
 | []=>False
def Jc(p:Prop)(K:AV→Prop):Prop:=(p→K (.v (.bool true)))∧(¬p→K (.v (.bool false)))
def LV(T:GS)(t:Nat)(cs:List AV)(K:AV→Prop):Prop :=
 match(T t).d with
 |.struct _=>(T t).size≤cs.length∧K (.agg (cs.take (T t).size))
 |.array _ _=>(T t).size≤cs.length∧K (.agg (cs.take (T t).size))
 |.bool=>Mt cs fun |.v (.bool b)=>(b=true→K (.v (.bool true)))∧(b=false→K (.v (.bool false))) |_=>False
 |.other=>False
 |_=>Mt cs K
def m5:List AV→List AV→Prop
 | [],[]=>True
 |.v (.int _ a)::r,.v (.int _ b)::s=>a=b∧m5 r s
 |.v (.string a)::r,.v (.string b)::s=>a=b∧m5 r s
 |.v (.bool a)::r,.v (.bool b)::s=>a=b∧m5 r s
 |_,_=>False
def qE:IntKind→IntKind→Bool
 |.i64,.i64 |.u8,.u8 |.u32,.u32 |.i32,.i32 |.u64,.u64 |.u16,.u16 |.i16,.i16 |.i8,.i8=>true
 |_,_=>false
def N5(f:Nat→Option (List KS)):Nat→List (Nat×Nat)→Option (List KS)
 |_,[]=>some []
 |n,(t,o)::r=>match Nat.beq o n with
  |true=>match f t with
   |some a=>match N5 f (n+a.length) r with
    |some b=>some (a++b)
    |none=>none
   |none=>none
  |false=>none
def HX(T:GS):Nat→Nat→Option (List KS)
 |0,_=>none
 |n+1,t=>match(T t).d with
  |.int k=>match(T t).size with |1=>some [.int k] |_=>none
  |.string=>match(T t).size with |1=>some [.str] |_=>none
  |.bool=>match(T t).size with |1=>some [.bool] |_=>none
  |.struct fs=>match(T t).eqok with
   |true=>match N5 (HX T n) 0 fs with
    |some l=>match Nat.beq l.length (T t).size with |true=>some l |false=>none
    |none=>none
   |false=>none
  |_=>none
def NJ:KS→Value→Bool
 |.int k,.int k' _=>qE k k'
 |.str,.string _=>true
 |.bool,.bool _=>true
 |_,_=>false
def YD:List KS→List AV→Bool
 | [],[]=>true
 |k::r,.v x::s=>match NJ k x with |true=>YD r s |false=>false
 |_,_=>false
def qh(T:GS)(t:Nat)(x y:AV)(K:AV→Prop):Prop :=
 match(T t).d with
 |.bool=>match x,y with
  |.v (.bool a),.v (.bool b)=>K (.v (.bool (a == b)))
  |_,_=>False
 |.struct _=>match x,y with
  |.agg xs,.agg ys=>match HX T 8 t with
   |some l=>match YD l xs with
    |true=>match YD l ys with
     |true=>Jc (m5 xs ys) K
     |false=>False
    |false=>False
   |none=>False
  |_,_=>False
 |.slice _=>match x,y with
  |.slice _ es,.v (.slice none 0 0)=>(es≠[]→K (.v (.bool false)))∧(es=[]→K (.v (.bool true))∧K (.v (.bool false)))
  |.v (.slice none 0 0),.v (.slice none 0 0)=>K (.v (.bool true))
  |_,_=>False
 |.ptr _=>match x,y with
  |.v (.pointer none),.v (.pointer none)=>K (.v (.bool true))
  |.cptr _,.v (.pointer none)=>K (.v (.bool false))
  |.ref _ _,.v (.pointer none)=>K (.v (.bool false))
  |.eref _ _ _ _ _,.v (.pointer none)=>K (.v (.bool false))
  |_,_=>False
 |_=>False
def dQ(K:AV→Prop):AV→Prop
 |.v (.bool true)=>K (.v (.bool false))
 |.v (.bool false)=>K (.v (.bool true))
 |_=>False
def ZA(op:BinOp)(k:IntKind)(a b:Int)(K:AV→Prop):Prop :=
 match op with
 |.add=>K (.v (.int k (k.wrap (a+b))))
 |.sub=>K (.v (.int k (k.wrap (a-b))))
 |.mul=>K (.v (.int k (k.wrap (a*b))))
 |_=>False
def ST(op:BinOp)(k:IntKind)(a b:Int)(K:AV→Prop):Prop :=
 match k with
 |.i64=>match op with
  |.add=>Bu (a+b)∧K (.v (.int .i64 (a+b)))
  |.sub=>Bu (a-b)∧K (.v (.int .i64 (a-b)))
  |.mul=>Bu (a*b)∧K (.v (.int .i64 (a*b)))
  |.quo=>(0≤a∧0<b∧Bu a)∧K (.v (.int .i64 (a / b)))
  |.rem=>(0≤a∧0<b)∧K (.v (.int .i64 (a % b)))
  |_=>False
 |k=>ZA op k a b K
def SW(T:GS)(op:BinOp)(t:Nat)(x y:AV)(K:AV→Prop):Prop :=
 match x,y with
 |.v (.int k a),.v (.int k' b)=>match qE k k' with
  |false=>False
  |true=>match op with
   |.eql=>Jc (a=b) K
   |.neq=>Jc (a≠b) K
   |.lss=>Jc (a<b) K
   |.leq=>Jc (a≤b) K
   |.gtr=>Jc (b<a) K
   |.geq=>Jc (b≤a) K
   |op=>ST op k a b K
 |.v (.string a),.v (.string b)=>match op with
   |.eql=>Jc (a=b) K
   |.neq=>Jc (a≠b) K
   |.lss=>Jc (Op.bytesLess a.toList b.toList=true) K
   |.geq=>Jc (Op.bytesLess a.toList b.toList=false) K
   |.gtr=>Jc (Op.bytesLess b.toList a.toList=true) K
   |.leq=>Jc (Op.bytesLess b.toList a.toList=false) K
   |.add=>((a.size+b.size:Nat):Int)≤9223372036854775807∧K (.v (.string (a++b)))
   |_=>False
 |x,y=>match op with
  |.eql=>qh T t x y K
  |.neq=>qh T t x y (dQ K)
  |_=>False
def XL(T:GS)(op:BinOp)(t:Nat)(Y:Operand)(x y:AV)(K:AV→Prop):Prop :=
 match Y with
 |.const .nilIface=>match x with
  |.v .nilIface=>match(T t).d with
   |.iface=>match op with
    |.eql=>K (.v (.bool true))
    |.neq=>K (.v (.bool false))
    |_=>False
   |_=>False
  |_=>False
 |_=>SW T op t x y K
def XR(T:GS)(s t:Nat)(x:AV)(K:AV→Prop):Prop :=
 match(T s).d,(T t).d,x with
 |.int _,.int .i64,.v (.int _ n)=>Bu n∧K (.v (.int .i64 n))
 |.int _,.int k,.v (.int _ n)=>K (.v (.int k (k.wrap n)))
 |.string,.string,.v (.string s)=>K (.v (.string s))
 |.slice e,.string,.slice _ es=>match(T e).d with
  |.int .u8=>∃l:List UInt8,es=l.map (fun b=>[AV.v (.int .u8 b.toNat)])∧K (.v (.string ⟨l.toArray⟩))
  |_=>False
 |_,_,_=>False
def WO(fs:List (Nat×Nat))(n:Nat):Option (Nat×Nat) :=
 match fs with
 | []=>none
 |x::r=>match n with |0=>some x |n+1=>WO r n
def Tp(T:GS)(s f:Nat)(x:AV)(K:AV→Prop):Prop :=
 match(T s).d with
 |.struct fs=>match WO fs f with
  |some (t,o)=>match(T t).size with
   |0=>False
   |_+1=>match x with
    |.cptr cs=>K (.cptr (cs.drop o))
    |.ref r off=>K (.ref r (off+o))
    |.eref r n z i off=>K (.eref r n z i (off+o))
    |_=>False
  |none=>False
 |_=>False
def Y6(T:GS)(t:Nat)(cs:List AV)(K:AV→Prop):Prop:=LV T t cs K
def Pe(T:GS)(s f:Nat)(x:AV)(K:AV→Prop):Prop :=
 match(T s).d,x with
 |.struct fs,.agg cs=>match WO fs f with
  |some (t,o)=>Y6 T t (cs.drop o) K
  |none=>False
 |_,_=>False
def JO(T:GS)(t:Nat)(x ix:AV)(K:AV→Prop):Prop :=
 match(T t).d,ix with
 |.slice e,.v (.int .i64 i)=>match(T e).size with
  |0=>False
  |_+1=>match x with
   |.slice _ es=>∃cs,(0≤i∧es[i.toNat]?=some cs)∧cs.length=(T e).size∧K (.cptr cs)
   |.msl r n=>(0≤i∧i<n)∧K (.eref r n (T e).size i.toNat 0)
   |_=>False
 |.array n e,.v (.int .i64 i)=>match(T e).size with
  |0=>False
  |_+1=>match x with
   |.cptr cs=>(0≤i∧i<n)∧K (.cptr (cs.drop (i.toNat*(T e).size)))
   |.ref r off=>(0≤i∧i<n)∧K (.ref r (off+i.toNat*(T e).size))
   |_=>False
 |_,_=>False
def TR(T:GS)(t:Nat)(x ix:AV)(K:AV→Prop):Prop :=
 match(T t).d,x,ix with
 |.string,.v (.string s),.v (.int .i64 i)=>∃b:UInt8,(0≤i∧s.data[i.toNat]?=some b)∧K (.v (.int .u8 b.toNat))
 |.array n e,.agg cs,.v (.int .i64 i)=>(0≤i∧i<n)∧Y6 T e (cs.drop (i.toNat*(T e).size)) K
 |_,_,_=>False
def Ce(t:Nat→AV):Option Operand→Option (Option Int)
 |none=>some none
 |some x=>match ev t x with |.v (.int .i64 i)=>some (some i) |_=>none
def over{α:Type}(cs:List α)(o:Nat)(vs:List α):List α :=
 match cs with
 | []=>[]
 |c::cs=>match o with
  |o+1=>c::over cs o vs
  |0=>match vs with
   | []=>c::cs
   |v::vs=>v::over cs 0 vs
structure Gh where
 ρ:Nat→Value
 ln:Nat→Nat
 tk:Nat→Bool
 own:Nat→Option Nat
 S:Nat→Nat→Prop
def Jw:List KS→List Value→Bool
 | [],[]=>true
 |k::r,v::s=>match NJ k v with |true=>Jw r s |false=>false
 |_,_=>false
def V9(sh:EX)(v:Value):Bool :=
 match sh.agg,v with
 |true,.agg cs=>Jw sh.l cs.toList
 |false,v=>Jw sh.l [v]
 |_,_=>false
def Hw(sh:EX)(es:Array MapEntry)(ck:Nat)(Ca:List (Value×AV)):Prop :=
 es.size=Ca.length∧(∀(i:Nat) (kv:Value×AV) (e:MapEntry),Ca[i]?=some kv→es[i]?=some e→e.key=kv.1) ∧
 (∀kv∈Ca,V9 sh kv.1=true)∧(Ca.map (·.1)).Nodup∧(∀(i:Nat) (e:MapEntry),es[i]?=some e→e.born<ck) ∧
 ∀(i j:Nat) (e e' : MapEntry),es[i]?=some e→es[j]?=some e'→e.born=e'.born→i=j
inductive BS(g:Gh)(w:World):(Nat→Prop)→AV→Value→Prop
 |v (U:Nat→Prop) (x:Value):BS g w U (.v x) x
 |junk (U:Nat→Prop) (x:Value):BS g w U .junk x
 |snil (U:Nat→Prop) (a:Option Addr) (cap:Nat):BS g w U (.slice .none []) (.slice a 0 cap)
 |slice (U:Nat→Prop) (es:List (List AV)) (b off sz cap:Nat) (val:Nat→Nat→Value) (hc:es.length≤cap)
   (hl:∀(i:Nat) (cs:List AV),es[i]?=some cs→cs.length=sz)
   (DN:∀(i:Nat) (cs:List AV) (j:Nat) (av:AV),es[i]?=some cs→cs[j]?=some av →
    g.S b (off+i*sz+j)∧w.cell? ⟨b,off+i*sz+j,none⟩=some (val i j)∧(val i j).oneCell'=true)
   (Er:∀(i:Nat) (cs:List AV) (j:Nat) (av:AV),es[i]?=some cs→cs[j]?=some av→BS g w (fun _=>False) av (val i j)) :
   BS g w U (.slice .none es) (.slice (some ⟨b,off,none⟩) es.length cap)
 |tok (U:Nat→Prop) (r sz:Nat) (es:List (List AV)) (x:Value) (h:BS g w U (.slice .none es) x) (hl:∀c∈es,c.length=sz) (hu:U r) (ht:g.tk r=true) (hn:es.length≤g.ln r)
   (hx:es.length=g.ln r→x=g.ρ r):BS g w U (.slice (.id r sz) es) x
 |ver (U:Nat→Prop) (r sz v:Nat) (es:List (List AV)) (x:Value) (h:BS g w U (.slice .none es) x) (hl:∀c∈es,c.length=sz) (hu:U r) (ht:g.tk r=true) (hn:v≤g.ln r)
   (hx:v=g.ln r→x=g.ρ r):BS g w U (.slice (.ver r sz v) es) x
 |full (U:Nat→Prop) (sz:Nat) (es:List (List AV)) (x:Value) (h:BS g w U (.slice .none es) x) (hl:∀c∈es,c.length=sz) (hx:∃a,x=.slice a es.length es.length):BS g w U (.slice (.full sz) es) x
 |msl (U:Nat→Prop) (r n:Nat) (a:Option Addr) (cap:Nat) (hu:U r) (ht:g.tk r=true) (hn:n≤g.ln r) (ha:n=0∨∃b,a=some ⟨b,0,none⟩) (hx:n=g.ln r→.slice a n cap=g.ρ r) :
   BS g w U (.msl r n) (.slice a n cap)
 |agg (U:Nat→Prop) (cs:List AV) (vs:Array Value) (hs:vs.size=cs.length) (h1:∀(i:Nat) (x:Value),vs[i]?=some x→x.oneCell'=true)
   (h:∀(i:Nat) (av:AV) (x:Value),cs[i]?=some av→vs[i]?=some x→BS g w U av x):BS g w U (.agg cs) (.agg vs)
 |tup (U:Nat→Prop) (cs:List AV) (vs:Array Value) (hs:vs.size=cs.length)
   (h:∀(i:Nat) (av:AV) (x:Value),cs[i]?=some av→vs[i]?=some x→BS g w U av x):BS g w U (.tup cs) (.tuple vs)
 |cptr (U:Nat→Prop) (cs:List AV) (b off:Nat) (val:Nat→Value)
   (DN:∀(j:Nat) (av:AV),cs[j]?=some av→g.S b (off+j)∧w.cell? ⟨b,off+j,none⟩=some (val j)∧(val j).oneCell'=true)
   (Er:∀(j:Nat) (av:AV),cs[j]?=some av→BS g w (fun _=>False) av (val j)) :
   BS g w U (.cptr cs) (.pointer (some ⟨b,off,none⟩))
 |ref (U:Nat→Prop) (r off b:Nat) (hu:U r) (ht:g.tk r=false) (hx:g.ρ r=.pointer (some ⟨b,0,none⟩)):BS g w U (.ref r off) (.pointer (some ⟨b,off,none⟩))
 |eref (U:Nat→Prop) (r n sz i off b cap:Nat) (hu:U r) (ht:g.tk r=true) (hn:i<n∧n≤g.ln r) (hx:n=g.ln r→g.ρ r=.slice (some ⟨b,0,none⟩) n cap) :
   BS g w U (.eref r n sz i off) (.pointer (some ⟨b,i*sz+off,none⟩))
 |mref (U:Nat→Prop) (r b:Nat) (hu:U r) (ht:g.tk r=false) (hx:g.ρ r=.map (some b)):BS g w U (.mref r) (.map (some b))
 |cmap (U:Nat→Prop) (sh:EX) (Ca:List (Value×AV)) (b:Nat) (es:Array MapEntry) (ck:Nat) (hS:g.S b 0) (hb:w.heap[b]?=some (.map es ck)) (hm:Hw sh es ck Ca)
   (h:∀(i:Nat) (kv:Value×AV) (e:MapEntry),Ca[i]?=some kv→es[i]?=some e→BS g w (fun _=>False) kv.2 e.val):BS g w U (.cmap sh Ca) (.map (some b))
 |clo (U:Nat→Prop) (f:Nat) (cs:List AV) (vs:Array Value) (hs:vs.size=cs.length)
   (h:∀(i:Nat) (av:AV) (x:Value),cs[i]?=some av→vs[i]?=some x→BS g w U av x):BS g w U (.clo f cs) (.func (.func f) #[] vs)
def HO.live:HO→Prop
 |.free |.dead |.vox _ |.ro _ |.rom _ _=>False
 |_=>True
def AU(h:Nat→HO)(r:Nat):Prop:=h r≠.free
def FL:Nat→Prop:=fun _=>False
def CP(g:Gh)(w:World)(U:Nat→Prop)(cs:List AV)(vs:List Value):Prop :=
 vs.length=cs.length∧(∀x∈vs,x.oneCell'=true)∧∀(i:Nat) (av:AV) (x:Value),cs[i]?=some av→vs[i]?=some x→BS g w U av x
def OT:List Nat→Code→Bool
 |bs,.block id c=>OT (id::bs) c
 |bs,.seq a b=>OT bs a||OT bs b
 |bs,.cond _ a b=>OT bs a||OT bs b
 |bs,.loop c=>OT bs c
 |bs,.exit id=>!(bs.any fun i=>Nat.beq i id)
 |_,_=>false
def q8:Obj→Bool
 |.loop r=>OT [] r.body
 |_=>false
def Eo(g:Gh)(w:World)(U:Nat→Prop)(r:Nat):HO→Prop
  |.free |.dead=>True
  |.cells cs=>g.tk r=false∧∃b E vs,g.own r=some b∧g.ρ r=.pointer (some ⟨b,0,none⟩)∧w.heap[b]?=some (.cells vs E (0,0))∧CP g w U cs vs.toList∧∀o,¬g.S b o
  |.ro cs=>g.tk r=false∧∃b,g.ρ r=.pointer (some ⟨b,0,none⟩)∧BS g w FL (.cptr cs) (.pointer (some ⟨b,0,none⟩))
  |.tok sz n=>g.tk r=true∧g.ln r=n∧∃a cap,g.ρ r=.slice a n cap∧(n=cap∧g.own r=none ∨
      n≤cap∧∃b E vs off,a=some ⟨b,off,none⟩∧g.own r=some b∧w.heap[b]?=some (.cells vs E (0,0))∧vs.size=off+cap*sz∧∀o,g.S b o→o<off+n*sz)
  |.var sz v n=>g.tk r=true∧g.ln r=v∧∃a cap,g.ρ r=.slice a n cap∧(n=cap∧g.own r=none ∨
      n≤cap∧∃b E vs off,a=some ⟨b,off,none⟩∧g.own r=some b∧w.heap[b]?=some (.cells vs E (0,0))∧vs.size=off+cap*sz∧∀o,g.S b o→o<off+n*sz)
  |.vox v=>g.tk r=true∧g.ln r=v
  |.arr sz es=>g.tk r=true∧g.ln r=es.length∧(∀cs∈es,cs.length=sz)∧(es=[]∧g.ρ r=.slice none 0 0∧g.own r=none ∨
      ∃b cap E vs,g.ρ r=.slice (some ⟨b,0,none⟩) es.length cap∧g.own r=some b∧es.length≤cap∧w.heap[b]?=some (.cells vs E (0,0))∧vs.size=cap*sz ∧
        CP g w FL es.flatten (vs.toList.take (es.length*sz))∧∀o,¬g.S b o)
  |.map sh Ca=>g.tk r=false∧∃b es ck,g.own r=some b∧g.ρ r=.map (some b)∧w.heap[b]?=some (.map es ck)∧Hw sh es ck Ca ∧
      (∀(i:Nat) (kv:Value×AV) (e:MapEntry),Ca[i]?=some kv→es[i]?=some e→BS g w FL kv.2 e.val)∧∀o,¬g.S b o
  |.mapU sh Ca=>g.tk r=false∧∃b es ck,g.own r=some b∧g.ρ r=.map (some b)∧w.heap[b]?=some (.map es ck)∧Hw sh es ck Ca ∧
      (∀(i:Nat) (kv:Value×AV) (e:MapEntry),Ca[i]?=some kv→es[i]?=some e→BS g w U kv.2 e.val)∧∀o,¬g.S b o
  |.rom sh Ca=>g.tk r=false∧∃b,g.ρ r=.map (some b)∧BS g w FL (.cmap sh Ca) (.map (some b))
  |.iter all rem FV=>g.tk r=false∧∃b mb Ko seen st es ck,g.own r=some b∧g.ρ r=.pointer (some ⟨b,0,none⟩)∧w.heap[b]?=some (.mapIter (some mb) Ko seen st) ∧
      g.S mb 0∧w.heap[mb]?=some (.map es ck)∧(∃sh,Hw sh es ck all)∧Ko=ck∧st=ck ∧
      (∀(i:Nat) (kv:Value×AV) (e:MapEntry),all[i]?=some kv→es[i]?=some e→BS g w FL kv.2 e.val) ∧
      (rem.Nodup∧∀kv∈rem,kv∈all)∧(∀(i:Nat) (kv:Value×AV) (e:MapEntry),all[i]?=some kv→es[i]?=some e→(kv∈rem↔e.born∉seen)) ∧
      (match FV with | none=>True | some kv=>∃(i:Nat) (e:MapEntry),all[i]?=some kv∧es[i]?=some e∧seen.back?=some e.born)∧∀o,¬g.S b o
  |.hol sz es i c a=>g.tk r=true∧g.ln r=es.length∧(∀cs∈es,cs.length=sz)∧∃b cap E vs,g.ρ r=.slice (some ⟨b,0,none⟩) es.length cap∧g.own r=some b∧es.length≤cap∧w.heap[b]?=some (.cells vs E (0,0))∧vs.size=cap*sz ∧
        CP g w FL es.flatten (vs.toList.take (es.length*sz))∧(∀o,¬g.S b o)∧i*sz+c<es.length*sz∧∃x,vs[i*sz+c]?=some x∧BS g w U a x
  |.raw b ob=>g.tk r=false∧g.own r=some b∧w.heap[b]?=some ob∧q8 ob=true∧∀o,¬g.S b o
def gB:Nat:=0
def rG:List (Nat×Nat×Option Value):=[]
def Wr(g:Gh)(w:World):Prop:=(g.S gB 0∧∃m,w.cell? ⟨gB,0,none⟩=some (.int .i64 m))∧∀x∈rG,g.S x.1 x.2.1∧w.cell? ⟨x.1,x.2.1,none⟩=x.2.2
structure DQ(w0:World)(g0:Gh)(h0:Nat→HO)(h:Nat→HO)(g:Gh)(w:World):Prop where
 os:w.os=w0.os
 tape:w.tape=w0.tape
 output:w.output=w0.output
 size:w0.heap.size≤w.heap.size
 frame:∀b,b<w0.heap.size→(∀r,(h0 r).live→g0.own r≠some b)→w.heap[b]?=w0.heap[b]?
 slt:∀b o,g.S b o→b<w.heap.size
 objs:∀r,Eo g w (AU h) r (h r)
 inj:∀r r' b,(h r).live→(h r').live→g.own r=some b→g.own r'=some b→r=r'
 loc:∀r b,(h r).live→g.own r=some b→b<w.heap.size∧(w0.heap.size≤b∨∃r',(h0 r').live∧g0.own r'=some b)
 sg:∀b o,g.S b o→g0.S b o∨w0.heap.size≤b∨∃r',(h0 r').live∧g0.own r'=some b
 glob:Wr g w
def Fj(g:Gh)(w:World)(g' : Gh)(w' : World):Prop :=
 ∀b o,g.S b o→g'.S b o∧w'.cell? ⟨b,o,none⟩=w.cell? ⟨b,o,none⟩∧∀es ck,w.heap[b]?=some (.map es ck)→w'.heap[b]?=some (.map es ck)
def Kr(g g' : Gh)(U:Nat→Prop):Prop :=
 ∀i,U i→g'.tk i=g.tk i∧g.ln i≤g'.ln i∧(g.tk i=false→g'.ρ i=g.ρ i)∧(g'.ln i=g.ln i→g'.ρ i=g.ρ i)
structure Le(h:Nat→HO)(g:Gh)(w:World)(h' : Nat→HO)(g' : Gh)(w' : World):Prop where
 gh:Kr g g' (AU h)
 us:∀i,AU h i→AU h' i
 keeps:Fj g w g' w'
def Gs (P : Program) (f : Nat) : Prop := ∃ fn, P.funcs[f]? = some fn ∧ (fn.name == "runtime.NumGoroutine") = false ∧ fn.body.isNone = false
def Bm(P:Program)(f:Nat)(args:List AV)(h0:Nat→HO)(Q:AV→(Nat→HO)→Prop):Prop :=
 Gs P f∧∀(g:Gh) (w:World) (vals:Array Value),vals.size=args.length→(∀(i:Nat) (av:AV) (x:Value),args[i]?=some av→vals[i]?=some x→BS g w (AU h0) av x) →
  DQ w g h0 h0 g w →
  Calls P f vals w fun e w'=>∃v r h' g',e=.returned v∧Q r h'∧BS g' w' (AU h') r v∧DQ w g h0 h' g' w'∧Le h0 g w h' g' w'
def Ma(P:Program)(f:Nat)(args:List AV)(res:AV):Prop:=Bm P f args Aa fun r h'=>r=res∧h'=Aa
def Jb(P:Program)(Y:Gh→World→Prop)(l:Nat)(args:List AV)(h0:Nat→HO)(Q:AV→(Nat→HO)→Prop):Prop :=
 ∀(g:Gh) (w:World) (vals:Array Value),vals.size=args.length→(∀(i:Nat) (av:AV) (x:Value),args[i]?=some av→vals[i]?=some x→BS g w (AU h0) av x) →
  DQ w g h0 h0 g w→Y g w →
  YieldAt Fence.wide 0 P l vals w fun e w'=>∃v r h' g',e=.returned v∧Q r h'∧BS g' w' (AU h') r v∧DQ w g h0 h' g' w'∧Le h0 g w h' g' w'
def nP(P:Program)(Y:Gh→World→Prop)(f:Nat)(args:List AV)(h0:Nat→HO)(Q:AV→(Nat→HO)→Prop):Prop :=
 Gs P f∧∀(g:Gh) (w:World) (vals:Array Value),vals.size=args.length→(∀(i:Nat) (av:AV) (x:Value),args[i]?=some av→vals[i]?=some x→BS g w (AU h0) av x) →
  DQ w g h0 h0 g w→Y g w →
  Calls P f vals w fun e w'=>∃v r h' g',e=.returned v∧Q r h'∧BS g' w' (AU h') r v∧DQ w g h0 h' g' w'∧Le h0 g w h' g' w'
def Gr(P:Program)(Y:Nat→Gh→World→Prop)(F:AV)(args:List AV)(h:Nat→HO)(Q:AV→(Nat→HO)→Prop):Prop :=
 match F with
 |.v (.func (.func f) ⟨[]⟩ ⟨[]⟩)=>Bm P f args h Q
 |.clo f caps=>Bm P f (args++caps) h Q
 |.v (.func (.yield l) ⟨[]⟩ ⟨[]⟩)=>Jb P (Y l) l args h Q
 |_=>False
def Qd(P:Program)(F:AV)(args:List AV)(res:AV):Prop :=
 match F with
 |.v (.func (.func f) ⟨[]⟩ ⟨[]⟩)=>Ma P f args res
 |.clo f caps=>Ma P f (args++caps) res
 |_=>False
structure Cx where
 P:Program
 T:GS
 pl:Sj
 ext:Bool
 nid:Nat
 yp:Nat→List (Nat×Nat)→Gh→World→Prop
def KT(cx:Cx)(d:Nat):Nat:=bif I5 cx.pl.dyn d then cx.nid else d
abbrev HK:=AV→(Nat→HO)→Prop
def SP(T:GS)(d:Option Nat)(h:Nat→HO)(e:Nat)(K:HK):Prop :=
 match d with
 |none=>False
 |some d=>match h d with
  |.free=>match(T e).d with
   |.other=>False
   |_=>match Ho ((T e).zc.map .v)with
    |true=>K (.ref d 0) (A2 h d (.cells ((T e).zc.map .v)))
    |false=>False
  |_=>False
def Hp(n:Nat)(a:AV)(K:List AV→Prop):Prop :=
 match a with
 |.agg cs=>match Nat.beq cs.length n with
  |true=>K cs
  |false=>False
 |a=>match one a with
  |true=>match n with
   |1=>K [a]
   |_=>False
  |false=>False
def cK(cx:Cx)(d:Option Nat)(h:Nat→HO)(e:Nat)(x:AV)(K:HK):Prop :=
 match d with
 |none=>False
 |some d=>match h d with
  |.free=>match(cx.T e).d with
   |.other=>False
   |_=>Hp (cx.T e).size x fun cs=>match I5 cx.pl.frz d with
    |true=>K (.ref d 0) (A2 h d (.ro (cs.map (str h))))
    |false=>K (.ref d 0) (A2 h d (.cells cs))
  |_=>False
def Oz(cx:Cx)(h:Nat→HO)(t:Nat)(p x:AV)(K:HK):Prop :=
 match(cx.T t).d with
 |.other=>False
 |_=>Hp (cx.T t).size x fun vs=>match p with
  |.ref r off=>match h r with
   |.cells cs=>off+vs.length≤cs.length∧(match I5 cx.pl.frz r with
    |true=>K (.v undef) (A2 h r (.ro ((over cs off vs).map (str h))))
    |false=>K (.v undef) (A2 h r (.cells (over cs off vs))))
   |_=>False
  |.eref r n sz i off=>match h r with
   |.arr GQ es=>match Nat.beq sz GQ with
    |true=>n=es.length∧∃cs,es[i]?=some cs∧off+vs.length≤sz∧(match vs with
     | [.msl j m]=>K (.v undef) (A2 h r (.hol sz (es.set i (over cs off [.junk])) i off (.msl j m)))
     |_=>K (.v undef) (A2 h r (.arr sz (es.set i (over cs off (vs.map (str h)))))))
    |false=>False
   |_=>False
  |_=>False
def Iy(T:GS)(h:Nat→HO)(t:Nat)(p:AV)(K:AV→Prop):Prop :=
 match p with
 |.cptr cs=>LV T t cs K
 |.ref r off=>match h r with
  |.cells cs=>LV T t (cs.drop off) K
  |.ro cs=>LV T t (cs.drop off) K
  |_=>False
 |.eref r n sz i off=>match h r with
  |.arr GQ es=>match Nat.beq sz GQ with
   |true=>n=es.length∧∃cs,es[i]?=some cs∧LV T t (cs.drop off) K
   |false=>False
  |.hol GQ es i' c a=>match Nat.beq sz GQ with
   |true=>(n=es.length∧i=i'∧off=c)∧LV T t [a] K
   |false=>False
  |_=>False
 |_=>False
def KV(pl:Nat→Option (Nat×Nat))(cs:List AV)(t:Nat→AV)(ps:List (Nat×Operand))(K:List AV→Prop):Prop :=
 match ps with
 | []=>K cs
 |(i,x)::r=>match pl i with
  |none=>False
  |some (o,n)=>Hp n (ev t x) fun vs=>match Nat.ble (o+n) cs.length with
   |true=>KV pl (over cs o vs) t r K
   |false=>False
def OO(T:GS):List (Nat×Nat)→Bool
 | []=>true
 |(t,_)::r=>match(T t).size with |0=>false |_+1=>OO T r
def Qj(T:GS)(ty:Nat)(t:Nat→AV)(ps:List (Nat×Operand))(K:AV→Prop):Prop :=
 match Ho ((T ty).zc.map .v)with
 |false=>False
 |true=>match(T ty).d with
  |.struct fs=>match OO T fs with
   |false=>False
   |true=>KV (fun i=>match WO fs i with |some (t,o)=>some (o,(T t).size) |none=>none) ((T ty).zc.map .v) t ps fun cs=>K (.agg cs)
  |.array _ e=>match(T e).size with
   |0=>False
   |_+1=>KV (fun i=>some (i*(T e).size,(T e).size)) ((T ty).zc.map .v) t ps fun cs=>K (.agg cs)
  |_=>False
def Rv(n sz:Nat)(h:Nat→HO)(es:List (List AV))(t:Nat→AV)(ps:List (Nat×Operand))(K:List (List AV)→Prop):Prop :=
 match ps with
 | []=>K es
 |(i,x)::r=>match Nat.blt i n with
  |true=>Hp sz (ev t x) fun vs=>Rv n sz h (es.set i (vs.map (str h))) t r K
  |false=>False
def EN(cx:Cx)(d:Option Nat)(h:Nat→HO)(sz:Nat)(es:List (List AV))(K:HK):Prop :=
 match d with
 |none=>False
 |some d=>match h (KT cx d)with
  |.free=>match GZ cx.pl.arr d with
   |some _=>K (.msl (KT cx d) es.length) (A2 h (KT cx d) (.arr sz es))
   |none=>K (.slice (.id (KT cx d) sz) es) (A2 h (KT cx d) (.tok sz es.length))
  |_=>False
def IP(cx:Cx)(d:Option Nat)(h:Nat→HO)(ty n:Nat)(t:Nat→AV)(ps:List (Nat×Operand))(K:HK):Prop :=
 match(cx.T ty).d with
 |.slice e=>match Ho ((cx.T e).zc.map .v),Nat.beq (cx.T e).zc.length (cx.T e).size with
  |true,true=>match(cx.T e).size with
   |0=>False
   |_+1=>match Nat.ble (n*(cx.T e).size) 16777216 with
    |true=>Rv n (cx.T e).size h (List.replicate n ((cx.T e).zc.map .v)) t ps fun es=>EN cx d h (cx.T e).size es K
    |false=>False
  |_,_=>False
 |_=>False
def KZ(t:Nat→AV)(h:Nat→HO)(fn:Fn)(first captured:List Operand)(K:AV→Prop):Prop :=
 match fn,first with
 |.func f,[]=>K (.clo f (captured.map fun x=>rsv h (ev t x)))
 |_,_=>False
def CT(sz:Nat):List (List AV)→Prop
 | []=>True
 |c::r=>c.length=sz∧CT sz r
def Lu(h:Nat→HO)(x:AV)(K:List (List AV)→Prop):Prop :=
 match x with
 |.slice _ es=>K es
 |.v (.slice none 0 0)=>K []
 |.msl r n=>match h r with
  |.arr _ es=>n=es.length∧K es
  |_=>False
 |_=>False
def IG(cx:Cx)(d:Option Nat)(h:Nat→HO)(ty:Nat)(s x:AV)(K:HK):Prop :=
 match(cx.T ty).d with
 |.slice e=>match Nat.beq (cx.T e).zc.length (cx.T e).size with
  |false=>False
  |true=>match(cx.T e).size with
   |0=>False
   |_+1=>Lu h x fun es2=>match s with
    |.v (.slice none 0 0)=>(CT (cx.T e).size es2∧es2.length*(cx.T e).bytes≤140737488355328∧es2.length≤9223372036854775807)∧EN cx d h (cx.T e).size es2 K
    |.slice (.full GQ) es=>match Nat.beq GQ (cx.T e).size with
     |true=>(CT (cx.T e).size es2∧0<es2.length∧(es.length+es2.length)*(cx.T e).bytes≤140737488355328∧es.length+es2.length≤9223372036854775807)∧EN cx d h (cx.T e).size (es++es2) K
     |false=>False
    |.slice (.id r GQ) es=>match h r with
     |.tok sz n=>match Nat.beq sz (cx.T e).size,Nat.beq GQ sz with
      |true,true=>(CT sz es2∧es.length=n∧(es.length+es2.length)*(cx.T e).bytes≤140737488355328∧es.length+es2.length≤9223372036854775807) ∧
        K (.slice (.id r sz) (es++es2)) (A2 h r (.tok sz (es.length+es2.length)))
      |_,_=>False
     |_=>False
    |.msl r n=>match h r with
     |.arr sz es=>match Nat.beq sz (cx.T e).size with
      |true=>(CT sz es2∧es.length=n∧(es.length+es2.length)*(cx.T e).bytes≤140737488355328∧es.length+es2.length≤9223372036854775807) ∧
        K (.msl r (es.length+es2.length)) (A2 h r (.arr sz (es++es2)))
      |false=>False
     |_=>False
    |_=>False
 |_=>False
abbrev Ji:=List (Nat×Nat)
inductive qL | pure | rel | gen (σ:Ji) (nn:Nat) | geny (σ:Ji) (nn:Nat)
def CC(σ:Ji)(n:Nat):Option Nat :=
 match σ with
 | []=>none
 |(i,j)::r=>bif Nat.beq i n then some j else CC r n
def Ia(σ:Ji)(n:Nat):Option Nat :=
 match σ with
 | []=>none
 |(i,j)::r=>bif Nat.beq j n then some i else Ia r n
def Ey:Ji→Bool
 | []=>true
 |(i,j)::r=>(match CC r i,Ia r j with |none,none=>true |_,_=>false)&&Nat.ble 1000 j&&Nat.blt j 2000&&Ey r
def G5:Ji→Bool
 | []=>true
 |(i,j)::r=>(match CC r i,Ia r j with |none,none=>true |_,_=>false)&&G5 r
def ren0(f:Nat→Option Nat)(h:Nat→HO):AV→AV
 |.slice (.id r sz) es=>match f r with |some r'=>.slice (.id r' sz) es |none=>.slice .none es
 |.slice (.ver r sz v) es=>match f r with |some r'=>.slice (.ver r' sz v) es |none=>.slice .none es
 |.msl r n=>match f r with |some r'=>.msl r' n |none=>.junk
 |.ref r off=>match f r with |some r'=>.ref r' off |none=>str0 h (.ref r off)
 |.eref r n sz i off=>match f r with |some r'=>.eref r' n sz i off |none=>.junk
 |.mref r=>match f r with |some r'=>.mref r' |none=>str0 h (.mref r)
 |a=>str0 h a
def ren1(f:Nat→Option Nat)(h:Nat→HO):AV→AV
 |.agg cs=>.agg (cs.map (ren0 f h))
 |.clo g cs=>.clo g (cs.map (ren0 f h))
 |a=>ren0 f h a
def ren(f:Nat→Option Nat)(h:Nat→HO):AV→AV
 |.tup cs=>.tup (cs.map (ren1 f h))
 |a=>ren1 f h a
def HO.ren(f:Nat→Option Nat)(h:Nat→HO):HO→HO
 |.cells cs=>.cells (cs.map (ren1 f h))
 |.mapU sh Ca=>.mapU sh (Ca.map fun p=>(p.1,ren1 f h p.2))
 |.hol sz es i c a=>.hol sz es i c (ren1 f h a)
 |o=>o
def Aq(l:List (Nat×HO))(hb:Nat→HO)(i:Nat):HO:=match l with | []=>hb i | (j,v)::r=>bif Nat.beq i j then v else Aq r hb i
def Xj(f:Nat→Option Nat)(h:Nat→HO):Ji→List (Nat×HO)
 | []=>[]
 |(i,j)::r=>(j,(h i).ren f h)::Xj f h r
def FU(σ:Ji)(h:Nat→HO):Nat→HO:=Aq (Xj (CC σ) h σ) Aa
def BF(d k:Nat):Nat:=10000+100*d+k
def Fo(σ:Ji)(d nn:Nat)(j:Nat):Option Nat :=
 match Ia σ j with
 |some i=>some i
 |none=>match Nat.ble 2000 j&&Nat.blt j (2000+nn)with |true=>some (BF d (j-2000)) |false=>none
def Eg(σ:Ji)(d nn:Nat)(h h' : Nat→HO):Nat→HO:=fun i =>
 match CC σ i with
 |some j=>(h' j).ren (Fo σ d nn) h'
 |none=>match Nat.ble (BF d 0) i&&Nat.blt i (BF d nn)with |true=>(h' (2000+(i-BF d 0))).ren (Fo σ d nn) h' |false=>h i
def DO(h:Nat→HO)(d:Nat):Nat→Bool
 |0=>true
 |k+1=>(match h (BF d k)with |.free=>true |_=>false)&&DO h d k
def DA(σ:Ji)(d nn:Nat):Bool :=
 match σ with
 | []=>true
 |(i,_)::r=>!(Nat.ble (BF d 0) i&&Nat.blt i (BF d nn))&&DA r d nn
def NW(l:List (Nat×Nat))(d:Option Nat):Option Nat:=match d with | none=>none | some d=>GZ l d
def bN:AV→Bool | .tup _=>false | _=>true
def Ud:List AV→Bool
 | []=>true
 |a::r=>match bN a with |true=>Ud r |false=>false
def Wj:List AV→Option (List Value)
 | []=>some []
 |.v x::r=>match Wj r with |some l=>some (x::l) |none=>none
 |_=>none
def RU(cx:Cx)(k:Nat)(d:Option Nat)(h:Nat→HO)(F:AV)(args:List AV)(K:HK):Prop :=
 match d,F,args with
 |some d,.v (.func (.func f) ⟨[]⟩ ⟨[]⟩),.msl r n::l=>match Wj l with
  |some vs=>match h r with
   |.arr sz es=>match k with
    |0=>∃n' FW,Bm cx.P f (.msl 1000 n::vs.map .v) (Aq [(1000,.arr sz es)] Aa) (fun r' h'=>r'=.msl 1000 n'∧h'=Aq [(1000,.arr sz FW)] Aa)∧K (.msl r n') (A2 h r (.arr sz FW))
    |_+1=>∃n' FW,(DO h d 1&&Nat.blt r 10000000&&!Nat.beq r (BF d 0))=true∧Bm cx.P f (.msl 1000 n::vs.map .v) (Aq [(1000,.arr sz es)] Aa) (fun r' h'=>r'=.msl 2000 n'∧h'=Aq [(1000,.dead),(2000,.arr sz FW)] Aa) ∧
      K (.msl (BF d 0) n') (A2 (A2 h r .dead) (BF d 0) (.arr sz FW))
   |_=>False
  |none=>False
 |_,_,_=>False
def UG(cx:Cx)(d:Option Nat)(st:St)(F:AV)(args:List AV)(K:HK):Prop :=
 match d with
 |none=>False
 |some d=>∃sz es,(DO st.h d 1&&bN F&&Ud args)=true∧Gr cx.P (fun l=>cx.yp l []) (str st.h F) (args.map (str st.h)) Aa (fun r h'=>r=.slice (.id 2000 sz) es∧h'=Aq [(2000,.tok sz es.length)] Aa) ∧
   K (.slice (.id (BF d 0) sz) es) (A2 st.h (BF d 0) (.tok sz es.length))
def Rg(cx:Cx)(d:Option Nat)(st:St)(F:AV)(args:List AV)(K:HK):Prop :=
  match d,F,Wj args with
  |some _,.v (.func (.yield l) ⟨[]⟩ ⟨[]⟩),some vs=>match st.h 1000,st.h 1001 with
    |.cells [.slice (.id r sz) es],.tok co n=>(r=1001∧co=sz)∧∃v FW n',Jb cx.P (cx.yp l [(1000,1000),(1001,1001)]) l (vs.map .v) (Aq [(1000,.cells [.slice (.id 1001 sz) es]),(1001,.tok sz n)] Aa)
          (fun r h'=>r=.v v∧h'=Aq [(1000,.cells [.slice (.id 1001 sz) FW]),(1001,.tok sz n')] Aa) ∧
        K (.v v) (A2 (A2 st.h 1001 (.tok sz n')) 1000 (.cells [.slice (.id 1001 sz) FW]))
    |_,_=>False
  |_,_,_=>False
def ld:List Nat:=[1000,1001,1002,1003,1004,1005,1006,1007]
def Yc(cx:Cx)(d:Option Nat)(st:St)(F:AV)(args:List AV)(K:HK):Prop :=
 match d,F with
 |some d,.v (.func (.func f) ⟨[]⟩ ⟨[]⟩)=>∃(σ:Ji) (H0 Hn:List (Nat×HO)) (args' : List AV) (res:AV),
   (∀h2:Nat→HO,(∀r∈ld,h2 r=st.h r)→FU σ h2=Aq H0 Aa∧args.map (ren (CC σ) h2)=args')∧(Ey σ&&DA σ d 0&&σ.all fun p=>I5 ld p.1)=true ∧
   Bm cx.P f args' (Aq H0 Aa) (fun r h'=>r=res∧h'=Aq Hn Aa)∧K (ren (Fo σ d 0) (Aq Hn Aa) res) (Eg σ d 0 st.h (Aq Hn Aa))
 |_,_=>False
def PN(cx:Cx)(k:Nat)(d:Option Nat)(st:St)(F:AV)(args:List AV)(K:HK):Prop :=
 match Nat.beq k 4 with
 |true=>Yc cx d st F args K
 |false=>RU cx k d st.h F args K
def GD(cx:Cx)(dr:Bool)(d:Option Nat)(st:St)(F:AV)(args:List AV)(K:HK):Prop :=
 match dr with
 |true=>match NW cx.pl.dc d with
  |none=>∃res,Qd cx.P (str st.h F) (args.map (str st.h)) res∧K res st.h
  |some 0=>match d with
   |none=>False
   |some d=>∃n sz es,(DO st.h d 1&&bN F&&Ud args)=true∧Gr cx.P (fun l=>cx.yp l []) (str st.h F) (args.map (str st.h)) Aa (fun r h'=>r=.msl 2000 n∧h'=Aq [(2000,.arr sz es)] Aa) ∧
     K (.msl (BF d 0) n) (A2 st.h (BF d 0) (.arr sz es))
  |some (k+1)=>match Nat.beq k 2 with
   |true=>UG cx d st F args K
   |false=>match Nat.beq k 3 with
    |true=>Rg cx d st F args K
    |false=>PN cx k d st F args K
 |false=>∃m:qL,match m with
  |.pure=>∃res,Qd cx.P (str st.h F) (args.map (str st.h)) res∧K res st.h
  |.rel=>Gr cx.P (fun _ _ _=>True) (str st.h F) (args.map (str st.h)) Aa fun r h'=>h'=Aa∧K r st.h
  |.gen σ nn=>match d with
   |none=>False
   |some d=>(Ey σ&&DO st.h d nn&&DA σ d nn)=true ∧
     Gr cx.P (fun l=>cx.yp l σ) (ren (CC σ) st.h F) (args.map (ren (CC σ) st.h)) (FU σ st.h) fun r h'=>K (ren (Fo σ d nn) h' r) (Eg σ d nn st.h h')
  |.geny σ nn=>match d with
   |none=>False
   |some d=>(Ey σ&&DO st.h d nn&&DA σ d nn)=true ∧
     match ren (CC σ) st.h F with
     |.clo f caps=>nP cx.P (fun g w=>∀l,cx.yp l σ g w) f (args.map (ren (CC σ) st.h)++caps) (FU σ st.h) fun r h'=>K (ren (Fo σ d nn) h' r) (Eg σ d nn st.h h')
     |_=>False
def Xr:List AV→Option (List Value)
 | []=>some []
 |.v x::r=>match Xr r with |some l=>some (x::l) |none=>none
 |_=>none
def pB:AV→Option Value
 |.v x=>some x
 |.agg cs=>match Xr cs with |some l=>some (.agg l.toArray) |none=>none
 |_=>none
def Ig(T:GS)(t:Nat):Option EX :=
 match(T t).d with
 |.struct _=>match HX T 8 t with |some l=>some ⟨true,l⟩ |none=>none
 |_=>match HX T 1 t with |some l=>some ⟨false,l⟩ |none=>none
def lR:KS→KS→Bool
 |.int k,.int k'=>qE k k'
 |.str,.str=>true
 |.bool,.bool=>true
 |_,_=>false
def TZ:List KS→List KS→Bool
 | [],[]=>true
 |a::r,b::s=>match lR a b with |true=>TZ r s |false=>false
 |_,_=>false
def pZ(a b:EX):Bool :=
 match a.agg,b.agg with
 |true,true=>TZ a.l b.l
 |false,false=>TZ a.l b.l
 |_,_=>false
def Ky(T:GS)(ty:Nat)(sh:EX)(k:AV)(K:Value→Prop):Prop :=
 match(T ty).d with
 |.map kt _=>match Ig T kt with
  |some uT=>match pZ sh uT with
   |true=>match pB k with
    |some kx=>match V9 sh kx with
     |true=>K kx
     |false=>False
    |none=>False
   |false=>False
  |none=>False
 |_=>False
open Classical in
noncomputable def E7(Ca:List (Value×AV))(k:Value)(a:AV):List (Value×AV) :=
 if ∃a',(k,a')∈Ca then Ca.map fun p=>if p.1=k then(k,a)else p else Ca++[(k,a)]
def K2(T:GS)(mku:List Nat)(d:Option Nat)(h:Nat→HO)(ty:Nat)(K:HK):Prop :=
 match d with
 |none=>False
 |some d=>match h d with
  |.free=>match(T ty).d with
   |.map kt _=>match Ig T kt with
    |some sh=>match I5 mku d with
     |true=>K (.mref d) (A2 h d (.mapU sh []))
     |false=>K (.mref d) (A2 h d (.map sh []))
    |none=>False
   |_=>False
  |_=>False
def Hs(T:GS)(h:Nat→HO)(ty:Nat)(m k x:AV)(K:HK):Prop :=
 match m with
 |.mref r=>match h r with
  |.map sh Ca=>Ky T ty sh k fun kx=>K (.v undef) (A2 h r (.map sh (E7 Ca kx (str h x))))
  |.mapU sh Ca=>Ky T ty sh k fun kx=>K (.v undef) (A2 h r (.mapU sh (E7 Ca kx x)))
  |_=>False
 |_=>False
def KE(T:GS)(t:Nat)(K:AV→Prop):Prop :=
 match(T t).d with
 |.other=>False
 |_=>match(T t).zero with
  |.agg cs=>match Ho (cs.toList.map .v)with |true=>K (.agg (cs.toList.map .v)) |false=>False
  |z=>K (.v z)
def Mq(T:GS)(ty:Nat)(ok:Bool)(Ca:List (Value×AV))(kx:Value)(K:AV→Prop):Prop :=
 match(T ty).d with
 |.map _ e=>match ok with
  |true=>(∀a,(kx,a)∈Ca→K (.tup [a,.v (.bool true)]))∧((∀a,(kx,a)∉Ca)→KE T e fun z=>K (.tup [z,.v (.bool false)]))
  |false=>(∀a,(kx,a)∈Ca→K a)∧((∀a,(kx,a)∉Ca)→KE T e K)
 |_=>False
def Mp(T:GS)(ty:Nat)(ok:Bool)(Ca:List (Value×AV))(kx:Value)(K:AV→Prop):Prop :=
 match(T ty).d with
 |.map _ e=>match ok with
  |true=>(∃a,((kx,a)∈Ca∧∀b,(kx,b)∈Ca→b=a)∧K (.tup [a,.v (.bool true)]))∨((∀a,(kx,a)∉Ca)∧KE T e fun z=>K (.tup [z,.v (.bool false)]))
  |false=>(∃a,((kx,a)∈Ca∧∀b,(kx,b)∈Ca→b=a)∧K a)∨((∀a,(kx,a)∉Ca)∧KE T e K)
 |_=>False
def M7(T:GS)(h:Nat→HO)(ty:Nat)(m k:AV)(ok:Bool)(K:AV→Prop):Prop :=
 match m with
 |.cmap sh Ca=>Ky T ty sh k fun kx=>Mp T ty ok Ca kx K
 |.mref r=>match h r with
  |.map sh Ca=>Ky T ty sh k fun kx=>Mp T ty ok Ca kx K
  |.mapU sh Ca=>Ky T ty sh k fun kx=>Mp T ty ok Ca kx K
  |.rom sh Ca=>Ky T ty sh k fun kx=>Mp T ty ok Ca kx K
  |_=>False
 |_=>False
def M8(T:GS)(h:Nat→HO)(ty:Nat)(m k:AV)(ok:Bool)(K:AV→Prop):Prop :=
 match m with
 |.cmap sh Ca=>Ky T ty sh k fun kx=>Mq T ty ok Ca kx K
 |.mref r=>match h r with
  |.map sh Ca=>Ky T ty sh k fun kx=>Mq T ty ok Ca kx K
  |.mapU sh Ca=>Ky T ty sh k fun kx=>Mq T ty ok Ca kx K
  |.rom sh Ca=>Ky T ty sh k fun kx=>Mq T ty ok Ca kx K
  |_=>False
 |_=>False
def aL(d:Option Nat)(h:Nat→HO)(x:AV)(K:HK):Prop :=
 match d with
 |none=>False
 |some d=>match h d with
  |.free=>match x with
   |.cmap _ Ca=>K (.ref d 0) (A2 h d (.iter Ca Ca none))
   |.mref r=>match h r with
    |.rom _ Ca=>K (.ref d 0) (A2 h d (.iter Ca Ca none))
    |.map sh Ca=>K (.ref d 0) (A2 (A2 h r (.rom sh Ca)) d (.iter Ca Ca none))
    |_=>False
   |_=>False
  |_=>False
def iZ(h:Nat→HO)(x:AV)(K:HK):Prop :=
 match x with
 |.ref r 0=>match h r with
  |.iter all rem _=>(rem=[]→K (.tup [.v (.bool false)]) h) ∧
    (∀kv Ou,rem.Perm (kv::Ou)→K (.tup [.v (.bool true),.v kv.1,kv.2]) (A2 h r (.iter all Ou (some kv))))
  |_=>False
 |_=>False
def ZQ(h:Nat→HO)(x:AV)(K:AV→Prop):Prop :=
 match x with
 |.ref r 0=>match h r with
  |.iter _ _ (some kv)=>K (.tup [.v kv.1,kv.2])
  |_=>False
 |_=>False
def RG(T:GS)(t:Nat)(h:Nat→HO)(x:AV)(K:AV→Prop):Prop :=
 match(T t).d with
 |.slice _=>match x with
  |.slice _ es=>K (.v (.int .i64 es.length))
  |.msl _ n=>K (.v (.int .i64 n))
  |.v (.slice none 0 0)=>K (.v (.int .i64 0))
  |_=>False
 |.string=>match x with
  |.v (.string s)=>K (.v (.int .i64 s.size))
  |_=>False
 |.map _ _=>match x with
  |.cmap _ Ca=>K (.v (.int .i64 Ca.length))
  |.mref r=>match h r with
   |.map _ Ca=>K (.v (.int .i64 Ca.length))
   |.mapU _ Ca=>K (.v (.int .i64 Ca.length))
   |.rom _ Ca=>K (.v (.int .i64 Ca.length))
   |_=>False
  |_=>False
 |_=>False
def GP(cx:Cx)(d:Option Nat)(h:Nat→HO)(ty:Nat)(x:AV)(lo hi mx:Option (Option Int))(K:HK):Prop :=
 match lo,hi,mx with
 |some lo,some hi,some mx=>match(cx.T ty).d with
  |.string=>match mx,x with
   |none,.v (.string s)=>(0≤lo.getD 0∧lo.getD 0≤hi.getD s.size∧hi.getD s.size≤s.size)∧K (.v (.string (s.extract (lo.getD 0).toNat (hi.getD s.size).toNat))) h
   |_,_=>False
  |.slice e=>match(cx.T e).size with
   |0=>False
   |_+1=>match x with
    |.slice _ es=>match mx with
     |none=>(0≤lo.getD 0∧lo.getD 0≤hi.getD es.length∧hi.getD es.length≤es.length) ∧
       (∀cs∈es,cs.length=(cx.T e).size)∧K (.slice .none ((es.take (hi.getD es.length).toNat).drop (lo.getD 0).toNat)) h
     |some m=>match d,hi with
      |some d,some hi=>match GZ cx.pl.arr d with
       |some _=>(0≤lo.getD 0∧lo.getD 0≤hi∧m=hi∧hi≤es.length)∧(∀cs∈es,cs.length=(cx.T e).size) ∧
         K (.slice (.full (cx.T e).size) ((es.take hi.toNat).drop (lo.getD 0).toNat)) h
       |none=>match h d with
        |.free=>(0≤lo.getD 0∧lo.getD 0≤hi∧m=hi∧hi≤es.length)∧(∀cs∈es,cs.length=(cx.T e).size) ∧
          K (.slice (.id d (cx.T e).size) ((es.take hi.toNat).drop (lo.getD 0).toNat)) (A2 h d (.tok (cx.T e).size (hi.toNat-(lo.getD 0).toNat)))
        |_=>False
      |_,_=>False
    |.v (.slice none 0 0)=>(lo.getD 0=0∧hi.getD 0=0∧mx.getD 0=0)∧(mx=none∨hi≠none)∧K (.v (.slice none 0 0)) h
    |.msl r n=>match h r with
     |.arr sz es=>match Nat.beq sz (cx.T e).size with
      |true=>(n=es.length∧0≤lo.getD 0∧lo.getD 0≤hi.getD es.length∧hi.getD es.length≤es.length∧(mx=none∨(mx=hi∧hi≠none))) ∧
        K (.slice .none ((es.take (hi.getD es.length).toNat).drop (lo.getD 0).toNat)) (A2 h r .dead)
      |false=>False
     |_=>False
    |_=>False
  |_=>False
 |_,_,_=>False
def Us(cx:Cx)(d:Option Nat)(h:Nat→HO)(ty:Nat)(x:AV)(lo:Option (Option Int))(hi mx:Option Operand)(K:HK):Prop :=
 match d,lo,hi,mx with
 |some d,some (some lo),none,none=>match(cx.T ty).d with
  |.slice e=>match(cx.T e).size with
   |0=>False
   |_+1=>match x with
    |.slice (.id r sz) es=>match h r with
     |.tok GQ n=>match h (KT cx d)with
      |.free=>match Nat.beq GQ sz,Nat.beq sz (cx.T e).size with
       |true,true=>(es.length=n∧0≤lo∧lo≤es.length)∧K (.slice (.id (KT cx d) sz) (es.drop lo.toNat)) (A2 (A2 h r .dead) (KT cx d) (.tok sz (es.drop lo.toNat).length))
       |_,_=>False
      |_=>False
     |_=>False
    |_=>False
  |_=>False
 |_,_,_,_=>False
def jy(cx:Cx)(d:Option Nat)(h:Nat→HO)(ty:Nat)(x:AV)(hi:Option (Option Int))(K:HK):Prop :=
 match d,hi with
 |some d,some (some hi)=>match(cx.T ty).d with
  |.slice e=>match(cx.T e).size with
   |0=>False
   |_+1=>match x with
    |.msl r n=>match h r with
     |.arr sz es=>match h (KT cx d)with
      |.free=>match Nat.beq sz (cx.T e).size,Nat.blt r 10000000&&Nat.blt 0 (KT cx d)with
       |true,true=>(n=es.length∧0≤hi∧hi≤es.length)∧K (.msl (KT cx d) hi.toNat) (A2 (A2 h r .dead) (KT cx d) (.arr sz (es.take hi.toNat)))
       |_,_=>False
      |_=>False
     |_=>False
    |_=>False
  |_=>False
 |_,_=>False
def NP(cx:Cx)(d:Option Nat)(h:Nat→HO)(ty:Nat)(x:AV)(lo:Option Operand)(hi:Option (Option Int))(mx:Option Operand)(K:HK):Prop :=
 match lo,mx with
 |none,none=>jy cx d h ty x hi K
 |_,_=>False
def ca(cx:Cx)(d:Option Nat)(h:Nat→HO)(ty:Nat)(x:AV)(t:Nat→AV)(lo hi mx:Option Operand)(K:HK):Prop :=
 match lo with
 |none=>NP cx d h ty x none (Ce t hi) mx K
 |some lo=>Us cx d h ty x (Ce t (some lo)) hi mx K
def unT:AV→AV
 |.slice _ es=>.slice .none es
 |a=>a
def OR(cx:Cx)(d:Option Nat)(h:Nat→HO)(x:AV)(K:HK):Prop :=
 match d with
 |none=>K x h
 |some d=>match GZ cx.pl.tok d with
  |some sz=>match Nat.beq sz 0 with
   |true=>K (unT x) h
   |false=>match x with
    |.v (.slice none 0 0)=>match h d with
     |.free=>K (.slice (.id d sz) []) (A2 h d (.tok sz 0))
     |_=>False
    |x=>K x h
  |none=>match GZ cx.pl.arr d with
   |some sz=>match x with
    |.v (.slice none 0 0)=>match h d with
     |.free=>K (.msl d 0) (A2 h d (.arr sz []))
     |_=>False
    |x=>K x h
   |none=>K x h
def md(l:List AV)(n:Nat):Option AV :=
 match l with
 | []=>none
 |x::r=>match n with |0=>some x |n+1=>md r n
def Ml(x:AV)(i:Nat)(K:AV→Prop):Prop :=
 match x with
 |.tup vs=>match md vs i with
  |some a=>K a
  |none=>False
 |_=>False
def K5(x:AV)(K:AV→Prop):Prop :=
 match x with
 |.ref r o=>K (.ref r o)
 |.eref r n z i o=>K (.eref r n z i o)
 |.cptr cs=>K (.cptr cs)
 |.clo f cs=>K (.clo f cs)
 |.v (.func (.func f) a b)=>K (.v (.func (.func f) a b))
 |_=>False
def Y8(c a b:AV)(K:AV→Prop):Prop :=
 match c with
 |.v (.bool true)=>K a
 |.v (.bool false)=>K b
 |_=>False
def l5(f:Int→Int→Int)(x y:AV)(K:AV→Prop):Prop :=
 match x,y with
 |.v (.int k a),.v (.int k' b)=>match qE k k' with
  |true=>K (.v (.int k (f a b)))
  |false=>False
 |_,_=>False
def JQ(cx:Cx)(d:Option Nat)(h:Nat→HO)(ty:Nat)(len cap:AV)(K:HK):Prop :=
 match(cx.T ty).d,len,cap with
 |.slice e,.v (.int .i64 n),.v (.int .i64 c)=>match Ho ((cx.T e).zc.map .v)with
  |true=>match Nat.beq (cx.T e).zc.length (cx.T e).size with
   |true=>match(cx.T e).size with
    |0=>False
    |_+1=>(0≤n∧n≤c∧c*(cx.T e).bytes≤140737488355328∧c≤9223372036854775807)∧EN cx d h (cx.T e).size (List.replicate n.toNat ((cx.T e).zc.map .v)) K
   |false=>False
  |false=>False
 |_,_,_=>False
def Zj(op:UnOp)(x:AV)(K:AV→Prop):Prop :=
 match op,x with
 |.not,x=>dQ K x
 |.neg,.v (.int .i64 a)=>Bu (-a)∧K (.v (.int .i64 (-a)))
 |_,_=>False
def Gk(cx:Cx)(d:Option Nat)(h:Nat→HO)(b:Builtin)(G8:List Nat)(args:List AV)(K:HK):Prop :=
 match b,args,G8 with
 |.len,[x],[t]=>RG cx.T t h x fun v=>K v h
 |.append,[s,x],[t,t']=>match Nat.beq t t' with
  |true=>IG cx d h t s x K
  |false=>False
 |.max,[x,y],_=>l5 max x y fun v=>K v h
 |.min,[x,y],_=>l5 min x y fun v=>K v h
 |_,_,_=>False
def Ga(cx:Cx)(dr:Bool)(o:Oper)(st:St)(K:HK):Prop :=
 match o.op with
 |.move x=>K (ev st.t x) st.h
 |.assign x=>OR cx o.dst st.h (ev st.t x) K
 |.pick c a b=>Y8 (ev st.t c) (ev st.t a) (ev st.t b) fun v=>K v st.h
 |.alloc e=>SP cx.T o.dst st.h e K
 |.box e x=>cK cx o.dst st.h e (ev st.t x) K
 |.build ty ps=>Qj cx.T ty st.t ps.toList fun v=>K v st.h
 |.buildSlice ty n ps=>IP cx o.dst st.h ty n st.t ps.toList K
 |.insert ty m k x=>Hs cx.T st.h ty (ev st.t m) (ev st.t k) (ev st.t x) K
 |.load ty x=>Iy cx.T st.h ty (ev st.t x) fun v=>K v st.h
 |.store ty p x=>Oz cx st.h ty (ev st.t p) (ev st.t x) K
 |.nilCheck x=>K5 (ev st.t x) fun v=>K v st.h
 |.binOp op ty x y _=>XL cx.T op ty y (ev st.t x) (ev st.t y) fun v=>K v st.h
 |.unOp op _ x=>Zj op (ev st.t x) fun v=>K v st.h
 |.convert s ty x=>XR cx.T s ty (ev st.t x) fun v=>K v st.h
 |.makeFunc fn first cap=>KZ st.t st.h fn first.toList cap.toList fun v=>K v st.h
 |.makeMap ty none=>K2 cx.T cx.pl.mku o.dst st.h ty K
 |.makeSlice ty n c=>JQ cx o.dst st.h ty (ev st.t n) (ev st.t c) K
 |.slice ty x lo hi mx=>match dr with
  |true=>match NW cx.pl.tok o.dst with
   |none=>GP cx o.dst st.h ty (ev st.t x) (Ce st.t lo) (Ce st.t hi) (Ce st.t mx) K
   |some _=>NP cx o.dst st.h ty (ev st.t x) lo (Ce st.t hi) mx K
  |false=>match NW cx.pl.tok o.dst with
   |none=>GP cx o.dst st.h ty (ev st.t x) (Ce st.t lo) (Ce st.t hi) (Ce st.t mx) K
   |some _=>ca cx o.dst st.h ty (ev st.t x) st.t lo hi mx K
 |.fieldAddr s x f=>Tp cx.T s f (ev st.t x) fun v=>K v st.h
 |.field s x f=>Pe cx.T s f (ev st.t x) fun v=>K v st.h
 |.indexAddr ty x ix=>JO cx.T ty (ev st.t x) (ev st.t ix) fun v=>K v st.h
 |.index ty x ix=>TR cx.T ty (ev st.t x) (ev st.t ix) fun v=>K v st.h
 |.lookup ty x ix ok=>match dr with
  |true=>M7 cx.T st.h ty (ev st.t x) (ev st.t ix) ok fun v=>K v st.h
  |false=>M8 cx.T st.h ty (ev st.t x) (ev st.t ix) ok fun v=>K v st.h
 |.mapUpdate ty m k x=>Hs cx.T st.h ty (ev st.t m) (ev st.t k) (ev st.t x) K
 |.range ty x=>match(cx.T ty).d with |.map _ _=>aL o.dst st.h (ev st.t x) K |_=>False
 |.next it false=>iZ st.h (ev st.t it) K
 |.entry it=>ZQ st.h (ev st.t it) fun v=>K v st.h
 |.extract x i=>Ml (ev st.t x) i fun v=>K v st.h
 |.call c=>match c.callee with
  |.builtin b=>Gk cx o.dst st.h b c.argTypes.toList (c.args.toList.map (ev st.t)) K
  |.value f=>GD cx dr o.dst st (ev st.t f) (c.args.toList.map (ev st.t)) K
  |_=>False
 |_=>False
def KA(ops:List Oper)(j:Nat):Option Nat:=match ops with | []=>none | o::r=>match j with | 0=>o.dst | j+1=>KA r j
def jz(cx:Cx)(o:Oper)(st:St):St :=
 match o.dst with
 |none=>st
 |some d=>match qT cx.pl.tz d with
  |some (r,k,j,sz)=>⟨st.t,uX st.h r k j sz⟩
  |none=>match oc cx.pl.fz d with
   | []=>st
   |l=>⟨st.t,Po st.h l⟩
def u6(cx:Cx)(o:Oper)(st:St)(K:St→Prop):Prop :=
 match o.dst with
 |none=>K st
 |some d=>match GZ cx.pl.ak d with
  |none=>K st
  |some s=>match st.t s with
   |.msl r n=>match st.h r with
    |.arr sz es=>n=es.length∧K ⟨Hu st.t s (.slice (.id r sz) es),A2 st.h r (.tok sz es.length)⟩
    |_=>K st
   |_=>K st
def fO(cx:Cx)(dr:Bool)(o:Oper)(st:St)(K:St→Prop):Prop :=
 match dr with
 |true=>Ga cx true o st fun v h=>K (st.put o.dst v h)
 |false=>u6 cx o (jz cx o st) fun Ej=>Ga cx false o Ej fun v h=>K (Ej.put o.dst v h)
def Hx(cx:Cx)(dr:Bool)(all:List Oper)(o:Oper)(st:St)(K:St→Prop):Prop :=
 match o.guard with
 |none=>fO cx dr o st K
 |some (j,want)=>match KA all j with
  |none=>False
  |some d=>match st.t d,want with
   |.v (.bool true),true=>fO cx dr o st K
   |.v (.bool false),false=>fO cx dr o st K
   |.v (.bool true),false=>K (st.put o.dst (.v undef) st.h)
   |.v (.bool false),true=>K (st.put o.dst (.v undef) st.h)
   |.v (.tuple _),_=>K (st.put o.dst (.v undef) st.h)
   |_,_=>False
def TV(o o2:Oper):Bool :=
 match o2.op with
 |.call c=>match c.callee with
  |.builtin .clear=>match o.op with
   |.slice ty _ (some _) none none=>match o.dst,o2.dst,c.args.toList,c.argTypes.toList,o.guard,o2.guard with
    |some d,none,[.tmp d'],[ty'],none,none=>Nat.beq d d'&&Nat.beq ty ty'
    |_,_,_,_,_,_=>false
   |_=>false
  |_=>false
 |_=>false
def rz(d:Nat)(st:St)(r i sz:Nat)(es:List (List AV))(z:List Value)(K:St→Prop):Prop :=
 match z.all Value.oneCell' with
 |true=>K ⟨Hu st.t d .junk,A2 st.h r (.arr sz (es.take i++List.replicate (es.length-i) (z.map AV.v)))⟩
 |false=>False
def cQ(cx:Cx)(o:Oper)(st:St)(K:St→Prop):Prop :=
 match o.op with
 |.slice ty x (some lo) none none=>match o.dst with
  |some d=>match(cx.T ty).d with
   |.slice e=>match ev st.t x with
    |.msl r n=>match ev st.t lo with
     |.v (.int .i64 i)=>match st.h r with
      |.arr sz es=>match Nat.beq sz (cx.T e).size with
       |true=>match(cx.T e).size with
        |0=>False
        |_+1=>match Nat.beq (cx.T e).zc.length sz with
         |true=>(n=es.length∧0≤i∧i≤es.length)∧rz d st r i.toNat sz es (cx.T e).zc K
         |false=>False
       |false=>False
      |_=>False
     |_=>False
    |_=>False
   |_=>False
  |none=>False
 |_=>False
def UR(cx:Cx)(all l:List Oper)(st:St)(K:St→Prop):Prop :=
 match l with
 | []=>K st
 | [o]=>Hx cx false all o st K
 |o::o2::r=>match TV o o2 with
  |true=>cQ cx o st fun Ej=>UR cx all r Ej K
  |false=>Hx cx false all o st fun Ej=>UR cx all (o2::r) Ej K
def UY:AV→List Nat
 |.ref r _=>[r]
 |.mref r=>[r]
 |_=>[]
def lL:List AV→List Nat
 | []=>[]
 |a::r=>UY a++lL r
def UZ:AV→List Nat
 |.agg cs=>lL cs
 |.clo _ cs=>lL cs
 |a=>UY a
def px:List AV→List Nat
 | []=>[]
 |a::r=>UZ a++px r
def Xy:AV→List Nat
 |.agg cs=>px cs
 |a=>UZ a
def TM:List AV→List Nat
 | []=>[]
 |a::r=>Xy a++TM r
abbrev FM:=List Nat×Option Nat
def IS(d:Option Nat)(l:List Nat):Option FM:=match d with | some d=>some (d::l,some d) | none=>none
def dI:AV→List Nat
 |.msl r _=>[r]
 |_=>[]
def WP(cx:Cx)(d:Option Nat)(s x:AV):Option FM :=
 match s with
 |.v (.slice none 0 0)=>IS (d.map (KT cx)) (dI x)
 |.slice (.full _) _=>IS (d.map (KT cx)) (dI x)
 |.slice (.id r _) _=>IS (some r) (dI x)
 |.msl r _=>IS (some r) (dI x)
 |_=>none
def bo(d:Option Nat)(args:List AV):Option FM :=
 match d with
 |some d=>match args with
  |.msl r _::_=>some ([r,BF d 0],some (r+10000000*BF d 0))
  |_=>none
 |none=>none
theorem ZU{d:Option Nat}{args:List AV}{f:FM}(h:bo d args=some f):∃d' r n l,d=some d'∧args=.msl r n::l∧f=([r,BF d' 0],some (r+10000000*BF d' 0)):=by
 unfold bo at h;split at h
 ·split at h
  ·cases h;exact⟨_,_,_,_,rfl,rfl,rfl⟩
  ·cases h
 ·cases h
def gG(d:Option Nat)(x:AV):Option FM :=
 match d with
 |some d=>match x with
  |.msl r _=>some ([r,d],some (r+10000000*d))
  |_=>none
 |none=>none
theorem ZV{d:Option Nat}{x:AV}{f:FM}(h:gG d x=some f):∃d' r n,d=some d'∧x=.msl r n∧f=([r,d'],some (r+10000000*d')):=by
 unfold gG at h;split at h
 ·split at h
  ·cases h;exact⟨_,_,_,rfl,rfl,rfl⟩
  ·cases h
 ·cases h
def gH(args:List AV):Option FM:=match Wj args with | some _=>some ([1000,1001],some 10010001000) | none=>none
def Wz:Nat:=99999999999999
def gF(k:Nat)(d:Option Nat)(args:List AV):Option FM :=
 match Nat.beq k 3 with
 |true=>some (ld,some Wz)
 |false=>bo d args
def Hd(cx:Cx)(d:Option Nat)(c:Callee)(t:Nat→AV)(args:List AV):Option FM :=
 match c,args with
 |.builtin .len,[.mref r]=>some ([r],none)
 |.builtin .len,[_]=>some ([],none)
 |.builtin .max,_=>some ([],none)
 |.builtin .min,_=>some ([],none)
 |.builtin .append,[s,x]=>WP cx d s x
 |.value f,args=>match NW cx.pl.dc d with
  |none=>some (Xy (ev t f)++TM args,none)
  |some 0=>IS (d.map fun d=>BF d 0) (Xy (ev t f)++TM args)
  |some 1=>match args with |.msl r _::_=>some ([r],some r) |_=>none
  |some (k+2)=>match Nat.beq k 1 with
   |true=>IS (d.map fun d=>BF d 0) (Xy (ev t f)++TM args)
   |false=>match Nat.beq k 2 with
    |true=>gH args
    |false=>gF k d args
 |_,_=>none
def Fx(cx:Cx)(o:Oper)(st:St):Option FM :=
 match o.op with
 |.move _ |.pick .. |.nilCheck _ |.unOp .. |.convert .. |.fieldAddr .. |.field .. |.indexAddr .. |.index .. |.extract .. |.build ..=>some ([],none)
 |.binOp _ _ x _ _=>match ev st.t x with |.slice ..=>none |_=>some ([],none)
 |.assign x=>match ev st.t x with |.v (.slice ..)=>none |_=>some ([],none)
 |.load _ p=>match ev st.t p with |.cptr _=>some ([],none) |.ref r _=>some ([r],none) |.eref r ..=>some ([r],none) |_=>none
 |.call c=>Hd cx o.dst c.callee st.t (c.args.toList.map (ev st.t))
 |.alloc _=>IS o.dst []
 |.box _ x=>IS o.dst (Xy (ev st.t x))
 |.buildSlice _ _ ps=>IS (o.dst.map (KT cx)) (TM (ps.toList.map fun p=>ev st.t p.2))
 |.store _ p x=>match ev st.t p with
  |.ref r _=>match I5 cx.pl.frz r with |true=>none |false=>IS (some r) []
  |.eref r ..=>IS (some r) (Xy (ev st.t x))
  |_=>none
 |.slice _ x _ _ mx=>match NW cx.pl.tok o.dst with
  |some _=>gG (o.dst.map (KT cx)) (ev st.t x)
  |none=>match mx,ev st.t x with
   |none,.msl ..=>none
   |none,_=>some ([],none)
   |some _,.slice ..=>IS o.dst []
   |_,_=>none
 |.makeFunc _ _ cap=>some (TM (cap.toList.map (ev st.t)),none)
 |.mapUpdate _ m _ x=>match ev st.t m with |.mref r=>IS (some r) (Xy (ev st.t x)) |_=>none
 |.makeSlice ..=>IS (o.dst.map (KT cx)) []
 |.lookup _ m _ _=>match ev st.t m with |.cmap ..=>some ([],none) |.mref r=>some ([r],none) |_=>none
 |.makeMap ..=>IS o.dst []
 |_=>none
def NH(cx:Cx)(all:List Oper)(o:Oper)(st:St):Option FM :=
 match o.guard with
 |none=>Fx cx o st
 |some (j,want)=>match KA all j with
  |none=>none
  |some d=>match st.t d,want with
   |.v (.bool true),true=>Fx cx o st
   |.v (.bool false),false=>Fx cx o st
   |_,_=>some ([],none)
def sX(l:List Nat):Bool:=match l with | []=>true | _=>false
def Y2(l:List Nat)(r:Nat):Bool:=bif Nat.beq r Wz then sX l else !I5 l r&&(Nat.blt r 10000000||(!I5 l (r % 10000000)&&!I5 l (r / 10000000)))
def Th(a b:FM):Bool :=
 (match a.2 with | some r=>Y2 b.1 r | none=>true)&&(match b.2 with | some r=>Y2 a.1 r | none=>true)
def Pq(o:Oper)(i:Nat)(D:List Nat):Bool:=o.after.toList.any fun e=>Region.binds .any e&&(Nat.beq e.on i||I5 D e.on)
def Qn(i:Nat)(D:List Nat)(k:Nat):List Oper→List Nat
 | []=>D
 |o::r=>match Pq o i D with
  |true=>Qn i (k::D) (k+1) r
  |false=>Qn i D (k+1) r
def UB(i:Nat)(D:List Nat)(k:Nat):List Oper→Bool
 | []=>true
 |o::r=>(Pq o i D||!I5 D k)&&UB i D (k+1) r
def IN(ops:Array Oper)(oi:Oper)(fi:FM)(D:List Nat)(k:Nat):List Oper→List FM→Bool
 |o::r,f::fs=>(I5 D k||(oi.apart ops o&&Th fi f))&&IN ops oi fi D (k+1) r fs
 | [],[]=>true
 |_,_=>false
def Mk(ops:Array Oper)(all:List Oper)(k:Nat):List Oper→List FM→Bool
 |o::r,f::fs =>
  let D:=Qn k [] 0 all
  (o.after.toList.all fun e=>!Region.binds .any e||Nat.blt e.on k)&&UB k D 0 all&&(D.all fun j=>Nat.blt k j&&Nat.blt j all.length)&&IN ops o f D (k+1) r fs&&Mk ops all (k+1) r fs
 | [],[]=>true
 |_,_=>false
def Ti(ops:Array Oper)(fs:List FM):Bool:=Region.noSelect ops&&Mk ops ops.toList 0 ops.toList fs
def XI(cx:Cx)(ops:Array Oper)(l:List Oper)(fs:List FM)(st:St)(K:St→Prop):Prop :=
 match l with
 | []=>Ti ops fs.reverse=true∧K st
 |o::r=>match NH cx ops.toList o st with
  |some f=>Hx cx true ops.toList o st fun Ej=>XI cx ops r (f::fs) Ej K
  |none=>False
def Tn(l:List (Nat×AV))(i:Nat):AV:=match l with | []=>.junk | (j,v)::r=>bif Nat.beq i j then v else Tn r i
structure LS where
 t:List (Nat×AV)
 h:List (Nat×HO)
 hb:Nat→HO
def LS.st(s:LS):St:=⟨Tn s.t,Aq s.h s.hb⟩
def Se(h:Nat→HO)(r:Nat):Bool:=match h r with | .free=>false | _=>true
def ids0(h:Nat→HO):AV→Bool
 |.slice (.id r _) _=>Se h r
 |.slice (.ver r _ _) _=>Se h r
 |.msl r _=>Se h r
 |.ref r _=>Se h r
 |.eref r _ _ _ _=>Se h r
 |.mref r=>Se h r
 |.agg _ |.tup _ |.clo ..=>false
 |_=>true
def Yu(h:Nat→HO):List AV→Bool
 | []=>true
 |a::r=>match ids0 h a with |true=>Yu h r |false=>false
def U0(h:Nat→HO):AV→Bool
 |.agg cs=>Yu h cs
 |.tup cs=>Yu h cs
 |.clo _ cs=>Yu h cs
 |a=>ids0 h a
def RC(h:Nat→HO):List (Value×AV)→Bool
 | []=>true
 |p::r=>match U0 h p.2 with |true=>RC h r |false=>false
def lM(h:Nat→HO):List AV→Bool
 | []=>true
 |a::r=>match U0 h a with |true=>lM h r |false=>false
def Yt(h:Nat→HO):HO→Bool
 |.cells cs=>lM h cs
 |.mapU _ Ca=>RC h Ca
 |.hol _ _ _ _ a=>U0 h a
 |_=>true
def xI(st:St)(h:Nat→HO):List (Nat×AV)→Prop
 | []=>True
 |(j,a)::r=>(st.t j=a∧U0 h a=true)∧xI st h r
def xH(st:St)(h:Nat→HO):List (Nat×HO)→Prop
 | []=>True
 |(j,o)::r=>(st.h j=o∧Yt h o=true)∧xH st h r
def St.le(cx:Cx)(st:St)(s:LS):Prop :=
 xI st s.st.h s.t∧xH st s.st.h s.h∧(∀j,s.hb j=.free∨(st.h j=s.hb j∧Yt s.st.h (s.hb j)=true)) ∧
 match cx.ext with
 |false=>True
 |true=>∀j,1000≤j→j<2000→st.h j≠.free→s.st.h j≠.free
def MU(cx:Cx)(ops:Array Oper)(dr:Bool)(st:St)(K:St→Prop):Prop :=
 match dr with
 |false=>UR cx ops.toList ops.toList st K
 |true=>XI cx ops ops.toList [] st K
inductive Ex | normal | exit (id:Nat) | ret
def vd(h:Nat→HO)(o k:Nat)(K:(Nat→HO)→Prop):Prop :=
 match h o with
 |.cells cs=>match Jq cs k with
  |.msl r n=>match h r with
   |.arr sz es=>n=es.length∧K (A2 (A2 h r (.tok sz es.length)) o (.cells (EO cs k (.slice (.id r sz) es))))
   |_=>K h
  |_=>K h
 |_=>K h
def u7(h:Nat→HO)(o k j:Nat)(K:(Nat→HO)→Prop):Prop :=
 match h o with
 |.cells cs=>match Jq cs k with
  |.msl r n=>match h r with
   |.arr sz es=>match h j with
    |.free=>n=es.length∧K (A2 (A2 (A2 h r .dead) j (.arr sz es)) o (.cells (EO cs k (.msl j n))))
    |_=>False
   |_=>False
  |_=>False
 |_=>False
def yY(h:Nat→HO)(o k d:Nat)(K:(Nat→HO)→Prop):Prop :=
 match h o with
 |.cells cs=>match Jq cs k with
  |.slice (.ver r sz v) es=>match h r with
   |.var GQ v' _=>match h d with
    |.free=>(v=v'∧sz=GQ)∧K (A2 (A2 (A2 h r (.vox v)) d (.tok sz es.length)) o (.cells (EO cs k (.slice (.id d sz) es))))
    |_=>False
   |_=>False
  |_=>K h
 |_=>False
def uR(h:Nat→HO)(o k r:Nat)(K:(Nat→HO)→Prop):Prop :=
 match h o with
 |.cells cs=>match Jq cs k with
  |.slice (.id d sz) es=>match h d with
   |.tok GQ n=>match h r with
    |.vox v=>(es.length=n∧sz=GQ)∧K (A2 (A2 (A2 h d .dead) r (.var sz (v+1) n)) o (.cells (EO cs k (.slice (.ver r sz (v+1)) es))))
    |_=>False
   |_=>False
  |_=>K h
 |_=>False
def xJ(h:Nat→HO)(r:Nat)(K:(Nat→HO)→Prop):Prop :=
 match h r with
 |.free=>K (A2 h r (.vox 0))
 |_=>False
def uQ(h:Nat→HO)(o k:Nat)(K:(Nat→HO)→Prop):Prop :=
 match h o with
 |.cells cs=>match Jq cs k with
  |.mref r=>match h r with
   |.rom sh Ca=>K (A2 h o (.cells (EO cs k (.cmap sh Ca))))
   |_=>False
  |_=>False
 |_=>False
def yZ(h:Nat→HO)(o k j sz:Nat)(K:(Nat→HO)→Prop):Prop :=
 match h o with
 |.cells cs=>match Jq cs k with
  |.v (.slice none 0 0)=>match h j with
   |.free=>K (A2 (A2 h j (.arr sz [])) o (.cells (EO cs k (.msl j 0))))
   |_=>False
  |_=>False
 |_=>False
def wm(cx:Cx)(id:Nat)(h:Nat→HO)(K:(Nat→HO)→Prop):Prop :=
 match GZ cx.pl.ak (850000+id)with
 |some v=>K (gK h v)
 |none=>K h
def uP(cx:Cx)(id:Nat)(h:Nat→HO)(K:(Nat→HO)→Prop):Prop :=
 match GZ cx.pl.ak (800000+id)with
 |some v=>uQ h (v % 10000) (v / 10000 % 100) K
 |none=>K h
def tu(cx:Cx)(id:Nat)(h:Nat→HO)(K:(Nat→HO)→Prop):Prop :=
 match GZ cx.pl.ak (810000+id)with
 |some v=>uQ h (v % 10000) (v / 10000 % 100) K
 |none=>K h
def qK(cx:Cx)(id:Nat)(h:Nat→HO)(K:(Nat→HO)→Prop):Prop :=
 match GZ cx.pl.ak (900000+id)with
 |some v=>yZ h (v % 10000) (v / 10000 % 100) (v / 1000000 % 10000) (v / 10000000000) K
 |none=>K h
def xg(h:Nat→HO)(r:Nat)(K:(Nat→HO)→Prop):Prop :=
 match h r with
 |.hol sz es i c (.msl j m)=>match Nat.beq r j with
  |true=>False
  |false=>match h j with
   |.arr co qs=>m=qs.length∧∃cs,es[i]?=some cs∧c<sz∧K (A2 (A2 (A2 h j (.tok co qs.length)) j .dead) r (.arr sz (es.set i (over cs c [.slice .none qs]))))
   |_=>False
 |_=>False
def p9(cx:Cx)(id:Nat)(h:Nat→HO)(K:(Nat→HO)→Prop):Prop :=
 match GZ cx.pl.ak (500000+id)with
 |some v=>yY h (v % 10000) (v / 10000 % 100) (v / 1000000) K
 |none=>match GZ cx.pl.ak (600000+id)with
  |some v=>uR h (v % 10000) (v / 10000 % 100) (v / 1000000) K
  |none=>match GZ cx.pl.ak (700000+id)with
   |some v=>xJ h v K
   |none=>match GZ cx.pl.ak (950000+id)with
    |some v=>xg h v K
    |none=>wm cx id h fun h=>uP cx id h fun h=>tu cx id h fun h=>qK cx id h K
def u9(st:St)(s k:Nat)(K:St→Prop):Prop :=
 match st.t s with
 |.msl r n=>match st.h r with
  |.arr sz es=>match k with
   |0=>n=es.length∧K ⟨Hu st.t s (.slice .none es),A2 (A2 st.h r (.tok sz es.length)) r .dead⟩
   |k+1=>match Nat.beq r (k+1)with
    |true=>K st
    |false=>match st.h (k+1)with
     |.free=>n=es.length∧K ⟨Hu st.t s (.msl (k+1) n),A2 (A2 st.h r .dead) (k+1) (.arr sz es)⟩
     |_=>False
  |_=>K st
 |_=>K st
def rA(cx:Cx)(id:Nat)(st:St)(K:St→Prop):Prop :=
 match I5 cx.pl.cut id with
 |true=>match GZ cx.pl.ak (100000+id)with
  |none=>match GZ cx.pl.ak (200000+id)with
   |none=>match GZ cx.pl.ak (300000+id)with
    |none=>p9 cx id st.h fun h'=>∃s:LS,St.le cx ⟨st.t,h'⟩ s∧K s.st
    |some v=>u7 st.h (v % 10000) (v / 10000 % 100) (v / 1000000) fun h'=>∃s:LS,St.le cx ⟨st.t,h'⟩ s∧K s.st
   |some v=>u9 st (v % 1000) (v / 1000) fun Ej=>∃s:LS,St.le cx Ej s∧K s.st
  |some v=>vd st.h (v % 1000) (v / 1000) fun h'=>∃s:LS,St.le cx ⟨st.t,h'⟩ s∧K s.st
 |false=>K st
def RV(cx:Cx)(c:Code)(Q:Ex→St→Prop)(st:St):Prop :=
 match c with
 |.skip=>Q .normal st
 |.label _=>Q .normal st
 |.region id ops dr=>rA cx id st fun st=>match cx.pl.dyn with
  | []=>MU cx ops dr st (Q .normal)
  |_=>∃n,MU { cx with nid:=n } ops dr st (Q .normal)
 |.seq a b=>RV cx a (fun e Ej=>match e with |.normal=>RV cx b Q Ej |e=>Q e Ej) st
 |.cond c a b=>match ev st.t c with
  |.v (.bool true)=>RV cx a Q st
  |.v (.bool false)=>RV cx b Q st
  |_=>False
 |.block id c=>RV cx c (fun e Ej=>match e with |.exit j=>(bif Nat.beq j id then Q .normal Ej else Q (.exit j) Ej) |e=>Q e Ej) st
 |.loop c=>∃(α:Type) (I:α→LS) (μ:α→Nat),(∃x,St.le cx st (I x)) ∧
   ∀x,RV cx c (fun e Ej=>match e with | .normal=>∃y,μ y<μ x∧St.le cx Ej (I y) | e=>Q e Ej) (I x).st
 |.exit id=>Q (.exit id) st
 |.ret=>Q .ret st
 |_=>False
def O0:List AV→Nat→AV
 | [],_=>.v undef
 |a::r,n=>match n with |0=>a |n+1=>O0 r n
def mn(T:GS)(st:St):List ResultVar→(List AV→Prop)→Prop
 | [],K=>K []
 |.tmp i::r,K=>mn T st r fun l=>K (str st.h (st.t i)::l)
 |.cell a t::r,K=>Iy T st.h t (st.t a) fun v=>mn T st r fun l=>K (str st.h v::l)
def mj(cx:Cx)(st:St)(rs:List ResultVar)(K:AV→Prop):Prop :=
 mn cx.T ⟨st.t,Po st.h cx.pl.fin⟩ rs fun
  | [v]=>K v
  |vs=>K (.tup vs)
def oN(cx:Cx)(rs:List ResultVar)(K:AV→Prop)(e:Ex)(st:St):Prop :=
 match e with
 |.normal=>mj cx st rs K
 |.ret=>mj cx st rs K
 |.exit _=>False
def mo(T:GS)(st:St):List ResultVar→(List AV→Prop)→Prop
 | [],K=>K []
 |.tmp i::r,K=>mo T st r fun l=>K (st.t i::l)
 |.cell a t::r,K=>Iy T st.h t (st.t a) fun v=>mo T st r fun l=>K (v::l)
def dY(cx:Cx)(st:St)(rs:List ResultVar)(σ:Ji)(Q:AV→(Nat→HO)→Prop):Prop :=
 mo cx.T ⟨st.t,Po st.h cx.pl.fin⟩ rs fun
  | [v]=>Q (ren (CC σ) (Po st.h cx.pl.fin) v) (FU σ (Po st.h cx.pl.fin))
  |vs=>Q (ren (CC σ) (Po st.h cx.pl.fin) (.tup vs)) (FU σ (Po st.h cx.pl.fin))
def XY(cx:Cx)(rs:List ResultVar)(σ:Ji)(Q:AV→(Nat→HO)→Prop)(e:Ex)(st:St):Prop :=
 match e with
 |.normal=>dY cx st rs σ Q
 |.ret=>dY cx st rs σ Q
 |.exit _=>False
def IR(σ:Ji):List (Nat×HO)→Bool
 | []=>true
 |(i,_)::r=>Nat.ble 1000 i&&Nat.blt i 2000&&(match CC σ i with |some j=>Nat.beq j i |none=>false)&&IR σ r
end Go.Eng
