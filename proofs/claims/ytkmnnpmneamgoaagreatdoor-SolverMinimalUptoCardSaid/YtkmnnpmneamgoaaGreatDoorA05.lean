/- Lemmas for the claims of this seat, without a condition: part 5 (EngA). -/
import Derived.WalkKit
import Derived.Still
import Derived.RangeFuncSeq
import Derived.OrdersIn
import Derived.TacticsIn
namespace Go.Eng

inductive Tk | none | full (sz:Nat) | id (r sz:Nat) | ver (r sz v:Nat)

inductive KS | int (k:IntKind) | str | bool
structure Shape where
 agg:Bool
 l:List KS

inductive AV
 | v (x:Value)
 | slice (tk:Tk) (es:List (List AV))
 | msl (r n:Nat)
 | agg (cs:List AV)
 | tup (vs:List AV)
 | cptr (cs:List AV)
 | ref (r off:Nat)
 | eref (r n sz i off:Nat)
 | mref (r:Nat)
 | cmap (sh:Shape) (kvs:List (Value × AV))
 | clo (f:Nat) (caps:List AV)
 | junk

inductive HO
 | free
 | dead
 | cells (cs:List AV)
 | ro (cs:List AV)
 | tok (sz n:Nat)
 | var (sz v n:Nat)
 | vox (v:Nat)
 | arr (sz:Nat) (es:List (List AV))
 | map (sh:Shape) (kvs:List (Value × AV))
 | mapU (sh:Shape) (kvs:List (Value × AV))
 | rom (sh:Shape) (kvs:List (Value × AV))
 | iter (all rem:List (Value × AV)) (cur:Option (Value × AV))

structure St where
 t:Nat→AV
 h:Nat→HO

def hfree:Nat→HO:=fun _=>.free
def hput (h:Nat→HO) (r:Nat) (o:HO):Nat→HO:=fun i=>bif Nat.beq i r then o else h i
def tput (t:Nat→AV) (d:Nat) (v:AV):Nat→AV:=fun i=>bif Nat.beq i d then v else t i
def St.put (st:St) (d:Option Nat) (v:AV) (h:Nat→HO):St :=
 match d with
 | none=>⟨st.t,h⟩
 | some d=>⟨tput st.t d v,h⟩
def ev (t:Nat→AV):Operand→AV
 | .tmp i=>t i
 | .const v=>.v v
 | .global g=>.v (.pointer (some ⟨g,0,none⟩))
 | .func f=>.v (.func (.func f) #[] #[])

inductive TD
 | int (k:IntKind) | bool | string | slice (e:Nat) | array (n e:Nat) | struct (fs:List (Nat × Nat)) | ptr (e:Nat) | map (k e:Nat) | func | iface | other
structure TI where
 d:TD
 size:Nat
 bytes:Nat
 zero:Value
 eqok:Bool
def TI.zc (i:TI):List Value:=match i.zero with | .agg cs=>cs.toList | v=>[v]
abbrev Tab:=Nat→TI

structure Pol where
 frz:List Nat
 tok:List (Nat × Nat)
 arr:List (Nat × Nat)
 fz:List (Nat × List Nat)
 fin:List Nat
 mku:List Nat
 dyn:List Nat
 tz:List (Nat × (Nat × Nat × Nat × Nat))
 dc:List (Nat × Nat)
 ak:List (Nat × Nat)
 cut:List Nat

def memB (l:List Nat) (n:Nat):Bool :=
 match l with
 | []=>false
 | x :: r=>bif Nat.beq x n then true else memB r n
def asg (l:List (Nat × Nat)) (n:Nat):Option Nat :=
 match l with
 | []=>none
 | (x,y) :: r=>bif Nat.beq x n then some y else asg r n

def str0 (h:Nat→HO):AV→AV
 | .slice _ es=>.slice .none es
 | .ref r off=>match h r with | .ro cs=>.cptr (cs.drop off) | _=>.junk
 | .mref r=>match h r with | .rom sh kvs=>.cmap sh kvs | _=>.junk
 | .v x=>.v x
 | .cptr cs=>.cptr cs
 | .cmap s m=>.cmap s m
 | _=>.junk
def str (h:Nat→HO):AV→AV
 | .agg cs=>.agg (cs.map (str0 h))
 | .clo f cs=>.clo f (cs.map (str0 h))
 | a=>str0 h a
def strM (h:Nat→HO) (kvs:List (Value × AV)):List (Value × AV):=kvs.map fun p=>(p.1,str h p.2)
def frz1 (h:Nat→HO) (r:Nat):Nat→HO :=
 match h r with
 | .cells cs=>hput h r (.ro (cs.map (str h)))
 | .map sh kvs=>hput h r (.rom sh kvs)
 | .mapU sh kvs=>hput h r (.rom sh (strM h kvs))
 | _=>h
def frzs (h:Nat→HO):List Nat→Nat→HO
 | []=>h
 | r :: l=>frzs (frz1 h r) l
def asgL (l:List (Nat × List Nat)) (n:Nat):List Nat :=
 match l with
 | []=>[]
 | (x,y) :: r=>bif Nat.beq x n then y else asgL r n
def asgT (l:List (Nat × (Nat × Nat × Nat × Nat))) (n:Nat):Option (Nat × Nat × Nat × Nat) :=
 match l with
 | []=>none
 | (x,y) :: r=>bif Nat.beq x n then some y else asgT r n
def nthA (l:List AV) (n:Nat):AV :=
 match l with
 | []=>.junk
 | x :: r=>match n with | 0=>x | n+1=>nthA r n
def overA (cs:List AV) (o:Nat) (v:AV):List AV :=
 match cs with
 | []=>[]
 | c :: cs=>match o with | 0=>v :: cs | o+1=>c :: overA cs o v
def tz1 (h:Nat→HO) (r k j sz:Nat):Nat→HO :=
 match h r with
 | .cells cs=>match nthA cs k with
  | .v (.slice none 0 0)=>match h j with
   | .free=>hput (hput h j (.tok sz 0)) r (.cells (overA cs k (.slice (.id j sz) [])))
   | _=>h
  | _=>h
 | _=>h
def rsv (h:Nat→HO):AV→AV
 | .ref r off=>match h r with | .ro cs=>.cptr (cs.drop off) | _=>.ref r off
 | .mref r=>match h r with | .rom sh kvs=>.cmap sh kvs | _=>.mref r
 | a=>a

def one:AV→Bool
 | .v x=>x.oneCell'
 | .agg _ | .tup _ | .junk=>false
 | _=>true
def allOne:List AV→Bool
 | []=>true
 | a :: r=>match one a with | true=>allOne r | false=>false
def avCells:AV→List AV
 | .agg cs=>cs
 | a=>[a]

def InI64 (a:Int):Prop:=-9223372036854775808≤a∧a<9223372036854775808

def headK (cs:List AV) (K:AV→Prop):Prop :=
 match cs with
 | a :: _=>K a
 | []=>False
def boolK (p:Prop) (K:AV→Prop):Prop:=(p→K (.v (.bool true)))∧(¬ p→K (.v (.bool false)))
def loadK (T:Tab) (t:Nat) (cs:List AV) (K:AV→Prop):Prop :=
 match (T t).d with
 | .struct _=>(T t).size≤cs.length∧K (.agg (cs.take (T t).size))
 | .array _ _=>(T t).size≤cs.length∧K (.agg (cs.take (T t).size))
 | .bool=>headK cs fun | .v (.bool b)=>(b=true→K (.v (.bool true)))∧(b=false→K (.v (.bool false))) | _=>False
 | .other=>False
 | _=>headK cs K

def eqL:List AV→List AV→Prop
 | [],[]=>True
 | .v (.int _ a) :: r,.v (.int _ b) :: s=>a=b∧eqL r s
 | .v (.string a) :: r,.v (.string b) :: s=>a=b∧eqL r s
 | .v (.bool a) :: r,.v (.bool b) :: s=>a=b∧eqL r s
 | _,_=>False
def ikB:IntKind→IntKind→Bool
 | .i64,.i64 | .u8,.u8 | .u32,.u32 | .i32,.i32 | .u64,.u64 | .u16,.u16 | .i16,.i16 | .i8,.i8=>true
 | _,_=>false
def flatGo (f:Nat→Option (List KS)):Nat→List (Nat × Nat)→Option (List KS)
 | _,[]=>some []
 | n,(t,o) :: r=>match Nat.beq o n with
  | true=>match f t with
   | some a=>match flatGo f (n+a.length) r with
    | some b=>some (a++b)
    | none=>none
   | none=>none
  | false=>none
def flatT (T:Tab):Nat→Nat→Option (List KS)
 | 0,_=>none
 | n+1,t=>match (T t).d with
  | .int k=>match (T t).size with | 1=>some [.int k] | _=>none
  | .string=>match (T t).size with | 1=>some [.str] | _=>none
  | .bool=>match (T t).size with | 1=>some [.bool] | _=>none
  | .struct fs=>match (T t).eqok with
   | true=>match flatGo (flatT T n) 0 fs with
    | some l=>match Nat.beq l.length (T t).size with | true=>some l | false=>none
    | none=>none
   | false=>none
  | _=>none
def ksB:KS→Value→Bool
 | .int k,.int k' _=>ikB k k'
 | .str,.string _=>true
 | .bool,.bool _=>true
 | _,_=>false
def ksAV:List KS→List AV→Bool
 | [],[]=>true
 | k :: r,.v x :: s=>match ksB k x with | true=>ksAV r s | false=>false
 | _,_=>false
def eqK (T:Tab) (t:Nat) (x y:AV) (K:AV→Prop):Prop :=
 match (T t).d with
 | .bool=>match x,y with
  | .v (.bool a),.v (.bool b)=>K (.v (.bool (a == b)))
  | _,_=>False
 | .struct _=>match x,y with
  | .agg xs,.agg ys=>match flatT T 8 t with
   | some l=>match ksAV l xs with
    | true=>match ksAV l ys with
     | true=>boolK (eqL xs ys) K
     | false=>False
    | false=>False
   | none=>False
  | _,_=>False
 | .slice _=>match x,y with
  | .slice _ es,.v (.slice none 0 0)=>(es≠[]→K (.v (.bool false)))∧(es=[]→K (.v (.bool true))∧K (.v (.bool false)))
  | .v (.slice none 0 0),.v (.slice none 0 0)=>K (.v (.bool true))
  | _,_=>False
 | .ptr _=>match x,y with
  | .v (.pointer none),.v (.pointer none)=>K (.v (.bool true))
  | .cptr _,.v (.pointer none)=>K (.v (.bool false))
  | .ref _ _,.v (.pointer none)=>K (.v (.bool false))
  | .eref _ _ _ _ _,.v (.pointer none)=>K (.v (.bool false))
  | _,_=>False
 | _=>False
def notK (K:AV→Prop):AV→Prop
 | .v (.bool true)=>K (.v (.bool false))
 | .v (.bool false)=>K (.v (.bool true))
 | _=>False
def arithU (op:BinOp) (k:IntKind) (a b:Int) (K:AV→Prop):Prop :=
 match op with
 | .add=>K (.v (.int k (k.wrap (a+b))))
 | .sub=>K (.v (.int k (k.wrap (a - b))))
 | .mul=>K (.v (.int k (k.wrap (a*b))))
 | _=>False
def arithK (op:BinOp) (k:IntKind) (a b:Int) (K:AV→Prop):Prop :=
 match k with
 | .i64=>match op with
  | .add=>InI64 (a+b)∧K (.v (.int .i64 (a+b)))
  | .sub=>InI64 (a - b)∧K (.v (.int .i64 (a - b)))
  | .mul=>InI64 (a*b)∧K (.v (.int .i64 (a*b)))
  | .quo=>(0≤a∧0<b∧InI64 a)∧K (.v (.int .i64 (a / b)))
  | .rem=>(0≤a∧0<b)∧K (.v (.int .i64 (a % b)))
  | _=>False
 | k=>arithU op k a b K
def binK (T:Tab) (op:BinOp) (t:Nat) (x y:AV) (K:AV→Prop):Prop :=
 match x,y with
 | .v (.int k a),.v (.int k' b)=>match ikB k k' with
  | false=>False
  | true=>match op with
   | .eql=>boolK (a=b) K
   | .neq=>boolK (a≠b) K
   | .lss=>boolK (a<b) K
   | .leq=>boolK (a≤b) K
   | .gtr=>boolK (b<a) K
   | .geq=>boolK (b≤a) K
   | op=>arithK op k a b K
 | .v (.string a),.v (.string b)=>match op with
   | .eql=>boolK (a=b) K
   | .neq=>boolK (a≠b) K
   | .lss=>boolK (Op.bytesLess a.toList b.toList=true) K
   | .geq=>boolK (Op.bytesLess a.toList b.toList=false) K
   | .gtr=>boolK (Op.bytesLess b.toList a.toList=true) K
   | .leq=>boolK (Op.bytesLess b.toList a.toList=false) K
   | .add=>((a.size+b.size:Nat):Int)≤9223372036854775807∧K (.v (.string (a++b)))
   | _=>False
 | x,y=>match op with
  | .eql=>eqK T t x y K
  | .neq=>eqK T t x y (notK K)
  | _=>False
def binK2 (T:Tab) (op:BinOp) (t:Nat) (Y:Operand) (x y:AV) (K:AV→Prop):Prop :=
 match Y with
 | .const .nilIface=>match x with
  | .v .nilIface=>match (T t).d with
   | .iface=>match op with
    | .eql=>K (.v (.bool true))
    | .neq=>K (.v (.bool false))
    | _=>False
   | _=>False
  | _=>False
 | _=>binK T op t x y K
def convK (T:Tab) (s t:Nat) (x:AV) (K:AV→Prop):Prop :=
 match (T s).d,(T t).d,x with
 | .int _,.int .i64,.v (.int _ n)=>InI64 n∧K (.v (.int .i64 n))
 | .int _,.int k,.v (.int _ n)=>K (.v (.int k (k.wrap n)))
 | .string,.string,.v (.string s)=>K (.v (.string s))
 | .slice e,.string,.slice _ es=>match (T e).d with
  | .int .u8=>∃ l:List UInt8,es=l.map (fun b=>[AV.v (.int .u8 b.toNat)])∧K (.v (.string ⟨l.toArray⟩))
  | _=>False
 | _,_,_=>False
def foff (fs:List (Nat × Nat)) (n:Nat):Option (Nat × Nat) :=
 match fs with
 | []=>none
 | x :: r=>match n with | 0=>some x | n+1=>foff r n
def fieldK (T:Tab) (s f:Nat) (x:AV) (K:AV→Prop):Prop :=
 match (T s).d with
 | .struct fs=>match foff fs f with
  | some (t,o)=>match (T t).size with
   | 0=>False
   | _+1=>match x with
    | .cptr cs=>K (.cptr (cs.drop o))
    | .ref r off=>K (.ref r (off+o))
    | .eref r n z i off=>K (.eref r n z i (off+o))
    | _=>False
  | none=>False
 | _=>False
def partK (T:Tab) (t:Nat) (cs:List AV) (K:AV→Prop):Prop:=loadK T t cs K
def fieldVK (T:Tab) (s f:Nat) (x:AV) (K:AV→Prop):Prop :=
 match (T s).d,x with
 | .struct fs,.agg cs=>match foff fs f with
  | some (t,o)=>partK T t (cs.drop o) K
  | none=>False
 | _,_=>False
def indexAddrK (T:Tab) (t:Nat) (x ix:AV) (K:AV→Prop):Prop :=
 match (T t).d,ix with
 | .slice e,.v (.int .i64 i)=>match (T e).size with
  | 0=>False
  | _+1=>match x with
   | .slice _ es=>∃ cs,(0≤i∧es[i.toNat]?=some cs)∧cs.length=(T e).size∧K (.cptr cs)
   | .msl r n=>(0≤i∧i<n)∧K (.eref r n (T e).size i.toNat 0)
   | _=>False
 | .array n e,.v (.int .i64 i)=>match (T e).size with
  | 0=>False
  | _+1=>match x with
   | .cptr cs=>(0≤i∧i<n)∧K (.cptr (cs.drop (i.toNat*(T e).size)))
   | .ref r off=>(0≤i∧i<n)∧K (.ref r (off+i.toNat*(T e).size))
   | _=>False
 | _,_=>False
def indexK (T:Tab) (t:Nat) (x ix:AV) (K:AV→Prop):Prop :=
 match (T t).d,x,ix with
 | .string,.v (.string s),.v (.int .i64 i)=>∃ b:UInt8,(0≤i∧s.data[i.toNat]?=some b)∧K (.v (.int .u8 b.toNat))
 | .array n e,.agg cs,.v (.int .i64 i)=>(0≤i∧i<n)∧partK T e (cs.drop (i.toNat*(T e).size)) K
 | _,_,_=>False
def optInt (t:Nat→AV):Option Operand→Option (Option Int)
 | none=>some none
 | some x=>match ev t x with | .v (.int .i64 i)=>some (some i) | _=>none
def over {α:Type} (cs:List α) (o:Nat) (vs:List α):List α :=
 match cs with
 | []=>[]
 | c :: cs=>match o with
  | o+1=>c :: over cs o vs
  | 0=>match vs with
   | []=>c :: cs
   | v :: vs=>v :: over cs 0 vs
structure Gh where
 ρ:Nat→Value
 ln:Nat→Nat
 tk:Nat→Bool
 own:Nat→Option Nat
 S:Nat→Nat→Prop

def ksL:List KS→List Value→Bool
 | [],[]=>true
 | k :: r,v :: s=>match ksB k v with | true=>ksL r s | false=>false
 | _,_=>false
def shB (sh:Shape) (v:Value):Bool :=
 match sh.agg,v with
 | true,.agg cs=>ksL sh.l cs.toList
 | false,v=>ksL sh.l [v]
 | _,_=>false

def MapOk (sh:Shape) (es:Array MapEntry) (ck:Nat) (kvs:List (Value × AV)):Prop :=
 es.size=kvs.length∧(∀ (i:Nat) (kv:Value × AV) (e:MapEntry),kvs[i]?=some kv→es[i]?=some e→e.key=kv.1) ∧
 (∀ kv ∈ kvs,shB sh kv.1=true)∧(kvs.map (·.1)).Nodup∧(∀ (i:Nat) (e:MapEntry),es[i]?=some e→e.born<ck) ∧
 ∀ (i j:Nat) (e e' : MapEntry),es[i]?=some e→es[j]?=some e'→e.born=e'.born→i=j

inductive Rep (g:Gh) (w:World):(Nat→Prop)→AV→Value→Prop
 | v (U:Nat→Prop) (x:Value):Rep g w U (.v x) x
 | junk (U:Nat→Prop) (x:Value):Rep g w U .junk x
 | snil (U:Nat→Prop) (a:Option Addr) (cap:Nat):Rep g w U (.slice .none []) (.slice a 0 cap)
 | slice (U:Nat→Prop) (es:List (List AV)) (b off sz cap:Nat) (val:Nat→Nat→Value) (hc:es.length≤cap)
   (hl:∀ (i:Nat) (cs:List AV),es[i]?=some cs→cs.length=sz)
   (hcell:∀ (i:Nat) (cs:List AV) (j:Nat) (av:AV),es[i]?=some cs→cs[j]?=some av →
    g.S b (off+i*sz+j)∧w.cell? ⟨b,off+i*sz+j,none⟩=some (val i j)∧(val i j).oneCell'=true)
   (hrep:∀ (i:Nat) (cs:List AV) (j:Nat) (av:AV),es[i]?=some cs→cs[j]?=some av→Rep g w (fun _=>False) av (val i j)) :
   Rep g w U (.slice .none es) (.slice (some ⟨b,off,none⟩) es.length cap)
 | tok (U:Nat→Prop) (r sz:Nat) (es:List (List AV)) (x:Value) (h:Rep g w U (.slice .none es) x) (hl:∀ c ∈ es,c.length=sz) (hu:U r) (ht:g.tk r=true) (hn:es.length≤g.ln r)
   (hx:es.length=g.ln r→x=g.ρ r):Rep g w U (.slice (.id r sz) es) x
 | ver (U:Nat→Prop) (r sz v:Nat) (es:List (List AV)) (x:Value) (h:Rep g w U (.slice .none es) x) (hl:∀ c ∈ es,c.length=sz) (hu:U r) (ht:g.tk r=true) (hn:v≤g.ln r)
   (hx:v=g.ln r→x=g.ρ r):Rep g w U (.slice (.ver r sz v) es) x
 | full (U:Nat→Prop) (sz:Nat) (es:List (List AV)) (x:Value) (h:Rep g w U (.slice .none es) x) (hl:∀ c ∈ es,c.length=sz) (hx:∃ a,x=.slice a es.length es.length):Rep g w U (.slice (.full sz) es) x
 | msl (U:Nat→Prop) (r n:Nat) (a:Option Addr) (cap:Nat) (hu:U r) (ht:g.tk r=true) (hn:n≤g.ln r) (ha:n=0∨∃ b,a=some ⟨b,0,none⟩) (hx:n=g.ln r→.slice a n cap=g.ρ r) :
   Rep g w U (.msl r n) (.slice a n cap)
 | agg (U:Nat→Prop) (cs:List AV) (vs:Array Value) (hs:vs.size=cs.length) (h1:∀ (i:Nat) (x:Value),vs[i]?=some x→x.oneCell'=true)
   (h:∀ (i:Nat) (av:AV) (x:Value),cs[i]?=some av→vs[i]?=some x→Rep g w U av x):Rep g w U (.agg cs) (.agg vs)
 | tup (U:Nat→Prop) (cs:List AV) (vs:Array Value) (hs:vs.size=cs.length)
   (h:∀ (i:Nat) (av:AV) (x:Value),cs[i]?=some av→vs[i]?=some x→Rep g w U av x):Rep g w U (.tup cs) (.tuple vs)
 | cptr (U:Nat→Prop) (cs:List AV) (b off:Nat) (val:Nat→Value)
   (hcell:∀ (j:Nat) (av:AV),cs[j]?=some av→g.S b (off+j)∧w.cell? ⟨b,off+j,none⟩=some (val j)∧(val j).oneCell'=true)
   (hrep:∀ (j:Nat) (av:AV),cs[j]?=some av→Rep g w (fun _=>False) av (val j)) :
   Rep g w U (.cptr cs) (.pointer (some ⟨b,off,none⟩))
 | ref (U:Nat→Prop) (r off b:Nat) (hu:U r) (ht:g.tk r=false) (hx:g.ρ r=.pointer (some ⟨b,0,none⟩)):Rep g w U (.ref r off) (.pointer (some ⟨b,off,none⟩))
 | eref (U:Nat→Prop) (r n sz i off b cap:Nat) (hu:U r) (ht:g.tk r=true) (hn:i<n∧n≤g.ln r) (hx:n=g.ln r→g.ρ r=.slice (some ⟨b,0,none⟩) n cap) :
   Rep g w U (.eref r n sz i off) (.pointer (some ⟨b,i*sz+off,none⟩))
 | mref (U:Nat→Prop) (r b:Nat) (hu:U r) (ht:g.tk r=false) (hx:g.ρ r=.map (some b)):Rep g w U (.mref r) (.map (some b))
 | cmap (U:Nat→Prop) (sh:Shape) (kvs:List (Value × AV)) (b:Nat) (es:Array MapEntry) (ck:Nat) (hS:g.S b 0) (hb:w.heap[b]?=some (.map es ck)) (hm:MapOk sh es ck kvs)
   (h:∀ (i:Nat) (kv:Value × AV) (e:MapEntry),kvs[i]?=some kv→es[i]?=some e→Rep g w (fun _=>False) kv.2 e.val):Rep g w U (.cmap sh kvs) (.map (some b))
 | clo (U:Nat→Prop) (f:Nat) (cs:List AV) (vs:Array Value) (hs:vs.size=cs.length)
   (h:∀ (i:Nat) (av:AV) (x:Value),cs[i]?=some av→vs[i]?=some x→Rep g w U av x):Rep g w U (.clo f cs) (.func (.func f) #[] vs)

def HO.live:HO→Prop
 | .free | .dead | .vox _ | .ro _ | .rom _ _=>False
 | _=>True
def used (h:Nat→HO) (r:Nat):Prop:=h r≠.free
def NoU:Nat→Prop:=fun _=>False

def RepL (g:Gh) (w:World) (U:Nat→Prop) (cs:List AV) (vs:List Value):Prop :=
 vs.length=cs.length∧(∀ x ∈ vs,x.oneCell'=true)∧∀ (i:Nat) (av:AV) (x:Value),cs[i]?=some av→vs[i]?=some x→Rep g w U av x

def ObjRep (g:Gh) (w:World) (U:Nat→Prop) (r:Nat):HO→Prop
 | .free | .dead=>True
 | .cells cs=>g.tk r=false∧∃ b E vs,g.own r=some b∧g.ρ r=.pointer (some ⟨b,0,none⟩)∧w.heap[b]?=some (.cells vs E (0,0))∧RepL g w U cs vs.toList∧∀ o,¬ g.S b o
 | .ro cs=>g.tk r=false∧∃ b,g.ρ r=.pointer (some ⟨b,0,none⟩)∧Rep g w NoU (.cptr cs) (.pointer (some ⟨b,0,none⟩))
 | .tok sz n=>g.tk r=true∧g.ln r=n∧∃ a cap,g.ρ r=.slice a n cap∧(n=cap∧g.own r=none ∨
   n≤cap∧∃ b E vs off,a=some ⟨b,off,none⟩∧g.own r=some b∧w.heap[b]?=some (.cells vs E (0,0))∧vs.size=off+cap*sz∧∀ o,g.S b o→o<off+n*sz)
 | .var sz v n=>g.tk r=true∧g.ln r=v∧∃ a cap,g.ρ r=.slice a n cap∧(n=cap∧g.own r=none ∨
   n≤cap∧∃ b E vs off,a=some ⟨b,off,none⟩∧g.own r=some b∧w.heap[b]?=some (.cells vs E (0,0))∧vs.size=off+cap*sz∧∀ o,g.S b o→o<off+n*sz)
 | .vox v=>g.tk r=true∧g.ln r=v
 | .arr sz es=>g.tk r=true∧g.ln r=es.length∧(∀ cs ∈ es,cs.length=sz)∧(es=[]∧g.ρ r=.slice none 0 0∧g.own r=none ∨
   ∃ b cap E vs,g.ρ r=.slice (some ⟨b,0,none⟩) es.length cap∧g.own r=some b∧es.length≤cap∧w.heap[b]?=some (.cells vs E (0,0))∧vs.size=cap*sz ∧
    RepL g w NoU es.flatten (vs.toList.take (es.length*sz))∧∀ o,¬ g.S b o)
 | .map sh kvs=>g.tk r=false∧∃ b es ck,g.own r=some b∧g.ρ r=.map (some b)∧w.heap[b]?=some (.map es ck)∧MapOk sh es ck kvs ∧
   (∀ (i:Nat) (kv:Value × AV) (e:MapEntry),kvs[i]?=some kv→es[i]?=some e→Rep g w NoU kv.2 e.val)∧∀ o,¬ g.S b o
 | .mapU sh kvs=>g.tk r=false∧∃ b es ck,g.own r=some b∧g.ρ r=.map (some b)∧w.heap[b]?=some (.map es ck)∧MapOk sh es ck kvs ∧
   (∀ (i:Nat) (kv:Value × AV) (e:MapEntry),kvs[i]?=some kv→es[i]?=some e→Rep g w U kv.2 e.val)∧∀ o,¬ g.S b o
 | .rom sh kvs=>g.tk r=false∧∃ b,g.ρ r=.map (some b)∧Rep g w NoU (.cmap sh kvs) (.map (some b))
 | .iter all rem cur=>g.tk r=false∧∃ b mb since seen st es ck,g.own r=some b∧g.ρ r=.pointer (some ⟨b,0,none⟩)∧w.heap[b]?=some (.mapIter (some mb) since seen st) ∧
   g.S mb 0∧w.heap[mb]?=some (.map es ck)∧(∃ sh,MapOk sh es ck all)∧since=ck∧st=ck ∧
   (∀ (i:Nat) (kv:Value × AV) (e:MapEntry),all[i]?=some kv→es[i]?=some e→Rep g w NoU kv.2 e.val) ∧
   (rem.Nodup∧∀ kv ∈ rem,kv ∈ all)∧(∀ (i:Nat) (kv:Value × AV) (e:MapEntry),all[i]?=some kv→es[i]?=some e→(kv ∈ rem↔e.born ∉ seen)) ∧
   (match cur with | none=>True | some kv=>∃ (i:Nat) (e:MapEntry),all[i]?=some kv∧es[i]?=some e∧seen.back?=some e.born)∧∀ o,¬ g.S b o

def gB:Nat:=0
def gTab:List (Nat × Nat × Option Value):=[]
def GlobOk (g:Gh) (w:World):Prop:=(g.S gB 0∧∃ m,w.cell? ⟨gB,0,none⟩=some (.int .i64 m))∧∀ x ∈ gTab,g.S x.1 x.2.1∧w.cell? ⟨x.1,x.2.1,none⟩=x.2.2
structure Inv (w0:World) (g0:Gh) (h0:Nat→HO) (h:Nat→HO) (g:Gh) (w:World):Prop where
 os:w.os=w0.os
 tape:w.tape=w0.tape
 output:w.output=w0.output
 size:w0.heap.size≤w.heap.size
 frame:∀ b,b<w0.heap.size→(∀ r,(h0 r).live→g0.own r≠some b)→w.heap[b]?=w0.heap[b]?
 slt:∀ b o,g.S b o→b<w.heap.size
 objs:∀ r,ObjRep g w (used h) r (h r)
 inj:∀ r r' b,(h r).live→(h r').live→g.own r=some b→g.own r'=some b→r=r'
 loc:∀ r b,(h r).live→g.own r=some b→b<w.heap.size∧(w0.heap.size≤b∨∃ r',(h0 r').live∧g0.own r'=some b)
 sg:∀ b o,g.S b o→g0.S b o∨w0.heap.size≤b∨∃ r',(h0 r').live∧g0.own r'=some b
 glob:GlobOk g w

def Keeps (g:Gh) (w:World) (g' : Gh) (w' : World):Prop :=
 ∀ b o,g.S b o→g'.S b o∧w'.cell? ⟨b,o,none⟩=w.cell? ⟨b,o,none⟩∧∀ es ck,w.heap[b]?=some (.map es ck)→w'.heap[b]?=some (.map es ck)
def GhLe (g g' : Gh) (U:Nat→Prop):Prop :=
 ∀ i,U i→g'.tk i=g.tk i∧g.ln i≤g'.ln i∧(g.tk i=false→g'.ρ i=g.ρ i)∧(g'.ln i=g.ln i→g'.ρ i=g.ρ i)

structure Le (h:Nat→HO) (g:Gh) (w:World) (h' : Nat→HO) (g' : Gh) (w' : World):Prop where
 gh:GhLe g g' (used h)
 us:∀ i,used h i→used h' i
 keeps:Keeps g w g' w'

def Enters (P : Program) (f : Nat) : Prop := ∃ fn, P.funcs[f]? = some fn ∧ (fn.name == "runtime.NumGoroutine") = false ∧ fn.body.isNone = false

def ACall (P:Program) (f:Nat) (args:List AV) (h0:Nat→HO) (Q:AV→(Nat→HO)→Prop):Prop :=
 Enters P f∧∀ (g:Gh) (w:World) (vals:Array Value),vals.size=args.length→(∀ (i:Nat) (av:AV) (x:Value),args[i]?=some av→vals[i]?=some x→Rep g w (used h0) av x) →
  Inv w g h0 h0 g w →
  Calls P f vals w fun e w'=>∃ v r h' g',e=.returned v∧Q r h'∧Rep g' w' (used h') r v∧Inv w g h0 h' g' w'∧Le h0 g w h' g' w'

def PCall (P:Program) (f:Nat) (args:List AV) (res:AV):Prop:=ACall P f args hfree fun r h'=>r=res∧h'=hfree

def YCall (P:Program) (Y:Gh→World→Prop) (l:Nat) (args:List AV) (h0:Nat→HO) (Q:AV→(Nat→HO)→Prop):Prop :=
 ∀ (g:Gh) (w:World) (vals:Array Value),vals.size=args.length→(∀ (i:Nat) (av:AV) (x:Value),args[i]?=some av→vals[i]?=some x→Rep g w (used h0) av x) →
  Inv w g h0 h0 g w→Y g w →
  YieldAt Fence.wide 0 P l vals w fun e w'=>∃ v r h' g',e=.returned v∧Q r h'∧Rep g' w' (used h') r v∧Inv w g h0 h' g' w'∧Le h0 g w h' g' w'
def ACallY (P:Program) (Y:Gh→World→Prop) (f:Nat) (args:List AV) (h0:Nat→HO) (Q:AV→(Nat→HO)→Prop):Prop :=
 Enters P f∧∀ (g:Gh) (w:World) (vals:Array Value),vals.size=args.length→(∀ (i:Nat) (av:AV) (x:Value),args[i]?=some av→vals[i]?=some x→Rep g w (used h0) av x) →
  Inv w g h0 h0 g w→Y g w →
  Calls P f vals w fun e w'=>∃ v r h' g',e=.returned v∧Q r h'∧Rep g' w' (used h') r v∧Inv w g h0 h' g' w'∧Le h0 g w h' g' w'
def ACallV (P:Program) (Y:Nat→Gh→World→Prop) (F:AV) (args:List AV) (h:Nat→HO) (Q:AV→(Nat→HO)→Prop):Prop :=
 match F with
 | .v (.func (.func f) ⟨[]⟩ ⟨[]⟩)=>ACall P f args h Q
 | .clo f caps=>ACall P f (args++caps) h Q
 | .v (.func (.yield l) ⟨[]⟩ ⟨[]⟩)=>YCall P (Y l) l args h Q
 | _=>False
def PCallV (P:Program) (F:AV) (args:List AV) (res:AV):Prop :=
 match F with
 | .v (.func (.func f) ⟨[]⟩ ⟨[]⟩)=>PCall P f args res
 | .clo f caps=>PCall P f (args++caps) res
 | _=>False

structure Cx where
 P:Program
 T:Tab
 pl:Pol
 ext:Bool
 nid:Nat
 yp:Nat→List (Nat × Nat)→Gh→World→Prop
def did (cx:Cx) (d:Nat):Nat:=bif memB cx.pl.dyn d then cx.nid else d

abbrev HK:=AV→(Nat→HO)→Prop

def allocK (T:Tab) (d:Option Nat) (h:Nat→HO) (e:Nat) (K:HK):Prop :=
 match d with
 | none=>False
 | some d=>match h d with
  | .free=>match (T e).d with
   | .other=>False
   | _=>match allOne ((T e).zc.map .v) with
    | true=>K (.ref d 0) (hput h d (.cells ((T e).zc.map .v)))
    | false=>False
  | _=>False
def cellsK (n:Nat) (a:AV) (K:List AV→Prop):Prop :=
 match a with
 | .agg cs=>match Nat.beq cs.length n with
  | true=>K cs
  | false=>False
 | a=>match one a with
  | true=>match n with
   | 1=>K [a]
   | _=>False
  | false=>False
def boxK (cx:Cx) (d:Option Nat) (h:Nat→HO) (e:Nat) (x:AV) (K:HK):Prop :=
 match d with
 | none=>False
 | some d=>match h d with
  | .free=>match (cx.T e).d with
   | .other=>False
   | _=>cellsK (cx.T e).size x fun cs=>match memB cx.pl.frz d with
    | true=>K (.ref d 0) (hput h d (.ro (cs.map (str h))))
    | false=>K (.ref d 0) (hput h d (.cells cs))
  | _=>False
def storeK (cx:Cx) (h:Nat→HO) (t:Nat) (p x:AV) (K:HK):Prop :=
 match (cx.T t).d with
 | .other=>False
 | _=>cellsK (cx.T t).size x fun vs=>match p with
  | .ref r off=>match h r with
   | .cells cs=>off+vs.length≤cs.length∧(match memB cx.pl.frz r with
    | true=>K (.v undef) (hput h r (.ro ((over cs off vs).map (str h))))
    | false=>K (.v undef) (hput h r (.cells (over cs off vs))))
   | _=>False
  | .eref r n sz i off=>match h r with
   | .arr sz' es=>match Nat.beq sz sz' with
    | true=>n=es.length∧∃ cs,es[i]?=some cs∧off+vs.length≤sz∧K (.v undef) (hput h r (.arr sz (es.set i (over cs off (vs.map (str h))))))
    | false=>False
   | _=>False
  | _=>False
def loadHK (T:Tab) (h:Nat→HO) (t:Nat) (p:AV) (K:AV→Prop):Prop :=
 match p with
 | .cptr cs=>loadK T t cs K
 | .ref r off=>match h r with
  | .cells cs=>loadK T t (cs.drop off) K
  | .ro cs=>loadK T t (cs.drop off) K
  | _=>False
 | .eref r n sz i off=>match h r with
  | .arr sz' es=>match Nat.beq sz sz' with
   | true=>n=es.length∧∃ cs,es[i]?=some cs∧loadK T t (cs.drop off) K
   | false=>False
  | _=>False
 | _=>False
def fillK (pl:Nat→Option (Nat × Nat)) (cs:List AV) (t:Nat→AV) (ps:List (Nat × Operand)) (K:List AV→Prop):Prop :=
 match ps with
 | []=>K cs
 | (i,x) :: r=>match pl i with
  | none=>False
  | some (o,n)=>cellsK n (ev t x) fun vs=>match Nat.ble (o+n) cs.length with
   | true=>fillK pl (over cs o vs) t r K
   | false=>False
def allSized (T:Tab):List (Nat × Nat)→Bool
 | []=>true
 | (t,_) :: r=>match (T t).size with | 0=>false | _+1=>allSized T r
def buildK (T:Tab) (ty:Nat) (t:Nat→AV) (ps:List (Nat × Operand)) (K:AV→Prop):Prop :=
 match allOne ((T ty).zc.map .v) with
 | false=>False
 | true=>match (T ty).d with
  | .struct fs=>match allSized T fs with
   | false=>False
   | true=>fillK (fun i=>match foff fs i with | some (t,o)=>some (o,(T t).size) | none=>none) ((T ty).zc.map .v) t ps fun cs=>K (.agg cs)
  | .array _ e=>match (T e).size with
   | 0=>False
   | _+1=>fillK (fun i=>some (i*(T e).size,(T e).size)) ((T ty).zc.map .v) t ps fun cs=>K (.agg cs)
  | _=>False
def fillE (n sz:Nat) (h:Nat→HO) (es:List (List AV)) (t:Nat→AV) (ps:List (Nat × Operand)) (K:List (List AV)→Prop):Prop :=
 match ps with
 | []=>K es
 | (i,x) :: r=>match Nat.blt i n with
  | true=>cellsK sz (ev t x) fun vs=>fillE n sz h (es.set i (vs.map (str h))) t r K
  | false=>False
def newSliceK (cx:Cx) (d:Option Nat) (h:Nat→HO) (sz:Nat) (es:List (List AV)) (K:HK):Prop :=
 match d with
 | none=>False
 | some d=>match h (did cx d) with
  | .free=>match asg cx.pl.arr d with
   | some _=>K (.msl (did cx d) es.length) (hput h (did cx d) (.arr sz es))
   | none=>K (.slice (.id (did cx d) sz) es) (hput h (did cx d) (.tok sz es.length))
  | _=>False
def buildSliceK (cx:Cx) (d:Option Nat) (h:Nat→HO) (ty n:Nat) (t:Nat→AV) (ps:List (Nat × Operand)) (K:HK):Prop :=
 match (cx.T ty).d with
 | .slice e=>match allOne ((cx.T e).zc.map .v),Nat.beq (cx.T e).zc.length (cx.T e).size with
  | true,true=>match (cx.T e).size with
   | 0=>False
   | _+1=>match Nat.ble (n*(cx.T e).size) 16777216 with
    | true=>fillE n (cx.T e).size h (List.replicate n ((cx.T e).zc.map .v)) t ps fun es=>newSliceK cx d h (cx.T e).size es K
    | false=>False
  | _,_=>False
 | _=>False
def makeFuncK (t:Nat→AV) (h:Nat→HO) (fn:Fn) (first captured:List Operand) (K:AV→Prop):Prop :=
 match fn,first with
 | .func f,[]=>K (.clo f (captured.map fun x=>rsv h (ev t x)))
 | _,_=>False
def AllLen (sz:Nat):List (List AV)→Prop
 | []=>True
 | c :: r=>c.length=sz∧AllLen sz r
def elemsK (h:Nat→HO) (x:AV) (K:List (List AV)→Prop):Prop :=
 match x with
 | .slice _ es=>K es
 | .v (.slice none 0 0)=>K []
 | .msl r n=>match h r with
  | .arr _ es=>n=es.length∧K es
  | _=>False
 | _=>False
def appendK (cx:Cx) (d:Option Nat) (h:Nat→HO) (ty:Nat) (s x:AV) (K:HK):Prop :=
 match (cx.T ty).d with
 | .slice e=>match Nat.beq (cx.T e).zc.length (cx.T e).size with
  | false=>False
  | true=>match (cx.T e).size with
   | 0=>False
   | _+1=>elemsK h x fun es2=>match s with
    | .v (.slice none 0 0)=>(AllLen (cx.T e).size es2∧es2.length*(cx.T e).bytes≤140737488355328∧es2.length≤9223372036854775807)∧newSliceK cx d h (cx.T e).size es2 K
    | .slice (.full sz') es=>match Nat.beq sz' (cx.T e).size with
     | true=>(AllLen (cx.T e).size es2∧0<es2.length∧(es.length+es2.length)*(cx.T e).bytes≤140737488355328∧es.length+es2.length≤9223372036854775807)∧newSliceK cx d h (cx.T e).size (es++es2) K
     | false=>False
    | .slice (.id r sz') es=>match h r with
     | .tok sz n=>match Nat.beq sz (cx.T e).size,Nat.beq sz' sz with
      | true,true=>(AllLen sz es2∧es.length=n∧(es.length+es2.length)*(cx.T e).bytes≤140737488355328∧es.length+es2.length≤9223372036854775807) ∧
        K (.slice (.id r sz) (es++es2)) (hput h r (.tok sz (es.length+es2.length)))
      | _,_=>False
     | _=>False
    | .msl r n=>match h r with
     | .arr sz es=>match Nat.beq sz (cx.T e).size with
      | true=>(AllLen sz es2∧es.length=n∧(es.length+es2.length)*(cx.T e).bytes≤140737488355328∧es.length+es2.length≤9223372036854775807) ∧
        K (.msl r (es.length+es2.length)) (hput h r (.arr sz (es++es2)))
      | false=>False
     | _=>False
    | _=>False
 | _=>False

abbrev Ren:=List (Nat × Nat)
inductive CallM | pure | rel | gen (σ:Ren) (nn:Nat) | geny (σ:Ren) (nn:Nat)
def rfwd (σ:Ren) (n:Nat):Option Nat :=
 match σ with
 | []=>none
 | (i,j) :: r=>bif Nat.beq i n then some j else rfwd r n
def rbwd (σ:Ren) (n:Nat):Option Nat :=
 match σ with
 | []=>none
 | (i,j) :: r=>bif Nat.beq j n then some i else rbwd r n
def renOk:Ren→Bool
 | []=>true
 | (i,j) :: r=>(match rfwd r i,rbwd r j with | none,none=>true | _,_=>false)&&Nat.ble 1000 j&&Nat.blt j 2000&&renOk r

def renInj:Ren→Bool
 | []=>true
 | (i,j) :: r=>(match rfwd r i,rbwd r j with | none,none=>true | _,_=>false)&&renInj r
def ren0 (f:Nat→Option Nat) (h:Nat→HO):AV→AV
 | .slice (.id r sz) es=>match f r with | some r'=>.slice (.id r' sz) es | none=>.slice .none es
 | .slice (.ver r sz v) es=>match f r with | some r'=>.slice (.ver r' sz v) es | none=>.slice .none es
 | .msl r n=>match f r with | some r'=>.msl r' n | none=>.junk
 | .ref r off=>match f r with | some r'=>.ref r' off | none=>str0 h (.ref r off)
 | .eref r n sz i off=>match f r with | some r'=>.eref r' n sz i off | none=>.junk
 | .mref r=>match f r with | some r'=>.mref r' | none=>str0 h (.mref r)
 | a=>str0 h a
def ren1 (f:Nat→Option Nat) (h:Nat→HO):AV→AV
 | .agg cs=>.agg (cs.map (ren0 f h))
 | .clo g cs=>.clo g (cs.map (ren0 f h))
 | a=>ren0 f h a
def ren (f:Nat→Option Nat) (h:Nat→HO):AV→AV
 | .tup cs=>.tup (cs.map (ren1 f h))
 | a=>ren1 f h a
def HO.ren (f:Nat→Option Nat) (h:Nat→HO):HO→HO
 | .cells cs=>.cells (cs.map (ren1 f h))
 | .mapU sh kvs=>.mapU sh (kvs.map fun p=>(p.1,ren1 f h p.2))
 | o=>o
def heapOf (l:List (Nat × HO)) (hb:Nat→HO) (i:Nat):HO:=match l with | []=>hb i | (j,v) :: r=>bif Nat.beq i j then v else heapOf r hb i
def renL (f:Nat→Option Nat) (h:Nat→HO):Ren→List (Nat × HO)
 | []=>[]
 | (i,j) :: r=>(j,(h i).ren f h) :: renL f h r
def renH (σ:Ren) (h:Nat→HO):Nat→HO:=heapOf (renL (rfwd σ) h σ) hfree
def newId (d k:Nat):Nat:=10000+100*d+k
def backId (σ:Ren) (d nn:Nat) (j:Nat):Option Nat :=
 match rbwd σ j with
 | some i=>some i
 | none=>match Nat.ble 2000 j&&Nat.blt j (2000+nn) with | true=>some (newId d (j - 2000)) | false=>none
def backH (σ:Ren) (d nn:Nat) (h h' : Nat→HO):Nat→HO:=fun i =>
 match rfwd σ i with
 | some j=>(h' j).ren (backId σ d nn) h'
 | none=>match Nat.ble (newId d 0) i&&Nat.blt i (newId d nn) with | true=>(h' (2000+(i - newId d 0))).ren (backId σ d nn) h' | false=>h i
def newFree (h:Nat→HO) (d:Nat):Nat→Bool
 | 0=>true
 | k+1=>(match h (newId d k) with | .free=>true | _=>false)&&newFree h d k
def newApart (σ:Ren) (d nn:Nat):Bool :=
 match σ with
 | []=>true
 | (i,_) :: r=>!(Nat.ble (newId d 0) i&&Nat.blt i (newId d nn))&&newApart r d nn

def asgO (l:List (Nat × Nat)) (d:Option Nat):Option Nat:=match d with | none=>none | some d=>asg l d
def noTup:AV→Bool | .tup _=>false | _=>true
def noTups:List AV→Bool
 | []=>true
 | a :: r=>match noTup a with | true=>noTups r | false=>false
def valsL:List AV→Option (List Value)
 | []=>some []
 | .v x :: r=>match valsL r with | some l=>some (x :: l) | none=>none
 | _=>none
def turnK (cx:Cx) (k:Nat) (d:Option Nat) (h:Nat→HO) (F:AV) (args:List AV) (K:HK):Prop :=
 match d,F,args with
 | some d,.v (.func (.func f) ⟨[]⟩ ⟨[]⟩),.msl r n :: l=>match valsL l with
  | some vs=>match h r with
   | .arr sz es=>match k with
    | 0=>∃ n' es',ACall cx.P f (.msl 1000 n :: vs.map .v) (heapOf [(1000,.arr sz es)] hfree) (fun r' h'=>r'=.msl 1000 n'∧h'=heapOf [(1000,.arr sz es')] hfree)∧K (.msl r n') (hput h r (.arr sz es'))
    | _+1=>∃ n' es',(newFree h d 1&&Nat.blt r 10000000&&!Nat.beq r (newId d 0))=true∧ACall cx.P f (.msl 1000 n :: vs.map .v) (heapOf [(1000,.arr sz es)] hfree) (fun r' h'=>r'=.msl 2000 n'∧h'=heapOf [(1000,.dead),(2000,.arr sz es')] hfree) ∧
      K (.msl (newId d 0) n') (hput (hput h r .dead) (newId d 0) (.arr sz es'))
   | _=>False
  | none=>False
 | _,_,_=>False
def tokenK (cx:Cx) (d:Option Nat) (st:St) (F:AV) (args:List AV) (K:HK):Prop :=
 match d with
 | none=>False
 | some d=>∃ sz es,(newFree st.h d 1&&noTup F&&noTups args)=true∧ACallV cx.P (fun l=>cx.yp l []) (str st.h F) (args.map (str st.h)) hfree (fun r h'=>r=.slice (.id 2000 sz) es∧h'=heapOf [(2000,.tok sz es.length)] hfree) ∧
   K (.slice (.id (newId d 0) sz) es) (hput st.h (newId d 0) (.tok sz es.length))
def yieldK (cx:Cx) (d:Option Nat) (st:St) (F:AV) (args:List AV) (K:HK):Prop :=
  match d,F,valsL args with
  | some _,.v (.func (.yield l) ⟨[]⟩ ⟨[]⟩),some vs=>match st.h 1000,st.h 1001 with
    | .cells [.slice (.id r sz) es],.tok sz2 n=>(r=1001∧sz2=sz)∧∃ v es' n',YCall cx.P (cx.yp l [(1000,1000),(1001,1001)]) l (vs.map .v) (heapOf [(1000,.cells [.slice (.id 1001 sz) es]),(1001,.tok sz n)] hfree)
          (fun r h'=>r=.v v∧h'=heapOf [(1000,.cells [.slice (.id 1001 sz) es']),(1001,.tok sz n')] hfree) ∧
        K (.v v) (hput (hput st.h 1001 (.tok sz n')) 1000 (.cells [.slice (.id 1001 sz) es']))
    | _,_=>False
  | _,_,_=>False
def genR:List Nat:=[1000,1001,1002,1003,1004,1005,1006,1007]
def gencK (cx:Cx) (d:Option Nat) (st:St) (F:AV) (args:List AV) (K:HK):Prop :=
 match d,F with
 | some d,.v (.func (.func f) ⟨[]⟩ ⟨[]⟩)=>∃ (σ:Ren) (H0 Hn:List (Nat × HO)) (args' : List AV) (res:AV),
   (∀ h2:Nat→HO,(∀ r ∈ genR,h2 r=st.h r)→renH σ h2=heapOf H0 hfree∧args.map (ren (rfwd σ) h2)=args')∧(renOk σ&&newApart σ d 0&&σ.all fun p=>memB genR p.1)=true ∧
   ACall cx.P f args' (heapOf H0 hfree) (fun r h'=>r=res∧h'=heapOf Hn hfree)∧K (ren (backId σ d 0) (heapOf Hn hfree) res) (backH σ d 0 st.h (heapOf Hn hfree))
 | _,_=>False
def restK (cx:Cx) (k:Nat) (d:Option Nat) (st:St) (F:AV) (args:List AV) (K:HK):Prop :=
 match Nat.beq k 4 with
 | true=>gencK cx d st F args K
 | false=>turnK cx k d st.h F args K
def callK (cx:Cx) (dr:Bool) (d:Option Nat) (st:St) (F:AV) (args:List AV) (K:HK):Prop :=
 match dr with
 | true=>match asgO cx.pl.dc d with
  | none=>∃ res,PCallV cx.P (str st.h F) (args.map (str st.h)) res∧K res st.h
  | some 0=>match d with
   | none=>False
   | some d=>∃ n sz es,(newFree st.h d 1&&noTup F&&noTups args)=true∧ACallV cx.P (fun l=>cx.yp l []) (str st.h F) (args.map (str st.h)) hfree (fun r h'=>r=.msl 2000 n∧h'=heapOf [(2000,.arr sz es)] hfree) ∧
     K (.msl (newId d 0) n) (hput st.h (newId d 0) (.arr sz es))
  | some (k+1)=>match Nat.beq k 2 with
   | true=>tokenK cx d st F args K
   | false=>match Nat.beq k 3 with
    | true=>yieldK cx d st F args K
    | false=>restK cx k d st F args K
 | false=>∃ m:CallM,match m with
  | .pure=>∃ res,PCallV cx.P (str st.h F) (args.map (str st.h)) res∧K res st.h
  | .rel=>ACallV cx.P (fun _ _ _=>True) (str st.h F) (args.map (str st.h)) hfree fun r h'=>h'=hfree∧K r st.h
  | .gen σ nn=>match d with
   | none=>False
   | some d=>(renOk σ&&newFree st.h d nn&&newApart σ d nn)=true ∧
     ACallV cx.P (fun l=>cx.yp l σ) (ren (rfwd σ) st.h F) (args.map (ren (rfwd σ) st.h)) (renH σ st.h) fun r h'=>K (ren (backId σ d nn) h' r) (backH σ d nn st.h h')
  | .geny σ nn=>match d with
   | none=>False
   | some d=>(renOk σ&&newFree st.h d nn&&newApart σ d nn)=true ∧
     match ren (rfwd σ) st.h F with
     | .clo f caps=>ACallY cx.P (fun g w=>∀ l,cx.yp l σ g w) f (args.map (ren (rfwd σ) st.h)++caps) (renH σ st.h) fun r h'=>K (ren (backId σ d nn) h' r) (backH σ d nn st.h h')
     | _=>False

def valsOf:List AV→Option (List Value)
 | []=>some []
 | .v x :: r=>match valsOf r with | some l=>some (x :: l) | none=>none
 | _=>none
def keyV:AV→Option Value
 | .v x=>some x
 | .agg cs=>match valsOf cs with | some l=>some (.agg l.toArray) | none=>none
 | _=>none
def shapeOf (T:Tab) (t:Nat):Option Shape :=
 match (T t).d with
 | .struct _=>match flatT T 8 t with | some l=>some ⟨true,l⟩ | none=>none
 | _=>match flatT T 1 t with | some l=>some ⟨false,l⟩ | none=>none
def ksEq:KS→KS→Bool
 | .int k,.int k'=>ikB k k'
 | .str,.str=>true
 | .bool,.bool=>true
 | _,_=>false
def ksLEq:List KS→List KS→Bool
 | [],[]=>true
 | a :: r,b :: s=>match ksEq a b with | true=>ksLEq r s | false=>false
 | _,_=>false
def shEq (a b:Shape):Bool :=
 match a.agg,b.agg with
 | true,true=>ksLEq a.l b.l
 | false,false=>ksLEq a.l b.l
 | _,_=>false
def keyK (T:Tab) (ty:Nat) (sh:Shape) (k:AV) (K:Value→Prop):Prop :=
 match (T ty).d with
 | .map kt _=>match shapeOf T kt with
  | some sh'=>match shEq sh sh' with
   | true=>match keyV k with
    | some kx=>match shB sh kx with
     | true=>K kx
     | false=>False
    | none=>False
   | false=>False
  | none=>False
 | _=>False
open Classical in
noncomputable def mput (kvs:List (Value × AV)) (k:Value) (a:AV):List (Value × AV) :=
 if ∃ a',(k,a') ∈ kvs then kvs.map fun p=>if p.1=k then (k,a) else p else kvs++[(k,a)]
def makeMapK (T:Tab) (mku:List Nat) (d:Option Nat) (h:Nat→HO) (ty:Nat) (K:HK):Prop :=
 match d with
 | none=>False
 | some d=>match h d with
  | .free=>match (T ty).d with
   | .map kt _=>match shapeOf T kt with
    | some sh=>match memB mku d with
     | true=>K (.mref d) (hput h d (.mapU sh []))
     | false=>K (.mref d) (hput h d (.map sh []))
    | none=>False
   | _=>False
  | _=>False
def mapUpdateK (T:Tab) (h:Nat→HO) (ty:Nat) (m k x:AV) (K:HK):Prop :=
 match m with
 | .mref r=>match h r with
  | .map sh kvs=>keyK T ty sh k fun kx=>K (.v undef) (hput h r (.map sh (mput kvs kx (str h x))))
  | .mapU sh kvs=>keyK T ty sh k fun kx=>K (.v undef) (hput h r (.mapU sh (mput kvs kx x)))
  | _=>False
 | _=>False
def zeroAV (T:Tab) (t:Nat) (K:AV→Prop):Prop :=
 match (T t).d with
 | .other=>False
 | _=>match (T t).zero with
  | .agg cs=>match allOne (cs.toList.map .v) with | true=>K (.agg (cs.toList.map .v)) | false=>False
  | z=>K (.v z)
def foundK (T:Tab) (ty:Nat) (ok:Bool) (kvs:List (Value × AV)) (kx:Value) (K:AV→Prop):Prop :=
 match (T ty).d with
 | .map _ e=>match ok with
  | true=>(∀ a,(kx,a) ∈ kvs→K (.tup [a,.v (.bool true)]))∧((∀ a,(kx,a) ∉ kvs)→zeroAV T e fun z=>K (.tup [z,.v (.bool false)]))
  | false=>(∀ a,(kx,a) ∈ kvs→K a)∧((∀ a,(kx,a) ∉ kvs)→zeroAV T e K)
 | _=>False
def foundD (T:Tab) (ty:Nat) (ok:Bool) (kvs:List (Value × AV)) (kx:Value) (K:AV→Prop):Prop :=
 match (T ty).d with
 | .map _ e=>match ok with
  | true=>(∃ a,((kx,a) ∈ kvs∧∀ b,(kx,b) ∈ kvs→b=a)∧K (.tup [a,.v (.bool true)]))∨((∀ a,(kx,a) ∉ kvs)∧zeroAV T e fun z=>K (.tup [z,.v (.bool false)]))
  | false=>(∃ a,((kx,a) ∈ kvs∧∀ b,(kx,b) ∈ kvs→b=a)∧K a)∨((∀ a,(kx,a) ∉ kvs)∧zeroAV T e K)
 | _=>False
def lookupD (T:Tab) (h:Nat→HO) (ty:Nat) (m k:AV) (ok:Bool) (K:AV→Prop):Prop :=
 match m with
 | .cmap sh kvs=>keyK T ty sh k fun kx=>foundD T ty ok kvs kx K
 | .mref r=>match h r with
  | .map sh kvs=>keyK T ty sh k fun kx=>foundD T ty ok kvs kx K
  | .mapU sh kvs=>keyK T ty sh k fun kx=>foundD T ty ok kvs kx K
  | .rom sh kvs=>keyK T ty sh k fun kx=>foundD T ty ok kvs kx K
  | _=>False
 | _=>False
def lookupK (T:Tab) (h:Nat→HO) (ty:Nat) (m k:AV) (ok:Bool) (K:AV→Prop):Prop :=
 match m with
 | .cmap sh kvs=>keyK T ty sh k fun kx=>foundK T ty ok kvs kx K
 | .mref r=>match h r with
  | .map sh kvs=>keyK T ty sh k fun kx=>foundK T ty ok kvs kx K
  | .mapU sh kvs=>keyK T ty sh k fun kx=>foundK T ty ok kvs kx K
  | .rom sh kvs=>keyK T ty sh k fun kx=>foundK T ty ok kvs kx K
  | _=>False
 | _=>False
def rangeK (d:Option Nat) (h:Nat→HO) (x:AV) (K:HK):Prop :=
 match d with
 | none=>False
 | some d=>match h d with
  | .free=>match x with
   | .cmap _ kvs=>K (.ref d 0) (hput h d (.iter kvs kvs none))
   | .mref r=>match h r with
    | .rom _ kvs=>K (.ref d 0) (hput h d (.iter kvs kvs none))
    | .map sh kvs=>K (.ref d 0) (hput (hput h r (.rom sh kvs)) d (.iter kvs kvs none))
    | _=>False
   | _=>False
  | _=>False
def nextK (h:Nat→HO) (x:AV) (K:HK):Prop :=
 match x with
 | .ref r 0=>match h r with
  | .iter all rem _=>(rem=[]→K (.tup [.v (.bool false)]) h) ∧
    (∀ kv rem',rem.Perm (kv :: rem')→K (.tup [.v (.bool true),.v kv.1,kv.2]) (hput h r (.iter all rem' (some kv))))
  | _=>False
 | _=>False
def entryK (h:Nat→HO) (x:AV) (K:AV→Prop):Prop :=
 match x with
 | .ref r 0=>match h r with
  | .iter _ _ (some kv)=>K (.tup [.v kv.1,kv.2])
  | _=>False
 | _=>False
def lenHK (T:Tab) (t:Nat) (h:Nat→HO) (x:AV) (K:AV→Prop):Prop :=
 match (T t).d with
 | .slice _=>match x with
  | .slice _ es=>K (.v (.int .i64 es.length))
  | .msl _ n=>K (.v (.int .i64 n))
  | .v (.slice none 0 0)=>K (.v (.int .i64 0))
  | _=>False
 | .string=>match x with
  | .v (.string s)=>K (.v (.int .i64 s.size))
  | _=>False
 | .map _ _=>match x with
  | .cmap _ kvs=>K (.v (.int .i64 kvs.length))
  | .mref r=>match h r with
   | .map _ kvs=>K (.v (.int .i64 kvs.length))
   | .mapU _ kvs=>K (.v (.int .i64 kvs.length))
   | .rom _ kvs=>K (.v (.int .i64 kvs.length))
   | _=>False
  | _=>False
 | _=>False
def sliceK (cx:Cx) (d:Option Nat) (h:Nat→HO) (ty:Nat) (x:AV) (lo hi mx:Option (Option Int)) (K:HK):Prop :=
 match lo,hi,mx with
 | some lo,some hi,some mx=>match (cx.T ty).d with
  | .string=>match mx,x with
   | none,.v (.string s)=>(0≤lo.getD 0∧lo.getD 0≤hi.getD s.size∧hi.getD s.size≤s.size)∧K (.v (.string (s.extract (lo.getD 0).toNat (hi.getD s.size).toNat))) h
   | _,_=>False
  | .slice e=>match (cx.T e).size with
   | 0=>False
   | _+1=>match x with
    | .slice _ es=>match mx with
     | none=>(0≤lo.getD 0∧lo.getD 0≤hi.getD es.length∧hi.getD es.length≤es.length) ∧
       (∀ cs ∈ es,cs.length=(cx.T e).size)∧K (.slice .none ((es.take (hi.getD es.length).toNat).drop (lo.getD 0).toNat)) h
     | some m=>match d,hi with
      | some d,some hi=>match asg cx.pl.arr d with
       | some _=>(0≤lo.getD 0∧lo.getD 0≤hi∧m=hi∧hi≤es.length)∧(∀ cs ∈ es,cs.length=(cx.T e).size) ∧
         K (.slice (.full (cx.T e).size) ((es.take hi.toNat).drop (lo.getD 0).toNat)) h
       | none=>match h d with
        | .free=>(0≤lo.getD 0∧lo.getD 0≤hi∧m=hi∧hi≤es.length)∧(∀ cs ∈ es,cs.length=(cx.T e).size) ∧
          K (.slice (.id d (cx.T e).size) ((es.take hi.toNat).drop (lo.getD 0).toNat)) (hput h d (.tok (cx.T e).size (hi.toNat - (lo.getD 0).toNat)))
        | _=>False
      | _,_=>False
    | .v (.slice none 0 0)=>(lo.getD 0=0∧hi.getD 0=0∧mx.getD 0=0)∧(mx=none∨hi≠none)∧K (.v (.slice none 0 0)) h
    | .msl r n=>match h r with
     | .arr sz es=>match Nat.beq sz (cx.T e).size with
      | true=>(n=es.length∧0≤lo.getD 0∧lo.getD 0≤hi.getD es.length∧hi.getD es.length≤es.length∧(mx=none∨(mx=hi∧hi≠none))) ∧
        K (.slice .none ((es.take (hi.getD es.length).toNat).drop (lo.getD 0).toNat)) (hput h r .dead)
      | false=>False
     | _=>False
    | _=>False
  | _=>False
 | _,_,_=>False
def resliceK (cx:Cx) (d:Option Nat) (h:Nat→HO) (ty:Nat) (x:AV) (lo:Option (Option Int)) (hi mx:Option Operand) (K:HK):Prop :=
 match d,lo,hi,mx with
 | some d,some (some lo),none,none=>match (cx.T ty).d with
  | .slice e=>match (cx.T e).size with
   | 0=>False
   | _+1=>match x with
    | .slice (.id r sz) es=>match h r with
     | .tok sz' n=>match h (did cx d) with
      | .free=>match Nat.beq sz' sz,Nat.beq sz (cx.T e).size with
       | true,true=>(es.length=n∧0≤lo∧lo≤es.length)∧K (.slice (.id (did cx d) sz) (es.drop lo.toNat)) (hput (hput h r .dead) (did cx d) (.tok sz (es.drop lo.toNat).length))
       | _,_=>False
      | _=>False
     | _=>False
    | _=>False
  | _=>False
 | _,_,_,_=>False
def popK (cx:Cx) (d:Option Nat) (h:Nat→HO) (ty:Nat) (x:AV) (hi:Option (Option Int)) (K:HK):Prop :=
 match d,hi with
 | some d,some (some hi)=>match (cx.T ty).d with
  | .slice e=>match (cx.T e).size with
   | 0=>False
   | _+1=>match x with
    | .msl r n=>match h r with
     | .arr sz es=>match h (did cx d) with
      | .free=>match Nat.beq sz (cx.T e).size,Nat.blt r 10000000&&Nat.blt 0 (did cx d) with
       | true,true=>(n=es.length∧0≤hi∧hi≤es.length)∧K (.msl (did cx d) hi.toNat) (hput (hput h r .dead) (did cx d) (.arr sz (es.take hi.toNat)))
       | _,_=>False
      | _=>False
     | _=>False
    | _=>False
  | _=>False
 | _,_=>False
def popDK (cx:Cx) (d:Option Nat) (h:Nat→HO) (ty:Nat) (x:AV) (lo:Option Operand) (hi:Option (Option Int)) (mx:Option Operand) (K:HK):Prop :=
 match lo,mx with
 | none,none=>popK cx d h ty x hi K
 | _,_=>False
def unT:AV→AV
 | .slice _ es=>.slice .none es
 | a=>a
def assignK (cx:Cx) (d:Option Nat) (h:Nat→HO) (x:AV) (K:HK):Prop :=
 match d with
 | none=>K x h
 | some d=>match asg cx.pl.tok d with
  | some sz=>match Nat.beq sz 0 with
   | true=>K (unT x) h
   | false=>match x with
    | .v (.slice none 0 0)=>match h d with
     | .free=>K (.slice (.id d sz) []) (hput h d (.tok sz 0))
     | _=>False
    | x=>K x h
  | none=>match asg cx.pl.arr d with
   | some sz=>match x with
    | .v (.slice none 0 0)=>match h d with
     | .free=>K (.msl d 0) (hput h d (.arr sz []))
     | _=>False
    | x=>K x h
   | none=>K x h
def nthO (l:List AV) (n:Nat):Option AV :=
 match l with
 | []=>none
 | x :: r=>match n with | 0=>some x | n+1=>nthO r n
def extractK (x:AV) (i:Nat) (K:AV→Prop):Prop :=
 match x with
 | .tup vs=>match nthO vs i with
  | some a=>K a
  | none=>False
 | _=>False
def nilCheckK (x:AV) (K:AV→Prop):Prop :=
 match x with
 | .ref r o=>K (.ref r o)
 | .eref r n z i o=>K (.eref r n z i o)
 | .cptr cs=>K (.cptr cs)
 | .clo f cs=>K (.clo f cs)
 | .v (.func (.func f) a b)=>K (.v (.func (.func f) a b))
 | _=>False
def pickK (c a b:AV) (K:AV→Prop):Prop :=
 match c with
 | .v (.bool true)=>K a
 | .v (.bool false)=>K b
 | _=>False
def mmK (f:Int→Int→Int) (x y:AV) (K:AV→Prop):Prop :=
 match x,y with
 | .v (.int k a),.v (.int k' b)=>match ikB k k' with
  | true=>K (.v (.int k (f a b)))
  | false=>False
 | _,_=>False
def makeSliceK (cx:Cx) (d:Option Nat) (h:Nat→HO) (ty:Nat) (len cap:AV) (K:HK):Prop :=
 match (cx.T ty).d,len,cap with
 | .slice e,.v (.int .i64 n),.v (.int .i64 c)=>match allOne ((cx.T e).zc.map .v) with
  | true=>match Nat.beq (cx.T e).zc.length (cx.T e).size with
   | true=>match (cx.T e).size with
    | 0=>False
    | _+1=>(0≤n∧n≤c∧c*(cx.T e).bytes≤140737488355328∧c≤9223372036854775807)∧newSliceK cx d h (cx.T e).size (List.replicate n.toNat ((cx.T e).zc.map .v)) K
   | false=>False
  | false=>False
 | _,_,_=>False
def unopK (op:UnOp) (x:AV) (K:AV→Prop):Prop :=
 match op,x with
 | .not,x=>notK K x
 | .neg,.v (.int .i64 a)=>InI64 (-a)∧K (.v (.int .i64 (-a)))
 | _,_=>False
def builtinK (cx:Cx) (d:Option Nat) (h:Nat→HO) (b:Builtin) (tys:List Nat) (args:List AV) (K:HK):Prop :=
 match b,args,tys with
 | .len,[x],[t]=>lenHK cx.T t h x fun v=>K v h
 | .append,[s,x],[t,t']=>match Nat.beq t t' with
  | true=>appendK cx d h t s x K
  | false=>False
 | .max,[x,y],_=>mmK max x y fun v=>K v h
 | .min,[x,y],_=>mmK min x y fun v=>K v h
 | _,_,_=>False

def aop (cx:Cx) (dr:Bool) (o:Oper) (st:St) (K:HK):Prop :=
 match o.op with
 | .move x=>K (ev st.t x) st.h
 | .assign x=>assignK cx o.dst st.h (ev st.t x) K
 | .pick c a b=>pickK (ev st.t c) (ev st.t a) (ev st.t b) fun v=>K v st.h
 | .alloc e=>allocK cx.T o.dst st.h e K
 | .box e x=>boxK cx o.dst st.h e (ev st.t x) K
 | .build ty ps=>buildK cx.T ty st.t ps.toList fun v=>K v st.h
 | .buildSlice ty n ps=>buildSliceK cx o.dst st.h ty n st.t ps.toList K
 | .insert ty m k x=>mapUpdateK cx.T st.h ty (ev st.t m) (ev st.t k) (ev st.t x) K
 | .load ty x=>loadHK cx.T st.h ty (ev st.t x) fun v=>K v st.h
 | .store ty p x=>storeK cx st.h ty (ev st.t p) (ev st.t x) K
 | .nilCheck x=>nilCheckK (ev st.t x) fun v=>K v st.h
 | .binOp op ty x y _=>binK2 cx.T op ty y (ev st.t x) (ev st.t y) fun v=>K v st.h
 | .unOp op _ x=>unopK op (ev st.t x) fun v=>K v st.h
 | .convert s ty x=>convK cx.T s ty (ev st.t x) fun v=>K v st.h
 | .makeFunc fn first cap=>makeFuncK st.t st.h fn first.toList cap.toList fun v=>K v st.h
 | .makeMap ty none=>makeMapK cx.T cx.pl.mku o.dst st.h ty K
 | .makeSlice ty n c=>makeSliceK cx o.dst st.h ty (ev st.t n) (ev st.t c) K
 | .slice ty x lo hi mx=>match dr with
  | true=>match asgO cx.pl.tok o.dst with
   | none=>sliceK cx o.dst st.h ty (ev st.t x) (optInt st.t lo) (optInt st.t hi) (optInt st.t mx) K
   | some _=>popDK cx o.dst st.h ty (ev st.t x) lo (optInt st.t hi) mx K
  | false=>match asgO cx.pl.tok o.dst with
   | none=>sliceK cx o.dst st.h ty (ev st.t x) (optInt st.t lo) (optInt st.t hi) (optInt st.t mx) K
   | some _=>resliceK cx o.dst st.h ty (ev st.t x) (optInt st.t lo) hi mx K
 | .fieldAddr s x f=>fieldK cx.T s f (ev st.t x) fun v=>K v st.h
 | .field s x f=>fieldVK cx.T s f (ev st.t x) fun v=>K v st.h
 | .indexAddr ty x ix=>indexAddrK cx.T ty (ev st.t x) (ev st.t ix) fun v=>K v st.h
 | .index ty x ix=>indexK cx.T ty (ev st.t x) (ev st.t ix) fun v=>K v st.h
 | .lookup ty x ix ok=>match dr with
  | true=>lookupD cx.T st.h ty (ev st.t x) (ev st.t ix) ok fun v=>K v st.h
  | false=>lookupK cx.T st.h ty (ev st.t x) (ev st.t ix) ok fun v=>K v st.h
 | .mapUpdate ty m k x=>mapUpdateK cx.T st.h ty (ev st.t m) (ev st.t k) (ev st.t x) K
 | .range ty x=>match (cx.T ty).d with | .map _ _=>rangeK o.dst st.h (ev st.t x) K | _=>False
 | .next it false=>nextK st.h (ev st.t it) K
 | .entry it=>entryK st.h (ev st.t it) fun v=>K v st.h
 | .extract x i=>extractK (ev st.t x) i fun v=>K v st.h
 | .call c=>match c.callee with
  | .builtin b=>builtinK cx o.dst st.h b c.argTypes.toList (c.args.toList.map (ev st.t)) K
  | .value f=>callK cx dr o.dst st (ev st.t f) (c.args.toList.map (ev st.t)) K
  | _=>False
 | _=>False
def nthDst (ops:List Oper) (j:Nat):Option Nat:=match ops with | []=>none | o :: r=>match j with | 0=>o.dst | j+1=>nthDst r j
def preFz (cx:Cx) (o:Oper) (st:St):St :=
 match o.dst with
 | none=>st
 | some d=>match asgT cx.pl.tz d with
  | some (r,k,j,sz)=>⟨st.t,tz1 st.h r k j sz⟩
  | none=>match asgL cx.pl.fz d with
   | []=>st
   | l=>⟨st.t,frzs st.h l⟩
def akK (cx:Cx) (o:Oper) (st:St) (K:St→Prop):Prop :=
 match o.dst with
 | none=>K st
 | some d=>match asg cx.pl.ak d with
  | none=>K st
  | some s=>match st.t s with
   | .msl r n=>match st.h r with
    | .arr sz es=>n=es.length∧K ⟨tput st.t s (.slice (.id r sz) es),hput st.h r (.tok sz es.length)⟩
    | _=>K st
   | _=>K st
def aopD (cx:Cx) (dr:Bool) (o:Oper) (st:St) (K:St→Prop):Prop :=
 match dr with
 | true=>aop cx true o st fun v h=>K (st.put o.dst v h)
 | false=>akK cx o (preFz cx o st) fun st'=>aop cx false o st' fun v h=>K (st'.put o.dst v h)
def aoper (cx:Cx) (dr:Bool) (all:List Oper) (o:Oper) (st:St) (K:St→Prop):Prop :=
 match o.guard with
 | none=>aopD cx dr o st K
 | some (j,want)=>match nthDst all j with
  | none=>False
  | some d=>match st.t d,want with
   | .v (.bool true),true=>aopD cx dr o st K
   | .v (.bool false),false=>aopD cx dr o st K
   | .v (.bool true),false=>K (st.put o.dst (.v undef) st.h)
   | .v (.bool false),true=>K (st.put o.dst (.v undef) st.h)
   | .v (.tuple _),_=>K (st.put o.dst (.v undef) st.h)
   | _,_=>False
def aops (cx:Cx) (all l:List Oper) (st:St) (K:St→Prop):Prop :=
 match l with
 | []=>K st
 | o :: r=>aoper cx false all o st fun st'=>aops cx all r st' K

def idl0:AV→List Nat
 | .ref r _=>[r]
 | .mref r=>[r]
 | _=>[]
def idlL:List AV→List Nat
 | []=>[]
 | a :: r=>idl0 a++idlL r
def idl1:AV→List Nat
 | .agg cs=>idlL cs
 | .clo _ cs=>idlL cs
 | a=>idl0 a
def idlC:List AV→List Nat
 | []=>[]
 | a :: r=>idl1 a++idlC r
def idl:AV→List Nat
 | .agg cs=>idlC cs
 | a=>idl1 a
def idlA:List AV→List Nat
 | []=>[]
 | a :: r=>idl a++idlA r
abbrev Foot:=List Nat × Option Nat
def footD (d:Option Nat) (l:List Nat):Option Foot:=match d with | some d=>some (d :: l,some d) | none=>none
def mslL:AV→List Nat
 | .msl r _=>[r]
 | _=>[]
def footApp (cx:Cx) (d:Option Nat) (s x:AV):Option Foot :=
 match s with
 | .v (.slice none 0 0)=>footD (d.map (did cx)) (mslL x)
 | .slice (.full _) _=>footD (d.map (did cx)) (mslL x)
 | .slice (.id r _) _=>footD (some r) (mslL x)
 | .msl r _=>footD (some r) (mslL x)
 | _=>none
def foot2 (d:Option Nat) (args:List AV):Option Foot :=
 match d with
 | some d=>match args with
  | .msl r _ :: _=>some ([r,newId d 0],some (r+10000000*newId d 0))
  | _=>none
 | none=>none
theorem foot2_spec {d:Option Nat} {args:List AV} {f:Foot} (h:foot2 d args=some f):∃ d' r n l,d=some d'∧args=.msl r n :: l∧f=([r,newId d' 0],some (r+10000000*newId d' 0)):=by
 unfold foot2 at h;split at h
 ·split at h
  ·cases h; exact ⟨_,_,_,_,rfl,rfl,rfl⟩
  ·cases h
 ·cases h
def footP (d:Option Nat) (x:AV):Option Foot :=
 match d with
 | some d=>match x with
  | .msl r _=>some ([r,d],some (r+10000000*d))
  | _=>none
 | none=>none
theorem footP_spec {d:Option Nat} {x:AV} {f:Foot} (h:footP d x=some f):∃ d' r n,d=some d'∧x=.msl r n∧f=([r,d'],some (r+10000000*d')):=by
 unfold footP at h;split at h
 ·split at h
  ·cases h; exact ⟨_,_,_,rfl,rfl,rfl⟩
  ·cases h
 ·cases h
def footY (args:List AV):Option Foot:=match valsL args with | some _=>some ([1000,1001],some 10010001000) | none=>none
def allN:Nat:=99999999999999
def foot3 (k:Nat) (d:Option Nat) (args:List AV):Option Foot :=
 match Nat.beq k 3 with
 | true=>some (genR,some allN)
 | false=>foot2 d args
def footCall (cx:Cx) (d:Option Nat) (c:Callee) (t:Nat→AV) (args:List AV):Option Foot :=
 match c,args with
 | .builtin .len,[.mref r]=>some ([r],none)
 | .builtin .len,[_]=>some ([],none)
 | .builtin .max,_=>some ([],none)
 | .builtin .min,_=>some ([],none)
 | .builtin .append,[s,x]=>footApp cx d s x
 | .value f,args=>match asgO cx.pl.dc d with
  | none=>some (idl (ev t f)++idlA args,none)
  | some 0=>footD (d.map fun d=>newId d 0) (idl (ev t f)++idlA args)
  | some 1=>match args with | .msl r _ :: _=>some ([r],some r) | _=>none
  | some (k+2)=>match Nat.beq k 1 with
   | true=>footD (d.map fun d=>newId d 0) (idl (ev t f)++idlA args)
   | false=>match Nat.beq k 2 with
    | true=>footY args
    | false=>foot3 k d args
 | _,_=>none
def foot (cx:Cx) (o:Oper) (st:St):Option Foot :=
 match o.op with
 | .move _ | .pick .. | .nilCheck _ | .unOp .. | .convert .. | .fieldAddr .. | .field .. | .indexAddr .. | .index .. | .extract .. | .build ..=>some ([],none)
 | .binOp _ _ x _ _=>match ev st.t x with | .slice ..=>none | _=>some ([],none)
 | .assign x=>match ev st.t x with | .v (.slice ..)=>none | _=>some ([],none)
 | .load _ p=>match ev st.t p with | .cptr _=>some ([],none) | .ref r _=>some ([r],none) | .eref r ..=>some ([r],none) | _=>none
 | .call c=>footCall cx o.dst c.callee st.t (c.args.toList.map (ev st.t))
 | .alloc _=>footD o.dst []
 | .box _ x=>footD o.dst (idl (ev st.t x))
 | .buildSlice _ _ ps=>footD (o.dst.map (did cx)) (idlA (ps.toList.map fun p=>ev st.t p.2))
 | .store _ p x=>match ev st.t p with
  | .ref r _=>match memB cx.pl.frz r with | true=>none | false=>footD (some r) []
  | .eref r ..=>footD (some r) (idl (ev st.t x))
  | _=>none
 | .slice _ x _ _ mx=>match asgO cx.pl.tok o.dst with
  | some _=>footP (o.dst.map (did cx)) (ev st.t x)
  | none=>match mx,ev st.t x with
   | none,.msl ..=>none
   | none,_=>some ([],none)
   | some _,.slice ..=>footD o.dst []
   | _,_=>none
 | .makeFunc _ _ cap=>some (idlA (cap.toList.map (ev st.t)),none)
 | .mapUpdate _ m _ x=>match ev st.t m with | .mref r=>footD (some r) (idl (ev st.t x)) | _=>none
 | .makeSlice ..=>footD (o.dst.map (did cx)) []
 | .lookup _ m _ _=>match ev st.t m with | .cmap ..=>some ([],none) | .mref r=>some ([r],none) | _=>none
 | .makeMap ..=>footD o.dst []
 | _=>none
def footO (cx:Cx) (all:List Oper) (o:Oper) (st:St):Option Foot :=
 match o.guard with
 | none=>foot cx o st
 | some (j,want)=>match nthDst all j with
  | none=>none
  | some d=>match st.t d,want with
   | .v (.bool true),true=>foot cx o st
   | .v (.bool false),false=>foot cx o st
   | _,_=>some ([],none)
def isNil (l:List Nat):Bool:=match l with | []=>true | _=>false
def offB (l:List Nat) (r:Nat):Bool:=bif Nat.beq r allN then isNil l else !memB l r&&(Nat.blt r 10000000||(!memB l (r % 10000000)&&!memB l (r / 10000000)))
def disjB (a b:Foot):Bool :=
 (match a.2 with | some r=>offB b.1 r | none=>true)&&(match b.2 with | some r=>offB a.1 r | none=>true)
def hasEdge (o:Oper) (i:Nat) (D:List Nat):Bool:=o.after.toList.any fun e=>Region.binds .any e&&(Nat.beq e.on i||memB D e.on)
def depsGo (i:Nat) (D:List Nat) (k:Nat):List Oper→List Nat
 | []=>D
 | o :: r=>match hasEdge o i D with
  | true=>depsGo i (k :: D) (k+1) r
  | false=>depsGo i D (k+1) r
def soundB (i:Nat) (D:List Nat) (k:Nat):List Oper→Bool
 | []=>true
 | o :: r=>(hasEdge o i D||!memB D k)&&soundB i D (k+1) r
def apartAll (ops:Array Oper) (oi:Oper) (fi:Foot) (D:List Nat) (k:Nat):List Oper→List Foot→Bool
 | o :: r,f :: fs=>(memB D k||(oi.apart ops o&&disjB fi f))&&apartAll ops oi fi D (k+1) r fs
 | [],[]=>true
 | _,_=>false
def drawGo (ops:Array Oper) (all:List Oper) (k:Nat):List Oper→List Foot→Bool
 | o :: r,f :: fs =>
  let D:=depsGo k [] 0 all
  (o.after.toList.all fun e=>!Region.binds .any e||Nat.blt e.on k)&&soundB k D 0 all&&(D.all fun j=>Nat.blt k j&&Nat.blt j all.length)&&apartAll ops o f D (k+1) r fs&&drawGo ops all (k+1) r fs
 | [],[]=>true
 | _,_=>false
def drawOk (ops:Array Oper) (fs:List Foot):Bool:=Region.noSelect ops&&drawGo ops ops.toList 0 ops.toList fs
def adraw (cx:Cx) (ops:Array Oper) (l:List Oper) (fs:List Foot) (st:St) (K:St→Prop):Prop :=
 match l with
 | []=>drawOk ops fs.reverse=true∧K st
 | o :: r=>match footO cx ops.toList o st with
  | some f=>aoper cx true ops.toList o st fun st'=>adraw cx ops r (f :: fs) st' K
  | none=>False

def envOf (l:List (Nat × AV)) (i:Nat):AV:=match l with | []=>.junk | (j,v) :: r=>bif Nat.beq i j then v else envOf r i
structure LS where
 t:List (Nat × AV)
 h:List (Nat × HO)
 hb:Nat→HO
def LS.st (s:LS):St:=⟨envOf s.t,heapOf s.h s.hb⟩

def idIn (h:Nat→HO) (r:Nat):Bool:=match h r with | .free=>false | _=>true
def ids0 (h:Nat→HO):AV→Bool
 | .slice (.id r _) _=>idIn h r
 | .slice (.ver r _ _) _=>idIn h r
 | .msl r _=>idIn h r
 | .ref r _=>idIn h r
 | .eref r _ _ _ _=>idIn h r
 | .mref r=>idIn h r
 | .agg _ | .tup _ | .clo ..=>false
 | _=>true
def idsL (h:Nat→HO):List AV→Bool
 | []=>true
 | a :: r=>match ids0 h a with | true=>idsL h r | false=>false
def idsB (h:Nat→HO):AV→Bool
 | .agg cs=>idsL h cs
 | .tup cs=>idsL h cs
 | .clo _ cs=>idsL h cs
 | a=>ids0 h a
def idsKV (h:Nat→HO):List (Value × AV)→Bool
 | []=>true
 | p :: r=>match idsB h p.2 with | true=>idsKV h r | false=>false
def idsC (h:Nat→HO):List AV→Bool
 | []=>true
 | a :: r=>match idsB h a with | true=>idsC h r | false=>false
def idsH (h:Nat→HO):HO→Bool
 | .cells cs=>idsC h cs
 | .mapU _ kvs=>idsKV h kvs
 | _=>true
def leT (st:St) (h:Nat→HO):List (Nat × AV)→Prop
 | []=>True
 | (j,a) :: r=>(st.t j=a∧idsB h a=true)∧leT st h r
def leH (st:St) (h:Nat→HO):List (Nat × HO)→Prop
 | []=>True
 | (j,o) :: r=>(st.h j=o∧idsH h o=true)∧leH st h r
def St.le (cx:Cx) (st:St) (s:LS):Prop :=
 leT st s.st.h s.t∧leH st s.st.h s.h∧(∀ j,s.hb j=.free∨(st.h j=s.hb j∧idsH s.st.h (s.hb j)=true)) ∧
 match cx.ext with
 | false=>True
 | true=>∀ j,1000≤j→j<2000→st.h j≠.free→s.st.h j≠.free

def aregion (cx:Cx) (ops:Array Oper) (dr:Bool) (st:St) (K:St→Prop):Prop :=
 match dr with
 | false=>aops cx ops.toList ops.toList st K
 | true=>adraw cx ops ops.toList [] st K
inductive Ex | normal | exit (id:Nat) | ret
def azK (h:Nat→HO) (o k:Nat) (K:(Nat→HO)→Prop):Prop :=
 match h o with
 | .cells cs=>match nthA cs k with
  | .msl r n=>match h r with
   | .arr sz es=>n=es.length∧K (hput (hput h r (.tok sz es.length)) o (.cells (overA cs k (.slice (.id r sz) es))))
   | _=>K h
  | _=>K h
 | _=>K h
def amK (h:Nat→HO) (o k j:Nat) (K:(Nat→HO)→Prop):Prop :=
 match h o with
 | .cells cs=>match nthA cs k with
  | .msl r n=>match h r with
   | .arr sz es=>match h j with
    | .free=>n=es.length∧K (hput (hput (hput h r .dead) j (.arr sz es)) o (.cells (overA cs k (.msl j n))))
    | _=>False
   | _=>False
  | _=>False
 | _=>False
def uvK (h:Nat→HO) (o k d:Nat) (K:(Nat→HO)→Prop):Prop :=
 match h o with
 | .cells cs=>match nthA cs k with
  | .slice (.ver r sz v) es=>match h r with
   | .var sz' v' _=>match h d with
    | .free=>(v=v'∧sz=sz')∧K (hput (hput (hput h r (.vox v)) d (.tok sz es.length)) o (.cells (overA cs k (.slice (.id d sz) es))))
    | _=>False
   | _=>False
  | _=>K h
 | _=>False
def rvK (h:Nat→HO) (o k r:Nat) (K:(Nat→HO)→Prop):Prop :=
 match h o with
 | .cells cs=>match nthA cs k with
  | .slice (.id d sz) es=>match h d with
   | .tok sz' n=>match h r with
    | .vox v=>(es.length=n∧sz=sz')∧K (hput (hput (hput h d .dead) r (.var sz (v+1) n)) o (.cells (overA cs k (.slice (.ver r sz (v+1)) es))))
    | _=>False
   | _=>False
  | _=>K h
 | _=>False
def nvK (h:Nat→HO) (r:Nat) (K:(Nat→HO)→Prop):Prop :=
 match h r with
 | .free=>K (hput h r (.vox 0))
 | _=>False
def rmK (h:Nat→HO) (o k:Nat) (K:(Nat→HO)→Prop):Prop :=
 match h o with
 | .cells cs=>match nthA cs k with
  | .mref r=>match h r with
   | .rom sh kvs=>K (hput h o (.cells (overA cs k (.cmap sh kvs))))
   | _=>False
  | _=>False
 | _=>False
def zaK (h:Nat→HO) (o k j sz:Nat) (K:(Nat→HO)→Prop):Prop :=
 match h o with
 | .cells cs=>match nthA cs k with
  | .v (.slice none 0 0)=>match h j with
   | .free=>K (hput (hput h j (.arr sz [])) o (.cells (overA cs k (.msl j 0))))
   | _=>False
  | _=>False
 | _=>False
def fz0 (cx:Cx) (id:Nat) (h:Nat→HO) (K:(Nat→HO)→Prop):Prop :=
 match asg cx.pl.ak (850000+id) with
 | some v=>K (frz1 h v)
 | none=>K h
def rm0 (cx:Cx) (id:Nat) (h:Nat→HO) (K:(Nat→HO)→Prop):Prop :=
 match asg cx.pl.ak (800000+id) with
 | some v=>rmK h (v % 10000) (v / 10000 % 100) K
 | none=>K h
def rm1 (cx:Cx) (id:Nat) (h:Nat→HO) (K:(Nat→HO)→Prop):Prop :=
 match asg cx.pl.ak (810000+id) with
 | some v=>rmK h (v % 10000) (v / 10000 % 100) K
 | none=>K h
def za0 (cx:Cx) (id:Nat) (h:Nat→HO) (K:(Nat→HO)→Prop):Prop :=
 match asg cx.pl.ak (900000+id) with
 | some v=>zaK h (v % 10000) (v / 10000 % 100) (v / 1000000 % 10000) (v / 10000000000) K
 | none=>K h
def verK (cx:Cx) (id:Nat) (h:Nat→HO) (K:(Nat→HO)→Prop):Prop :=
 match asg cx.pl.ak (500000+id) with
 | some v=>uvK h (v % 10000) (v / 10000 % 100) (v / 1000000) K
 | none=>match asg cx.pl.ak (600000+id) with
  | some v=>rvK h (v % 10000) (v / 10000 % 100) (v / 1000000) K
  | none=>match asg cx.pl.ak (700000+id) with
   | some v=>nvK h v K
   | none=>fz0 cx id h fun h=>rm0 cx id h fun h=>rm1 cx id h fun h=>za0 cx id h K
def asK (st:St) (s k:Nat) (K:St→Prop):Prop :=
 match st.t s with
 | .msl r n=>match st.h r with
  | .arr sz es=>match k with
   | 0=>n=es.length∧K ⟨tput st.t s (.slice .none es),hput (hput st.h r (.tok sz es.length)) r .dead⟩
   | k+1=>match Nat.beq r (k+1) with
    | true=>K st
    | false=>match st.h (k+1) with
     | .free=>n=es.length∧K ⟨tput st.t s (.msl (k+1) n),hput (hput st.h r .dead) (k+1) (.arr sz es)⟩
     | _=>False
  | _=>K st
 | _=>K st
def cutK (cx:Cx) (id:Nat) (st:St) (K:St→Prop):Prop :=
 match memB cx.pl.cut id with
 | true=>match asg cx.pl.ak (100000+id) with
  | none=>match asg cx.pl.ak (200000+id) with
   | none=>match asg cx.pl.ak (300000+id) with
    | none=>verK cx id st.h fun h'=>∃ s:LS,St.le cx ⟨st.t,h'⟩ s∧K s.st
    | some v=>amK st.h (v % 10000) (v / 10000 % 100) (v / 1000000) fun h'=>∃ s:LS,St.le cx ⟨st.t,h'⟩ s∧K s.st
   | some v=>asK st (v % 1000) (v / 1000) fun st'=>∃ s:LS,St.le cx st' s∧K s.st
  | some v=>azK st.h (v % 1000) (v / 1000) fun h'=>∃ s:LS,St.le cx ⟨st.t,h'⟩ s∧K s.st
 | false=>K st
def awp (cx:Cx) (c:Code) (Q:Ex→St→Prop) (st:St):Prop :=
 match c with
 | .skip=>Q .normal st
 | .label _=>Q .normal st
 | .region id ops dr=>cutK cx id st fun st=>match cx.pl.dyn with
  | []=>aregion cx ops dr st (Q .normal)
  | _=>∃ n,aregion { cx with nid:=n } ops dr st (Q .normal)
 | .seq a b=>awp cx a (fun e st'=>match e with | .normal=>awp cx b Q st' | e=>Q e st') st
 | .cond c a b=>match ev st.t c with
  | .v (.bool true)=>awp cx a Q st
  | .v (.bool false)=>awp cx b Q st
  | _=>False
 | .block id c=>awp cx c (fun e st'=>match e with | .exit j=>(bif Nat.beq j id then Q .normal st' else Q (.exit j) st') | e=>Q e st') st
 | .loop c=>∃ (α:Type) (I:α→LS) (μ:α→Nat),(∃ x,St.le cx st (I x)) ∧
   ∀ x,awp cx c (fun e st'=>match e with | .normal=>∃ y,μ y<μ x∧St.le cx st' (I y) | e=>Q e st') (I x).st
 | .exit id=>Q (.exit id) st
 | .ret=>Q .ret st
 | _=>False

def envA:List AV→Nat→AV
 | [],_=>.v undef
 | a :: r,n=>match n with | 0=>a | n+1=>envA r n
def outL (T:Tab) (st:St):List ResultVar→(List AV→Prop)→Prop
 | [],K=>K []
 | .tmp i :: r,K=>outL T st r fun l=>K (str st.h (st.t i) :: l)
 | .cell a t :: r,K=>loadHK T st.h t (st.t a) fun v=>outL T st r fun l=>K (str st.h v :: l)
def outK (cx:Cx) (st:St) (rs:List ResultVar) (K:AV→Prop):Prop :=
 outL cx.T ⟨st.t,frzs st.h cx.pl.fin⟩ rs fun
  | [v]=>K v
  | vs=>K (.tup vs)
def endK (cx:Cx) (rs:List ResultVar) (K:AV→Prop) (e:Ex) (st:St):Prop :=
 match e with
 | .normal=>outK cx st rs K
 | .ret=>outK cx st rs K
 | .exit _=>False
def outR (T:Tab) (st:St):List ResultVar→(List AV→Prop)→Prop
 | [],K=>K []
 | .tmp i :: r,K=>outR T st r fun l=>K (st.t i :: l)
 | .cell a t :: r,K=>loadHK T st.h t (st.t a) fun v=>outR T st r fun l=>K (v :: l)
def outG (cx:Cx) (st:St) (rs:List ResultVar) (σ:Ren) (Q:AV→(Nat→HO)→Prop):Prop :=
 outR cx.T ⟨st.t,frzs st.h cx.pl.fin⟩ rs fun
  | [v]=>Q (ren (rfwd σ) (frzs st.h cx.pl.fin) v) (renH σ (frzs st.h cx.pl.fin))
  | vs=>Q (ren (rfwd σ) (frzs st.h cx.pl.fin) (.tup vs)) (renH σ (frzs st.h cx.pl.fin))
def endG (cx:Cx) (rs:List ResultVar) (σ:Ren) (Q:AV→(Nat→HO)→Prop) (e:Ex) (st:St):Prop :=
 match e with
 | .normal=>outG cx st rs σ Q
 | .ret=>outG cx st rs σ Q
 | .exit _=>False
def extOk (σ:Ren):List (Nat × HO)→Bool
 | []=>true
 | (i,_) :: r=>Nat.ble 1000 i&&Nat.blt i 2000&&(match rfwd σ i with | some j=>Nat.beq j i | none=>false)&&extOk σ r
end Go.Eng
