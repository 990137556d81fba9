/- Lemmas for the claims of this seat, without a condition: part 4 (EngA). -/
import Derived.Test.YtmcbkdbfaneofaaGreatDoorDA00
import Derived.WalkKit
import Derived.Still
import Derived.RangeFuncSeq
import Derived.OrdersIn
import Derived.TacticsIn
namespace Go.Eng
inductive Tk | none | full (sz:Nat) | id (r sz:Nat) | ver (r sz v:Nat)
inductive KS | int (k:IntKind) | str | bool
structure EG where
 agg:Bool
 l:List KS
inductive AV
 |v (x:Value)
 |slice (tk:Tk) (es:List (List AV))
 |msl (r n:Nat)
 |agg (cs:List AV)
 |tup (vs:List AV)
 |cptr (cs:List AV)
 |ref (r off:Nat)
 |eref (r n sz i off:Nat)
 |mref (r:Nat)
 |cmap (sh:EG) (B4:List (Value×AV))
 |clo (f:Nat) (caps:List AV)
 |junk
inductive HO
 |free
 |dead
 |cells (cs:List AV)
 |ro (cs:List AV)
 |tok (sz n:Nat)
 |var (sz v n:Nat)
 |vox (v:Nat)
 |arr (sz:Nat) (es:List (List AV))
 |map (sh:EG) (B4:List (Value×AV))
 |mapU (sh:EG) (B4:List (Value×AV))
 |rom (sh:EG) (B4:List (Value×AV))
 |iter (all rem:List (Value×AV)) (Fz:Option (Value×AV))
 |raw (b:Nat) (ob:Obj)
 |hol (sz:Nat) (es:List (List AV)) (i c:Nat) (a:AV)
structure St where
 t:Nat→AV
 h:Nat→HO
def Ab:Nat→HO:=fun _=>.free
def AW(h:Nat→HO)(r:Nat)(o:HO):Nat→HO:=fun i=>bif Nat.beq i r then o else h i
def G2(t:Nat→AV)(d:Nat)(v:AV):Nat→AV:=fun i=>bif Nat.beq i d then v else t i
def St.put(st:St)(d:Option Nat)(v:AV)(h:Nat→HO):St :=
 match d with
 |none=>⟨st.t,h⟩
 |some d=>⟨G2 st.t d v,h⟩
def ev(t:Nat→AV):Operand→AV
 |.tmp i=>t i
 |.const v=>.v v
 |.global g=>.v (.pointer (some ⟨g,0,none⟩))
 |.func f=>.v (.func (.func f) #[] #[])
inductive TD
 |int (k:IntKind) |bool |string |slice (e:Nat) |array (n e:Nat) |struct (fs:List (Nat×Nat)) |ptr (e:Nat) |map (k e:Nat) |func |iface |other
structure TI where
 d:TD
 size:Nat
 bytes:Nat
 zero:Value
 eqok:Bool
def TI.zc(i:TI):List Value:=match i.zero with | .agg cs=>cs.toList | v=>[v]
abbrev Gq:=Nat→TI
structure TM where
 frz:List Nat
 tok:List (Nat×Nat)
 arr:List (Nat×Nat)
 fz:List (Nat×List Nat)
 fin:List Nat
 mku:List Nat
 dyn:List Nat
 tz:List (Nat×(Nat×Nat×Nat×Nat))
 dc:List (Nat×Nat)
 ak:List (Nat×Nat)
 cut:List Nat
def IC(l:List Nat)(n:Nat):Bool :=
 match l with
 | []=>false
 |x::r=>bif Nat.beq x n then true else IC r n
def GA(l:List (Nat×Nat))(n:Nat):Option Nat :=
 match l with
 | []=>none
 |(x,y)::r=>bif Nat.beq x n then some y else GA r n
def str0(h:Nat→HO):AV→AV
 |.slice _ es=>.slice .none es
 |.ref r off=>match h r with |.ro cs=>.cptr (cs.drop off) |_=>.junk
 |.mref r=>match h r with |.rom sh B4=>.cmap sh B4 |_=>.junk
 |.v x=>.v x
 |.cptr cs=>.cptr cs
 |.cmap s m=>.cmap s m
 |_=>.junk
def str(h:Nat→HO):AV→AV
 |.agg cs=>.agg (cs.map (str0 h))
 |.clo f cs=>.clo f (cs.map (str0 h))
 |a=>str0 h a
def Rd(h:Nat→HO)(B4:List (Value×AV)):List (Value×AV):=B4.map fun p=>(p.1,str h p.2)
def eJ(h:Nat→HO)(r:Nat):Nat→HO :=
 match h r with
 |.cells cs=>AW h r (.ro (cs.map (str h)))
 |.map sh B4=>AW h r (.rom sh B4)
 |.mapU sh B4=>AW h r (.rom sh (Rd h B4))
 |_=>h
def Ov(h:Nat→HO):List Nat→Nat→HO
 | []=>h
 |r::l=>Ov (eJ h r) l
def mj(l:List (Nat×List Nat))(n:Nat):List Nat :=
 match l with
 | []=>[]
 |(x,y)::r=>bif Nat.beq x n then y else mj r n
def o0(l:List (Nat×(Nat×Nat×Nat×Nat)))(n:Nat):Option (Nat×Nat×Nat×Nat) :=
 match l with
 | []=>none
 |(x,y)::r=>bif Nat.beq x n then some y else o0 r n
def IX(l:List AV)(n:Nat):AV :=
 match l with
 | []=>.junk
 |x::r=>match n with |0=>x |n+1=>IX r n
def Ey(cs:List AV)(o:Nat)(v:AV):List AV :=
 match cs with
 | []=>[]
 |c::cs=>match o with |0=>v::cs |o+1=>c::Ey cs o v
def sI(h:Nat→HO)(r k j sz:Nat):Nat→HO :=
 match h r with
 |.cells cs=>match IX cs k with
  |.v (.slice none 0 0)=>match h j with
   |.free=>AW (AW h j (.tok sz 0)) r (.cells (Ey cs k (.slice (.id j sz) [])))
   |_=>h
  |_=>h
 |_=>h
def rsv(h:Nat→HO):AV→AV
 |.ref r off=>match h r with |.ro cs=>.cptr (cs.drop off) |_=>.ref r off
 |.mref r=>match h r with |.rom sh B4=>.cmap sh B4 |_=>.mref r
 |a=>a
def one:AV→Bool
 |.v x=>x.oneCell'
 |.agg _ |.tup _ |.junk=>false
 |_=>true
def GW:List AV→Bool
 | []=>true
 |a::r=>match one a with |true=>GW r |false=>false
def rI:AV→List AV
 |.agg cs=>cs
 |a=>[a]
def BY(a:Int):Prop:=-9223372036854775808≤a∧a<9223372036854775808
def LW(cs:List AV)(K:AV→Prop):Prop :=
 match cs with
 |a::_=>K a
 | []=>False
def IJ(p:Prop)(K:AV→Prop):Prop:=(p→K (.v (.bool true)))∧(¬p→K (.v (.bool false)))
def Lo(T:Gq)(t:Nat)(cs:List AV)(K:AV→Prop):Prop :=
 match(T t).d with
 |.struct _=>(T t).size≤cs.length∧K (.agg (cs.take (T t).size))
 |.array _ _=>(T t).size≤cs.length∧K (.agg (cs.take (T t).size))
 |.bool=>LW cs fun |.v (.bool b)=>(b=true→K (.v (.bool true)))∧(b=false→K (.v (.bool false))) |_=>False
 |.other=>False
 |_=>LW cs K
def li:List AV→List AV→Prop
 | [],[]=>True
 |.v (.int _ a)::r,.v (.int _ b)::s=>a=b∧li r s
 |.v (.string a)::r,.v (.string b)::s=>a=b∧li r s
 |.v (.bool a)::r,.v (.bool b)::s=>a=b∧li r s
 |_,_=>False
def oM:IntKind→IntKind→Bool
 |.i64,.i64 |.u8,.u8 |.u32,.u32 |.i32,.i32 |.u64,.u64 |.u16,.u16 |.i16,.i16 |.i8,.i8=>true
 |_,_=>false
def Np(f:Nat→Option (List KS)):Nat→List (Nat×Nat)→Option (List KS)
 |_,[]=>some []
 |n,(t,o)::r=>match Nat.beq o n with
  |true=>match f t with
   |some a=>match Np f (n+a.length) r with
    |some b=>some (a++b)
    |none=>none
   |none=>none
  |false=>none
def Hs(T:Gq):Nat→Nat→Option (List KS)
 |0,_=>none
 |n+1,t=>match(T t).d with
  |.int k=>match(T t).size with |1=>some [.int k] |_=>none
  |.string=>match(T t).size with |1=>some [.str] |_=>none
  |.bool=>match(T t).size with |1=>some [.bool] |_=>none
  |.struct fs=>match(T t).eqok with
   |true=>match Np (Hs T n) 0 fs with
    |some l=>match Nat.beq l.length (T t).size with |true=>some l |false=>none
    |none=>none
   |false=>none
  |_=>none
def M2:KS→Value→Bool
 |.int k,.int k' _=>oM k k'
 |.str,.string _=>true
 |.bool,.bool _=>true
 |_,_=>false
def XC:List KS→List AV→Bool
 | [],[]=>true
 |k::r,.v x::s=>match M2 k x with |true=>XC r s |false=>false
 |_,_=>false
def om(T:Gq)(t:Nat)(x y:AV)(K:AV→Prop):Prop :=
 match(T t).d with
 |.bool=>match x,y with
  |.v (.bool a),.v (.bool b)=>K (.v (.bool (a == b)))
  |_,_=>False
 |.struct _=>match x,y with
  |.agg xs,.agg ys=>match Hs T 8 t with
   |some l=>match XC l xs with
    |true=>match XC l ys with
     |true=>IJ (li xs ys) K
     |false=>False
    |false=>False
   |none=>False
  |_,_=>False
 |.slice _=>match x,y with
  |.slice _ es,.v (.slice none 0 0)=>(es≠[]→K (.v (.bool false)))∧(es=[]→K (.v (.bool true))∧K (.v (.bool false)))
  |.v (.slice none 0 0),.v (.slice none 0 0)=>K (.v (.bool true))
  |_,_=>False
 |.ptr _=>match x,y with
  |.v (.pointer none),.v (.pointer none)=>K (.v (.bool true))
  |.cptr _,.v (.pointer none)=>K (.v (.bool false))
  |.ref _ _,.v (.pointer none)=>K (.v (.bool false))
  |.eref _ _ _ _ _,.v (.pointer none)=>K (.v (.bool false))
  |_,_=>False
 |_=>False
def cz(K:AV→Prop):AV→Prop
 |.v (.bool true)=>K (.v (.bool false))
 |.v (.bool false)=>K (.v (.bool true))
 |_=>False
def Yu(op:BinOp)(k:IntKind)(a b:Int)(K:AV→Prop):Prop :=
 match op with
 |.add=>K (.v (.int k (k.wrap (a+b))))
 |.sub=>K (.v (.int k (k.wrap (a-b))))
 |.mul=>K (.v (.int k (k.wrap (a*b))))
 |_=>False
def RH(op:BinOp)(k:IntKind)(a b:Int)(K:AV→Prop):Prop :=
 match k with
 |.i64=>match op with
  |.add=>BY (a+b)∧K (.v (.int .i64 (a+b)))
  |.sub=>BY (a-b)∧K (.v (.int .i64 (a-b)))
  |.mul=>BY (a*b)∧K (.v (.int .i64 (a*b)))
  |.quo=>(0≤a∧0<b∧BY a)∧K (.v (.int .i64 (a / b)))
  |.rem=>(0≤a∧0<b)∧K (.v (.int .i64 (a % b)))
  |_=>False
 |k=>Yu op k a b K
def RL(T:Gq)(op:BinOp)(t:Nat)(x y:AV)(K:AV→Prop):Prop :=
 match x,y with
 |.v (.int k a),.v (.int k' b)=>match oM k k' with
  |false=>False
  |true=>match op with
   |.eql=>IJ (a=b) K
   |.neq=>IJ (a≠b) K
   |.lss=>IJ (a<b) K
   |.leq=>IJ (a≤b) K
   |.gtr=>IJ (b<a) K
   |.geq=>IJ (b≤a) K
   |op=>RH op k a b K
 |.v (.string a),.v (.string b)=>match op with
   |.eql=>IJ (a=b) K
   |.neq=>IJ (a≠b) K
   |.lss=>IJ (Op.bytesLess a.toList b.toList=true) K
   |.geq=>IJ (Op.bytesLess a.toList b.toList=false) K
   |.gtr=>IJ (Op.bytesLess b.toList a.toList=true) K
   |.leq=>IJ (Op.bytesLess b.toList a.toList=false) K
   |.add=>((a.size+b.size:Nat):Int)≤9223372036854775807∧K (.v (.string (a++b)))
   |_=>False
 |x,y=>match op with
  |.eql=>om T t x y K
  |.neq=>om T t x y (cz K)
  |_=>False
def WP(T:Gq)(op:BinOp)(t:Nat)(Y:Operand)(x y:AV)(K:AV→Prop):Prop :=
 match Y with
 |.const .nilIface=>match x with
  |.v .nilIface=>match(T t).d with
   |.iface=>match op with
    |.eql=>K (.v (.bool true))
    |.neq=>K (.v (.bool false))
    |_=>False
   |_=>False
  |_=>False
 |_=>RL T op t x y K
def WX(T:Gq)(s t:Nat)(x:AV)(K:AV→Prop):Prop :=
 match(T s).d,(T t).d,x with
 |.int _,.int .i64,.v (.int _ n)=>BY n∧K (.v (.int .i64 n))
 |.int _,.int k,.v (.int _ n)=>K (.v (.int k (k.wrap n)))
 |.string,.string,.v (.string s)=>K (.v (.string s))
 |.slice e,.string,.slice _ es=>match(T e).d with
  |.int .u8=>∃l:List UInt8,es=l.map (fun b=>[AV.v (.int .u8 b.toNat)])∧K (.v (.string ⟨l.toArray⟩))
  |_=>False
 |_,_,_=>False
def VR(fs:List (Nat×Nat))(n:Nat):Option (Nat×Nat) :=
 match fs with
 | []=>none
 |x::r=>match n with |0=>some x |n+1=>VR r n
def Se(T:Gq)(s f:Nat)(x:AV)(K:AV→Prop):Prop :=
 match(T s).d with
 |.struct fs=>match VR fs f with
  |some (t,o)=>match(T t).size with
   |0=>False
   |_+1=>match x with
    |.cptr cs=>K (.cptr (cs.drop o))
    |.ref r off=>K (.ref r (off+o))
    |.eref r n z i off=>K (.eref r n z i (off+o))
    |_=>False
  |none=>False
 |_=>False
def X2(T:Gq)(t:Nat)(cs:List AV)(K:AV→Prop):Prop:=Lo T t cs K
def Oi(T:Gq)(s f:Nat)(x:AV)(K:AV→Prop):Prop :=
 match(T s).d,x with
 |.struct fs,.agg cs=>match VR fs f with
  |some (t,o)=>X2 T t (cs.drop o) K
  |none=>False
 |_,_=>False
def Jd(T:Gq)(t:Nat)(x ix:AV)(K:AV→Prop):Prop :=
 match(T t).d,ix with
 |.slice e,.v (.int .i64 i)=>match(T e).size with
  |0=>False
  |_+1=>match x with
   |.slice _ es=>∃cs,(0≤i∧es[i.toNat]?=some cs)∧cs.length=(T e).size∧K (.cptr cs)
   |.msl r n=>(0≤i∧i<n)∧K (.eref r n (T e).size i.toNat 0)
   |_=>False
 |.array n e,.v (.int .i64 i)=>match(T e).size with
  |0=>False
  |_+1=>match x with
   |.cptr cs=>(0≤i∧i<n)∧K (.cptr (cs.drop (i.toNat*(T e).size)))
   |.ref r off=>(0≤i∧i<n)∧K (.ref r (off+i.toNat*(T e).size))
   |_=>False
 |_,_=>False
def SK(T:Gq)(t:Nat)(x ix:AV)(K:AV→Prop):Prop :=
 match(T t).d,x,ix with
 |.string,.v (.string s),.v (.int .i64 i)=>∃b:UInt8,(0≤i∧s.data[i.toNat]?=some b)∧K (.v (.int .u8 b.toNat))
 |.array n e,.agg cs,.v (.int .i64 i)=>(0≤i∧i<n)∧X2 T e (cs.drop (i.toNat*(T e).size)) K
 |_,_,_=>False
def B6(t:Nat→AV):Option Operand→Option (Option Int)
 |none=>some none
 |some x=>match ev t x with |.v (.int .i64 i)=>some (some i) |_=>none
def over{α:Type}(cs:List α)(o:Nat)(vs:List α):List α :=
 match cs with
 | []=>[]
 |c::cs=>match o with
  |o+1=>c::over cs o vs
  |0=>match vs with
   | []=>c::cs
   |v::vs=>v::over cs 0 vs
structure Gh where
 ρ:Nat→Value
 ln:Nat→Nat
 tk:Nat→Bool
 own:Nat→Option Nat
 S:Nat→Nat→Prop
def I0:List KS→List Value→Bool
 | [],[]=>true
 |k::r,v::s=>match M2 k v with |true=>I0 r s |false=>false
 |_,_=>false
def Ve(sh:EG)(v:Value):Bool :=
 match sh.agg,v with
 |true,.agg cs=>I0 sh.l cs.toList
 |false,v=>I0 sh.l [v]
 |_,_=>false
def G4(sh:EG)(es:Array MapEntry)(ck:Nat)(B4:List (Value×AV)):Prop :=
 es.size=B4.length∧(∀(i:Nat) (kv:Value×AV) (e:MapEntry),B4[i]?=some kv→es[i]?=some e→e.key=kv.1) ∧
 (∀kv∈B4,Ve sh kv.1=true)∧(B4.map (·.1)).Nodup∧(∀(i:Nat) (e:MapEntry),es[i]?=some e→e.born<ck) ∧
 ∀(i j:Nat) (e e' : MapEntry),es[i]?=some e→es[j]?=some e'→e.born=e'.born→i=j
inductive BI(g:Gh)(w:World):(Nat→Prop)→AV→Value→Prop
 |v (U:Nat→Prop) (x:Value):BI g w U (.v x) x
 |junk (U:Nat→Prop) (x:Value):BI g w U .junk x
 |snil (U:Nat→Prop) (a:Option Addr) (cap:Nat):BI g w U (.slice .none []) (.slice a 0 cap)
 |slice (U:Nat→Prop) (es:List (List AV)) (b off sz cap:Nat) (val:Nat→Nat→Value) (hc:es.length≤cap)
   (hl:∀(i:Nat) (cs:List AV),es[i]?=some cs→cs.length=sz)
   (DE:∀(i:Nat) (cs:List AV) (j:Nat) (av:AV),es[i]?=some cs→cs[j]?=some av →
    g.S b (off+i*sz+j)∧w.cell? ⟨b,off+i*sz+j,none⟩=some (val i j)∧(val i j).oneCell'=true)
   (Ec:∀(i:Nat) (cs:List AV) (j:Nat) (av:AV),es[i]?=some cs→cs[j]?=some av→BI g w (fun _=>False) av (val i j)) :
   BI g w U (.slice .none es) (.slice (some ⟨b,off,none⟩) es.length cap)
 |tok (U:Nat→Prop) (r sz:Nat) (es:List (List AV)) (x:Value) (h:BI g w U (.slice .none es) x) (hl:∀c∈es,c.length=sz) (hu:U r) (ht:g.tk r=true) (hn:es.length≤g.ln r)
   (hx:es.length=g.ln r→x=g.ρ r):BI g w U (.slice (.id r sz) es) x
 |ver (U:Nat→Prop) (r sz v:Nat) (es:List (List AV)) (x:Value) (h:BI g w U (.slice .none es) x) (hl:∀c∈es,c.length=sz) (hu:U r) (ht:g.tk r=true) (hn:v≤g.ln r)
   (hx:v=g.ln r→x=g.ρ r):BI g w U (.slice (.ver r sz v) es) x
 |full (U:Nat→Prop) (sz:Nat) (es:List (List AV)) (x:Value) (h:BI g w U (.slice .none es) x) (hl:∀c∈es,c.length=sz) (hx:∃a,x=.slice a es.length es.length):BI g w U (.slice (.full sz) es) x
 |msl (U:Nat→Prop) (r n:Nat) (a:Option Addr) (cap:Nat) (hu:U r) (ht:g.tk r=true) (hn:n≤g.ln r) (ha:n=0∨∃b,a=some ⟨b,0,none⟩) (hx:n=g.ln r→.slice a n cap=g.ρ r) :
   BI g w U (.msl r n) (.slice a n cap)
 |agg (U:Nat→Prop) (cs:List AV) (vs:Array Value) (hs:vs.size=cs.length) (h1:∀(i:Nat) (x:Value),vs[i]?=some x→x.oneCell'=true)
   (h:∀(i:Nat) (av:AV) (x:Value),cs[i]?=some av→vs[i]?=some x→BI g w U av x):BI g w U (.agg cs) (.agg vs)
 |tup (U:Nat→Prop) (cs:List AV) (vs:Array Value) (hs:vs.size=cs.length)
   (h:∀(i:Nat) (av:AV) (x:Value),cs[i]?=some av→vs[i]?=some x→BI g w U av x):BI g w U (.tup cs) (.tuple vs)
 |cptr (U:Nat→Prop) (cs:List AV) (b off:Nat) (val:Nat→Value)
   (DE:∀(j:Nat) (av:AV),cs[j]?=some av→g.S b (off+j)∧w.cell? ⟨b,off+j,none⟩=some (val j)∧(val j).oneCell'=true)
   (Ec:∀(j:Nat) (av:AV),cs[j]?=some av→BI g w (fun _=>False) av (val j)) :
   BI g w U (.cptr cs) (.pointer (some ⟨b,off,none⟩))
 |ref (U:Nat→Prop) (r off b:Nat) (hu:U r) (ht:g.tk r=false) (hx:g.ρ r=.pointer (some ⟨b,0,none⟩)):BI g w U (.ref r off) (.pointer (some ⟨b,off,none⟩))
 |eref (U:Nat→Prop) (r n sz i off b cap:Nat) (hu:U r) (ht:g.tk r=true) (hn:i<n∧n≤g.ln r) (hx:n=g.ln r→g.ρ r=.slice (some ⟨b,0,none⟩) n cap) :
   BI g w U (.eref r n sz i off) (.pointer (some ⟨b,i*sz+off,none⟩))
 |mref (U:Nat→Prop) (r b:Nat) (hu:U r) (ht:g.tk r=false) (hx:g.ρ r=.map (some b)):BI g w U (.mref r) (.map (some b))
 |cmap (U:Nat→Prop) (sh:EG) (B4:List (Value×AV)) (b:Nat) (es:Array MapEntry) (ck:Nat) (hS:g.S b 0) (hb:w.heap[b]?=some (.map es ck)) (hm:G4 sh es ck B4)
   (h:∀(i:Nat) (kv:Value×AV) (e:MapEntry),B4[i]?=some kv→es[i]?=some e→BI g w (fun _=>False) kv.2 e.val):BI g w U (.cmap sh B4) (.map (some b))
 |clo (U:Nat→Prop) (f:Nat) (cs:List AV) (vs:Array Value) (hs:vs.size=cs.length)
   (h:∀(i:Nat) (av:AV) (x:Value),cs[i]?=some av→vs[i]?=some x→BI g w U av x):BI g w U (.clo f cs) (.func (.func f) #[] vs)
def HO.live:HO→Prop
 |.free |.dead |.vox _ |.ro _ |.rom _ _=>False
 |_=>True
def AR(h:Nat→HO)(r:Nat):Prop:=h r≠.free
def Fp:Nat→Prop:=fun _=>False
def CF(g:Gh)(w:World)(U:Nat→Prop)(cs:List AV)(vs:List Value):Prop :=
 vs.length=cs.length∧(∀x∈vs,x.oneCell'=true)∧∀(i:Nat) (av:AV) (x:Value),cs[i]?=some av→vs[i]?=some x→BI g w U av x
def N4:List Nat→Code→Bool
 |bs,.block id c=>N4 (id::bs) c
 |bs,.seq a b=>N4 bs a||N4 bs b
 |bs,.cond _ a b=>N4 bs a||N4 bs b
 |bs,.loop c=>N4 bs c
 |bs,.exit id=>!(bs.any fun i=>Nat.beq i id)
 |_,_=>false
def pc:Obj→Bool
 |.loop r=>N4 [] r.body
 |_=>false
def Ea(g:Gh)(w:World)(U:Nat→Prop)(r:Nat):HO→Prop
  |.free |.dead=>True
  |.cells cs=>g.tk r=false∧∃b E vs,g.own r=some b∧g.ρ r=.pointer (some ⟨b,0,none⟩)∧w.heap[b]?=some (.cells vs E (0,0))∧CF g w U cs vs.toList∧∀o,¬g.S b o
  |.ro cs=>g.tk r=false∧∃b,g.ρ r=.pointer (some ⟨b,0,none⟩)∧BI g w Fp (.cptr cs) (.pointer (some ⟨b,0,none⟩))
  |.tok sz n=>g.tk r=true∧g.ln r=n∧∃a cap,g.ρ r=.slice a n cap∧(n=cap∧g.own r=none ∨
      n≤cap∧∃b E vs off,a=some ⟨b,off,none⟩∧g.own r=some b∧w.heap[b]?=some (.cells vs E (0,0))∧vs.size=off+cap*sz∧∀o,g.S b o→o<off+n*sz)
  |.var sz v n=>g.tk r=true∧g.ln r=v∧∃a cap,g.ρ r=.slice a n cap∧(n=cap∧g.own r=none ∨
      n≤cap∧∃b E vs off,a=some ⟨b,off,none⟩∧g.own r=some b∧w.heap[b]?=some (.cells vs E (0,0))∧vs.size=off+cap*sz∧∀o,g.S b o→o<off+n*sz)
  |.vox v=>g.tk r=true∧g.ln r=v
  |.arr sz es=>g.tk r=true∧g.ln r=es.length∧(∀cs∈es,cs.length=sz)∧(es=[]∧g.ρ r=.slice none 0 0∧g.own r=none ∨
      ∃b cap E vs,g.ρ r=.slice (some ⟨b,0,none⟩) es.length cap∧g.own r=some b∧es.length≤cap∧w.heap[b]?=some (.cells vs E (0,0))∧vs.size=cap*sz ∧
        CF g w Fp es.flatten (vs.toList.take (es.length*sz))∧∀o,¬g.S b o)
  |.map sh B4=>g.tk r=false∧∃b es ck,g.own r=some b∧g.ρ r=.map (some b)∧w.heap[b]?=some (.map es ck)∧G4 sh es ck B4 ∧
      (∀(i:Nat) (kv:Value×AV) (e:MapEntry),B4[i]?=some kv→es[i]?=some e→BI g w Fp kv.2 e.val)∧∀o,¬g.S b o
  |.mapU sh B4=>g.tk r=false∧∃b es ck,g.own r=some b∧g.ρ r=.map (some b)∧w.heap[b]?=some (.map es ck)∧G4 sh es ck B4 ∧
      (∀(i:Nat) (kv:Value×AV) (e:MapEntry),B4[i]?=some kv→es[i]?=some e→BI g w U kv.2 e.val)∧∀o,¬g.S b o
  |.rom sh B4=>g.tk r=false∧∃b,g.ρ r=.map (some b)∧BI g w Fp (.cmap sh B4) (.map (some b))
  |.iter all rem Fz=>g.tk r=false∧∃b mb JP seen st es ck,g.own r=some b∧g.ρ r=.pointer (some ⟨b,0,none⟩)∧w.heap[b]?=some (.mapIter (some mb) JP seen st) ∧
      g.S mb 0∧w.heap[mb]?=some (.map es ck)∧(∃sh,G4 sh es ck all)∧JP=ck∧st=ck ∧
      (∀(i:Nat) (kv:Value×AV) (e:MapEntry),all[i]?=some kv→es[i]?=some e→BI g w Fp kv.2 e.val) ∧
      (rem.Nodup∧∀kv∈rem,kv∈all)∧(∀(i:Nat) (kv:Value×AV) (e:MapEntry),all[i]?=some kv→es[i]?=some e→(kv∈rem↔e.born∉seen)) ∧
      (match Fz with | none=>True | some kv=>∃(i:Nat) (e:MapEntry),all[i]?=some kv∧es[i]?=some e∧seen.back?=some e.born)∧∀o,¬g.S b o
  |.hol sz es i c a=>g.tk r=true∧g.ln r=es.length∧(∀cs∈es,cs.length=sz)∧∃b cap E vs,g.ρ r=.slice (some ⟨b,0,none⟩) es.length cap∧g.own r=some b∧es.length≤cap∧w.heap[b]?=some (.cells vs E (0,0))∧vs.size=cap*sz ∧
        CF g w Fp es.flatten (vs.toList.take (es.length*sz))∧(∀o,¬g.S b o)∧i*sz+c<es.length*sz∧∃x,vs[i*sz+c]?=some x∧BI g w U a x
  |.raw b ob=>g.tk r=false∧g.own r=some b∧w.heap[b]?=some ob∧pc ob=true∧∀o,¬g.S b o
def gB:Nat:=0
def pG:List (Nat×Nat×Option Value):=[]
def Vs(g:Gh)(w:World):Prop:=(g.S gB 0∧∃m,w.cell? ⟨gB,0,none⟩=some (.int .i64 m))∧∀x∈pG,g.S x.1 x.2.1∧w.cell? ⟨x.1,x.2.1,none⟩=x.2.2
structure DJ(w0:World)(g0:Gh)(h0:Nat→HO)(h:Nat→HO)(g:Gh)(w:World):Prop where
 os:w.os=w0.os
 tape:w.tape=w0.tape
 output:w.output=w0.output
 size:w0.heap.size≤w.heap.size
 frame:∀b,b<w0.heap.size→(∀r,(h0 r).live→g0.own r≠some b)→w.heap[b]?=w0.heap[b]?
 slt:∀b o,g.S b o→b<w.heap.size
 objs:∀r,Ea g w (AR h) r (h r)
 inj:∀r r' b,(h r).live→(h r').live→g.own r=some b→g.own r'=some b→r=r'
 loc:∀r b,(h r).live→g.own r=some b→b<w.heap.size∧(w0.heap.size≤b∨∃r',(h0 r').live∧g0.own r'=some b)
 sg:∀b o,g.S b o→g0.S b o∨w0.heap.size≤b∨∃r',(h0 r').live∧g0.own r'=some b
 glob:Vs g w
def EY(g:Gh)(w:World)(g' : Gh)(w' : World):Prop :=
 ∀b o,g.S b o→g'.S b o∧w'.cell? ⟨b,o,none⟩=w.cell? ⟨b,o,none⟩∧∀es ck,w.heap[b]?=some (.map es ck)→w'.heap[b]?=some (.map es ck)
def JS(g g' : Gh)(U:Nat→Prop):Prop :=
 ∀i,U i→g'.tk i=g.tk i∧g.ln i≤g'.ln i∧(g.tk i=false→g'.ρ i=g.ρ i)∧(g'.ln i=g.ln i→g'.ρ i=g.ρ i)
structure Le(h:Nat→HO)(g:Gh)(w:World)(h' : Nat→HO)(g' : Gh)(w' : World):Prop where
 gh:JS g g' (AR h)
 us:∀i,AR h i→AR h' i
 keeps:EY g w g' w'
def F1 (P : Program) (f : Nat) : Prop := ∃ fn, P.funcs[f]? = some fn ∧ (fn.name == "runtime.NumGoroutine") = false ∧ fn.body.isNone = false
def Be(P:Program)(f:Nat)(args:List AV)(h0:Nat→HO)(Q:AV→(Nat→HO)→Prop):Prop :=
 F1 P f∧∀(g:Gh) (w:World) (vals:Array Value),vals.size=args.length→(∀(i:Nat) (av:AV) (x:Value),args[i]?=some av→vals[i]?=some x→BI g w (AR h0) av x) →
  DJ w g h0 h0 g w →
  Calls P f vals w fun e w'=>∃v r h' g',e=.returned v∧Q r h'∧BI g' w' (AR h') r v∧DJ w g h0 h' g' w'∧Le h0 g w h' g' w'
def LD(P:Program)(f:Nat)(args:List AV)(res:AV):Prop:=Be P f args Ab fun r h'=>r=res∧h'=Ab
def IH(P:Program)(Y:Gh→World→Prop)(l:Nat)(args:List AV)(h0:Nat→HO)(Q:AV→(Nat→HO)→Prop):Prop :=
 ∀(g:Gh) (w:World) (vals:Array Value),vals.size=args.length→(∀(i:Nat) (av:AV) (x:Value),args[i]?=some av→vals[i]?=some x→BI g w (AR h0) av x) →
  DJ w g h0 h0 g w→Y g w →
  YieldAt Fence.wide 0 P l vals w fun e w'=>∃v r h' g',e=.returned v∧Q r h'∧BI g' w' (AR h') r v∧DJ w g h0 h' g' w'∧Le h0 g w h' g' w'
def lZ(P:Program)(Y:Gh→World→Prop)(f:Nat)(args:List AV)(h0:Nat→HO)(Q:AV→(Nat→HO)→Prop):Prop :=
 F1 P f∧∀(g:Gh) (w:World) (vals:Array Value),vals.size=args.length→(∀(i:Nat) (av:AV) (x:Value),args[i]?=some av→vals[i]?=some x→BI g w (AR h0) av x) →
  DJ w g h0 h0 g w→Y g w →
  Calls P f vals w fun e w'=>∃v r h' g',e=.returned v∧Q r h'∧BI g' w' (AR h') r v∧DJ w g h0 h' g' w'∧Le h0 g w h' g' w'
def F0(P:Program)(Y:Nat→Gh→World→Prop)(F:AV)(args:List AV)(h:Nat→HO)(Q:AV→(Nat→HO)→Prop):Prop :=
 match F with
 |.v (.func (.func f) ⟨[]⟩ ⟨[]⟩)=>Be P f args h Q
 |.clo f caps=>Be P f (args++caps) h Q
 |.v (.func (.yield l) ⟨[]⟩ ⟨[]⟩)=>IH P (Y l) l args h Q
 |_=>False
def Pi(P:Program)(F:AV)(args:List AV)(res:AV):Prop :=
 match F with
 |.v (.func (.func f) ⟨[]⟩ ⟨[]⟩)=>LD P f args res
 |.clo f caps=>LD P f (args++caps) res
 |_=>False
structure Cx where
 P:Program
 T:Gq
 pl:TM
 ext:Bool
 nid:Nat
 yp:Nat→List (Nat×Nat)→Gh→World→Prop
def Kq(cx:Cx)(d:Nat):Nat:=bif IC cx.pl.dyn d then cx.nid else d
abbrev HK:=AV→(Nat→HO)→Prop
def RF(T:Gq)(d:Option Nat)(h:Nat→HO)(e:Nat)(K:HK):Prop :=
 match d with
 |none=>False
 |some d=>match h d with
  |.free=>match(T e).d with
   |.other=>False
   |_=>match GW ((T e).zc.map .v)with
    |true=>K (.ref d 0) (AW h d (.cells ((T e).zc.map .v)))
    |false=>False
  |_=>False
def GX(n:Nat)(a:AV)(K:List AV→Prop):Prop :=
 match a with
 |.agg cs=>match Nat.beq cs.length n with
  |true=>K cs
  |false=>False
 |a=>match one a with
  |true=>match n with
   |1=>K [a]
   |_=>False
  |false=>False
def bm(cx:Cx)(d:Option Nat)(h:Nat→HO)(e:Nat)(x:AV)(K:HK):Prop :=
 match d with
 |none=>False
 |some d=>match h d with
  |.free=>match(cx.T e).d with
   |.other=>False
   |_=>GX (cx.T e).size x fun cs=>match IC cx.pl.frz d with
    |true=>K (.ref d 0) (AW h d (.ro (cs.map (str h))))
    |false=>K (.ref d 0) (AW h d (.cells cs))
  |_=>False
def NN(cx:Cx)(h:Nat→HO)(t:Nat)(p x:AV)(K:HK):Prop :=
 match(cx.T t).d with
 |.other=>False
 |_=>GX (cx.T t).size x fun vs=>match p with
  |.ref r off=>match h r with
   |.cells cs=>off+vs.length≤cs.length∧(match IC cx.pl.frz r with
    |true=>K (.v undef) (AW h r (.ro ((over cs off vs).map (str h))))
    |false=>K (.v undef) (AW h r (.cells (over cs off vs))))
   |_=>False
  |.eref r n sz i off=>match h r with
   |.arr Gm es=>match Nat.beq sz Gm with
    |true=>n=es.length∧∃cs,es[i]?=some cs∧off+vs.length≤sz∧(match vs with
     | [.msl j m]=>K (.v undef) (AW h r (.hol sz (es.set i (over cs off [.junk])) i off (.msl j m)))
     |_=>K (.v undef) (AW h r (.arr sz (es.set i (over cs off (vs.map (str h)))))))
    |false=>False
   |_=>False
  |_=>False
def H2(T:Gq)(h:Nat→HO)(t:Nat)(p:AV)(K:AV→Prop):Prop :=
 match p with
 |.cptr cs=>Lo T t cs K
 |.ref r off=>match h r with
  |.cells cs=>Lo T t (cs.drop off) K
  |.ro cs=>Lo T t (cs.drop off) K
  |_=>False
 |.eref r n sz i off=>match h r with
  |.arr Gm es=>match Nat.beq sz Gm with
   |true=>n=es.length∧∃cs,es[i]?=some cs∧Lo T t (cs.drop off) K
   |false=>False
  |.hol Gm es i' c a=>match Nat.beq sz Gm with
   |true=>(n=es.length∧i=i'∧off=c)∧Lo T t [a] K
   |false=>False
  |_=>False
 |_=>False
def Ks(pl:Nat→Option (Nat×Nat))(cs:List AV)(t:Nat→AV)(ps:List (Nat×Operand))(K:List AV→Prop):Prop :=
 match ps with
 | []=>K cs
 |(i,x)::r=>match pl i with
  |none=>False
  |some (o,n)=>GX n (ev t x) fun vs=>match Nat.ble (o+n) cs.length with
   |true=>Ks pl (over cs o vs) t r K
   |false=>False
def NZ(T:Gq):List (Nat×Nat)→Bool
 | []=>true
 |(t,_)::r=>match(T t).size with |0=>false |_+1=>NZ T r
def Po(T:Gq)(ty:Nat)(t:Nat→AV)(ps:List (Nat×Operand))(K:AV→Prop):Prop :=
 match GW ((T ty).zc.map .v)with
 |false=>False
 |true=>match(T ty).d with
  |.struct fs=>match NZ T fs with
   |false=>False
   |true=>Ks (fun i=>match VR fs i with |some (t,o)=>some (o,(T t).size) |none=>none) ((T ty).zc.map .v) t ps fun cs=>K (.agg cs)
  |.array _ e=>match(T e).size with
   |0=>False
   |_+1=>Ks (fun i=>some (i*(T e).size,(T e).size)) ((T ty).zc.map .v) t ps fun cs=>K (.agg cs)
  |_=>False
def Qt(n sz:Nat)(h:Nat→HO)(es:List (List AV))(t:Nat→AV)(ps:List (Nat×Operand))(K:List (List AV)→Prop):Prop :=
 match ps with
 | []=>K es
 |(i,x)::r=>match Nat.blt i n with
  |true=>GX sz (ev t x) fun vs=>Qt n sz h (es.set i (vs.map (str h))) t r K
  |false=>False
def Ew(cx:Cx)(d:Option Nat)(h:Nat→HO)(sz:Nat)(es:List (List AV))(K:HK):Prop :=
 match d with
 |none=>False
 |some d=>match h (Kq cx d)with
  |.free=>match GA cx.pl.arr d with
   |some _=>K (.msl (Kq cx d) es.length) (AW h (Kq cx d) (.arr sz es))
   |none=>K (.slice (.id (Kq cx d) sz) es) (AW h (Kq cx d) (.tok sz es.length))
  |_=>False
def Im(cx:Cx)(d:Option Nat)(h:Nat→HO)(ty n:Nat)(t:Nat→AV)(ps:List (Nat×Operand))(K:HK):Prop :=
 match(cx.T ty).d with
 |.slice e=>match GW ((cx.T e).zc.map .v),Nat.beq (cx.T e).zc.length (cx.T e).size with
  |true,true=>match(cx.T e).size with
   |0=>False
   |_+1=>match Nat.ble (n*(cx.T e).size) 16777216 with
    |true=>Qt n (cx.T e).size h (List.replicate n ((cx.T e).zc.map .v)) t ps fun es=>Ew cx d h (cx.T e).size es K
    |false=>False
  |_,_=>False
 |_=>False
def Kw(t:Nat→AV)(h:Nat→HO)(fn:Fn)(first captured:List Operand)(K:AV→Prop):Prop :=
 match fn,first with
 |.func f,[]=>K (.clo f (captured.map fun x=>rsv h (ev t x)))
 |_,_=>False
def Dp(sz:Nat):List (List AV)→Prop
 | []=>True
 |c::r=>c.length=sz∧Dp sz r
def KV(h:Nat→HO)(x:AV)(K:List (List AV)→Prop):Prop :=
 match x with
 |.slice _ es=>K es
 |.v (.slice none 0 0)=>K []
 |.msl r n=>match h r with
  |.arr _ es=>n=es.length∧K es
  |_=>False
 |_=>False
def H9(cx:Cx)(d:Option Nat)(h:Nat→HO)(ty:Nat)(s x:AV)(K:HK):Prop :=
 match(cx.T ty).d with
 |.slice e=>match Nat.beq (cx.T e).zc.length (cx.T e).size with
  |false=>False
  |true=>match(cx.T e).size with
   |0=>False
   |_+1=>KV h x fun es2=>match s with
    |.v (.slice none 0 0)=>(Dp (cx.T e).size es2∧es2.length*(cx.T e).bytes≤140737488355328∧es2.length≤9223372036854775807)∧Ew cx d h (cx.T e).size es2 K
    |.slice (.full Gm) es=>match Nat.beq Gm (cx.T e).size with
     |true=>(Dp (cx.T e).size es2∧0<es2.length∧(es.length+es2.length)*(cx.T e).bytes≤140737488355328∧es.length+es2.length≤9223372036854775807)∧Ew cx d h (cx.T e).size (es++es2) K
     |false=>False
    |.slice (.id r Gm) es=>match h r with
     |.tok sz n=>match Nat.beq sz (cx.T e).size,Nat.beq Gm sz with
      |true,true=>(Dp sz es2∧es.length=n∧(es.length+es2.length)*(cx.T e).bytes≤140737488355328∧es.length+es2.length≤9223372036854775807) ∧
        K (.slice (.id r sz) (es++es2)) (AW h r (.tok sz (es.length+es2.length)))
      |_,_=>False
     |_=>False
    |.msl r n=>match h r with
     |.arr sz es=>match Nat.beq sz (cx.T e).size with
      |true=>(Dp sz es2∧es.length=n∧(es.length+es2.length)*(cx.T e).bytes≤140737488355328∧es.length+es2.length≤9223372036854775807) ∧
        K (.msl r (es.length+es2.length)) (AW h r (.arr sz (es++es2)))
      |false=>False
     |_=>False
    |_=>False
 |_=>False
abbrev IQ:=List (Nat×Nat)
inductive oT | pure | rel | gen (σ:IQ) (nn:Nat) | geny (σ:IQ) (nn:Nat)
def Ct(σ:IQ)(n:Nat):Option Nat :=
 match σ with
 | []=>none
 |(i,j)::r=>bif Nat.beq i n then some j else Ct r n
def HE(σ:IQ)(n:Nat):Option Nat :=
 match σ with
 | []=>none
 |(i,j)::r=>bif Nat.beq j n then some i else HE r n
def Ei:IQ→Bool
 | []=>true
 |(i,j)::r=>(match Ct r i,HE r j with |none,none=>true |_,_=>false)&&Nat.ble 1000 j&&Nat.blt j 2000&&Ei r
def GG:IQ→Bool
 | []=>true
 |(i,j)::r=>(match Ct r i,HE r j with |none,none=>true |_,_=>false)&&GG r
def ren0(f:Nat→Option Nat)(h:Nat→HO):AV→AV
 |.slice (.id r sz) es=>match f r with |some r'=>.slice (.id r' sz) es |none=>.slice .none es
 |.slice (.ver r sz v) es=>match f r with |some r'=>.slice (.ver r' sz v) es |none=>.slice .none es
 |.msl r n=>match f r with |some r'=>.msl r' n |none=>.junk
 |.ref r off=>match f r with |some r'=>.ref r' off |none=>str0 h (.ref r off)
 |.eref r n sz i off=>match f r with |some r'=>.eref r' n sz i off |none=>.junk
 |.mref r=>match f r with |some r'=>.mref r' |none=>str0 h (.mref r)
 |a=>str0 h a
def ren1(f:Nat→Option Nat)(h:Nat→HO):AV→AV
 |.agg cs=>.agg (cs.map (ren0 f h))
 |.clo g cs=>.clo g (cs.map (ren0 f h))
 |a=>ren0 f h a
def ren(f:Nat→Option Nat)(h:Nat→HO):AV→AV
 |.tup cs=>.tup (cs.map (ren1 f h))
 |a=>ren1 f h a
def HO.ren(f:Nat→Option Nat)(h:Nat→HO):HO→HO
 |.cells cs=>.cells (cs.map (ren1 f h))
 |.mapU sh B4=>.mapU sh (B4.map fun p=>(p.1,ren1 f h p.2))
 |.hol sz es i c a=>.hol sz es i c (ren1 f h a)
 |o=>o
def Aj(l:List (Nat×HO))(hb:Nat→HO)(i:Nat):HO:=match l with | []=>hb i | (j,v)::r=>bif Nat.beq i j then v else Aj r hb i
def Wi(f:Nat→Option Nat)(h:Nat→HO):IQ→List (Nat×HO)
 | []=>[]
 |(i,j)::r=>(j,(h i).ren f h)::Wi f h r
def Fy(σ:IQ)(h:Nat→HO):Nat→HO:=Aj (Wi (Ct σ) h σ) Ab
def Bp(d k:Nat):Nat:=10000+100*d+k
def E1(σ:IQ)(d nn:Nat)(j:Nat):Option Nat :=
 match HE σ j with
 |some i=>some i
 |none=>match Nat.ble 2000 j&&Nat.blt j (2000+nn)with |true=>some (Bp d (j-2000)) |false=>none
def D0(σ:IQ)(d nn:Nat)(h h' : Nat→HO):Nat→HO:=fun i =>
 match Ct σ i with
 |some j=>(h' j).ren (E1 σ d nn) h'
 |none=>match Nat.ble (Bp d 0) i&&Nat.blt i (Bp d nn)with |true=>(h' (2000+(i-Bp d 0))).ren (E1 σ d nn) h' |false=>h i
def DF(h:Nat→HO)(d:Nat):Nat→Bool
 |0=>true
 |k+1=>(match h (Bp d k)with |.free=>true |_=>false)&&DF h d k
def Dm(σ:IQ)(d nn:Nat):Bool :=
 match σ with
 | []=>true
 |(i,_)::r=>!(Nat.ble (Bp d 0) i&&Nat.blt i (Bp d nn))&&Dm r d nn
def Ng(l:List (Nat×Nat))(d:Option Nat):Option Nat:=match d with | none=>none | some d=>GA l d
def aq:AV→Bool | .tup _=>false | _=>true
def Tf:List AV→Bool
 | []=>true
 |a::r=>match aq a with |true=>Tf r |false=>false
def Vl:List AV→Option (List Value)
 | []=>some []
 |.v x::r=>match Vl r with |some l=>some (x::l) |none=>none
 |_=>none
def QR(cx:Cx)(k:Nat)(d:Option Nat)(h:Nat→HO)(F:AV)(args:List AV)(K:HK):Prop :=
 match d,F,args with
 |some d,.v (.func (.func f) ⟨[]⟩ ⟨[]⟩),.msl r n::l=>match Vl l with
  |some vs=>match h r with
   |.arr sz es=>match k with
    |0=>∃n' FA,Be cx.P f (.msl 1000 n::vs.map .v) (Aj [(1000,.arr sz es)] Ab) (fun r' h'=>r'=.msl 1000 n'∧h'=Aj [(1000,.arr sz FA)] Ab)∧K (.msl r n') (AW h r (.arr sz FA))
    |_+1=>∃n' FA,(DF h d 1&&Nat.blt r 10000000&&!Nat.beq r (Bp d 0))=true∧Be cx.P f (.msl 1000 n::vs.map .v) (Aj [(1000,.arr sz es)] Ab) (fun r' h'=>r'=.msl 2000 n'∧h'=Aj [(1000,.dead),(2000,.arr sz FA)] Ab) ∧
      K (.msl (Bp d 0) n') (AW (AW h r .dead) (Bp d 0) (.arr sz FA))
   |_=>False
  |none=>False
 |_,_,_=>False
def TJ(cx:Cx)(d:Option Nat)(st:St)(F:AV)(args:List AV)(K:HK):Prop :=
 match d with
 |none=>False
 |some d=>∃sz es,(DF st.h d 1&&aq F&&Tf args)=true∧F0 cx.P (fun l=>cx.yp l []) (str st.h F) (args.map (str st.h)) Ab (fun r h'=>r=.slice (.id 2000 sz) es∧h'=Aj [(2000,.tok sz es.length)] Ab) ∧
   K (.slice (.id (Bp d 0) sz) es) (AW st.h (Bp d 0) (.tok sz es.length))
def Qf(cx:Cx)(d:Option Nat)(st:St)(F:AV)(args:List AV)(K:HK):Prop :=
  match d,F,Vl args with
  |some _,.v (.func (.yield l) ⟨[]⟩ ⟨[]⟩),some vs=>match st.h 1000,st.h 1001 with
    |.cells [.slice (.id r sz) es],.tok aN n=>(r=1001∧aN=sz)∧∃v FA n',IH cx.P (cx.yp l [(1000,1000),(1001,1001)]) l (vs.map .v) (Aj [(1000,.cells [.slice (.id 1001 sz) es]),(1001,.tok sz n)] Ab)
          (fun r h'=>r=.v v∧h'=Aj [(1000,.cells [.slice (.id 1001 sz) FA]),(1001,.tok sz n')] Ab) ∧
        K (.v v) (AW (AW st.h 1001 (.tok sz n')) 1000 (.cells [.slice (.id 1001 sz) FA]))
    |_,_=>False
  |_,_,_=>False
def jx:List Nat:=[1000,1001,1002,1003,1004,1005,1006,1007]
def Xk(cx:Cx)(d:Option Nat)(st:St)(F:AV)(args:List AV)(K:HK):Prop :=
 match d,F with
 |some d,.v (.func (.func f) ⟨[]⟩ ⟨[]⟩)=>∃(σ:IQ) (H0 Hn:List (Nat×HO)) (args' : List AV) (res:AV),
   (∀h2:Nat→HO,(∀r∈jx,h2 r=st.h r)→Fy σ h2=Aj H0 Ab∧args.map (ren (Ct σ) h2)=args')∧(Ei σ&&Dm σ d 0&&σ.all fun p=>IC jx p.1)=true ∧
   Be cx.P f args' (Aj H0 Ab) (fun r h'=>r=res∧h'=Aj Hn Ab)∧K (ren (E1 σ d 0) (Aj Hn Ab) res) (D0 σ d 0 st.h (Aj Hn Ab))
 |_,_=>False
def OV(cx:Cx)(k:Nat)(d:Option Nat)(st:St)(F:AV)(args:List AV)(K:HK):Prop :=
 match Nat.beq k 4 with
 |true=>Xk cx d st F args K
 |false=>QR cx k d st.h F args K
def Gb(cx:Cx)(dr:Bool)(d:Option Nat)(st:St)(F:AV)(args:List AV)(K:HK):Prop :=
 match dr with
 |true=>match Ng cx.pl.dc d with
  |none=>∃res,Pi cx.P (str st.h F) (args.map (str st.h)) res∧K res st.h
  |some 0=>match d with
   |none=>False
   |some d=>∃n sz es,(DF st.h d 1&&aq F&&Tf args)=true∧F0 cx.P (fun l=>cx.yp l []) (str st.h F) (args.map (str st.h)) Ab (fun r h'=>r=.msl 2000 n∧h'=Aj [(2000,.arr sz es)] Ab) ∧
     K (.msl (Bp d 0) n) (AW st.h (Bp d 0) (.arr sz es))
  |some (k+1)=>match Nat.beq k 2 with
   |true=>TJ cx d st F args K
   |false=>match Nat.beq k 3 with
    |true=>Qf cx d st F args K
    |false=>OV cx k d st F args K
 |false=>∃m:oT,match m with
  |.pure=>∃res,Pi cx.P (str st.h F) (args.map (str st.h)) res∧K res st.h
  |.rel=>F0 cx.P (fun _ _ _=>True) (str st.h F) (args.map (str st.h)) Ab fun r h'=>h'=Ab∧K r st.h
  |.gen σ nn=>match d with
   |none=>False
   |some d=>(Ei σ&&DF st.h d nn&&Dm σ d nn)=true ∧
     F0 cx.P (fun l=>cx.yp l σ) (ren (Ct σ) st.h F) (args.map (ren (Ct σ) st.h)) (Fy σ st.h) fun r h'=>K (ren (E1 σ d nn) h' r) (D0 σ d nn st.h h')
  |.geny σ nn=>match d with
   |none=>False
   |some d=>(Ei σ&&DF st.h d nn&&Dm σ d nn)=true ∧
     match ren (Ct σ) st.h F with
     |.clo f caps=>lZ cx.P (fun g w=>∀l,cx.yp l σ g w) f (args.map (ren (Ct σ) st.h)++caps) (Fy σ st.h) fun r h'=>K (ren (E1 σ d nn) h' r) (D0 σ d nn st.h h')
     |_=>False
def Wr:List AV→Option (List Value)
 | []=>some []
 |.v x::r=>match Wr r with |some l=>some (x::l) |none=>none
 |_=>none
def nA:AV→Option Value
 |.v x=>some x
 |.agg cs=>match Wr cs with |some l=>some (.agg l.toArray) |none=>none
 |_=>none
def HI(T:Gq)(t:Nat):Option EG :=
 match(T t).d with
 |.struct _=>match Hs T 8 t with |some l=>some ⟨true,l⟩ |none=>none
 |_=>match Hs T 1 t with |some l=>some ⟨false,l⟩ |none=>none
def j8:KS→KS→Bool
 |.int k,.int k'=>oM k k'
 |.str,.str=>true
 |.bool,.bool=>true
 |_,_=>false
def ST:List KS→List KS→Bool
 | [],[]=>true
 |a::r,b::s=>match j8 a b with |true=>ST r s |false=>false
 |_,_=>false
def nW(a b:EG):Bool :=
 match a.agg,b.agg with
 |true,true=>ST a.l b.l
 |false,false=>ST a.l b.l
 |_,_=>false
def J0(T:Gq)(ty:Nat)(sh:EG)(k:AV)(K:Value→Prop):Prop :=
 match(T ty).d with
 |.map kt _=>match HI T kt with
  |some sE=>match nW sh sE with
   |true=>match nA k with
    |some kx=>match Ve sh kx with
     |true=>K kx
     |false=>False
    |none=>False
   |false=>False
  |none=>False
 |_=>False
open Classical in
noncomputable def EP(B4:List (Value×AV))(k:Value)(a:AV):List (Value×AV) :=
 if ∃a',(k,a')∈B4 then B4.map fun p=>if p.1=k then(k,a)else p else B4++[(k,a)]
def Kx(T:Gq)(mku:List Nat)(d:Option Nat)(h:Nat→HO)(ty:Nat)(K:HK):Prop :=
 match d with
 |none=>False
 |some d=>match h d with
  |.free=>match(T ty).d with
   |.map kt _=>match HI T kt with
    |some sh=>match IC mku d with
     |true=>K (.mref d) (AW h d (.mapU sh []))
     |false=>K (.mref d) (AW h d (.map sh []))
    |none=>False
   |_=>False
  |_=>False
def GZ(T:Gq)(h:Nat→HO)(ty:Nat)(m k x:AV)(K:HK):Prop :=
 match m with
 |.mref r=>match h r with
  |.map sh B4=>J0 T ty sh k fun kx=>K (.v undef) (AW h r (.map sh (EP B4 kx (str h x))))
  |.mapU sh B4=>J0 T ty sh k fun kx=>K (.v undef) (AW h r (.mapU sh (EP B4 kx x)))
  |_=>False
 |_=>False
def J8(T:Gq)(t:Nat)(K:AV→Prop):Prop :=
 match(T t).d with
 |.other=>False
 |_=>match(T t).zero with
  |.agg cs=>match GW (cs.toList.map .v)with |true=>K (.agg (cs.toList.map .v)) |false=>False
  |z=>K (.v z)
def LT(T:Gq)(ty:Nat)(ok:Bool)(B4:List (Value×AV))(kx:Value)(K:AV→Prop):Prop :=
 match(T ty).d with
 |.map _ e=>match ok with
  |true=>(∀a,(kx,a)∈B4→K (.tup [a,.v (.bool true)]))∧((∀a,(kx,a)∉B4)→J8 T e fun z=>K (.tup [z,.v (.bool false)]))
  |false=>(∀a,(kx,a)∈B4→K a)∧((∀a,(kx,a)∉B4)→J8 T e K)
 |_=>False
def LR(T:Gq)(ty:Nat)(ok:Bool)(B4:List (Value×AV))(kx:Value)(K:AV→Prop):Prop :=
 match(T ty).d with
 |.map _ e=>match ok with
  |true=>(∃a,((kx,a)∈B4∧∀b,(kx,b)∈B4→b=a)∧K (.tup [a,.v (.bool true)]))∨((∀a,(kx,a)∉B4)∧J8 T e fun z=>K (.tup [z,.v (.bool false)]))
  |false=>(∃a,((kx,a)∈B4∧∀b,(kx,b)∈B4→b=a)∧K a)∨((∀a,(kx,a)∉B4)∧J8 T e K)
 |_=>False
def Mw(T:Gq)(h:Nat→HO)(ty:Nat)(m k:AV)(ok:Bool)(K:AV→Prop):Prop :=
 match m with
 |.cmap sh B4=>J0 T ty sh k fun kx=>LR T ty ok B4 kx K
 |.mref r=>match h r with
  |.map sh B4=>J0 T ty sh k fun kx=>LR T ty ok B4 kx K
  |.mapU sh B4=>J0 T ty sh k fun kx=>LR T ty ok B4 kx K
  |.rom sh B4=>J0 T ty sh k fun kx=>LR T ty ok B4 kx K
  |_=>False
 |_=>False
def Mx(T:Gq)(h:Nat→HO)(ty:Nat)(m k:AV)(ok:Bool)(K:AV→Prop):Prop :=
 match m with
 |.cmap sh B4=>J0 T ty sh k fun kx=>LT T ty ok B4 kx K
 |.mref r=>match h r with
  |.map sh B4=>J0 T ty sh k fun kx=>LT T ty ok B4 kx K
  |.mapU sh B4=>J0 T ty sh k fun kx=>LT T ty ok B4 kx K
  |.rom sh B4=>J0 T ty sh k fun kx=>LT T ty ok B4 kx K
  |_=>False
 |_=>False
def Zt(d:Option Nat)(h:Nat→HO)(x:AV)(K:HK):Prop :=
 match d with
 |none=>False
 |some d=>match h d with
  |.free=>match x with
   |.cmap _ B4=>K (.ref d 0) (AW h d (.iter B4 B4 none))
   |.mref r=>match h r with
    |.rom _ B4=>K (.ref d 0) (AW h d (.iter B4 B4 none))
    |.map sh B4=>K (.ref d 0) (AW (AW h r (.rom sh B4)) d (.iter B4 B4 none))
    |_=>False
   |_=>False
  |_=>False
def gq(h:Nat→HO)(x:AV)(K:HK):Prop :=
 match x with
 |.ref r 0=>match h r with
  |.iter all rem _=>(rem=[]→K (.tup [.v (.bool false)]) h) ∧
    (∀kv NJ,rem.Perm (kv::NJ)→K (.tup [.v (.bool true),.v kv.1,kv.2]) (AW h r (.iter all NJ (some kv))))
  |_=>False
 |_=>False
def YL(h:Nat→HO)(x:AV)(K:AV→Prop):Prop :=
 match x with
 |.ref r 0=>match h r with
  |.iter _ _ (some kv)=>K (.tup [.v kv.1,kv.2])
  |_=>False
 |_=>False
def QD(T:Gq)(t:Nat)(h:Nat→HO)(x:AV)(K:AV→Prop):Prop :=
 match(T t).d with
 |.slice _=>match x with
  |.slice _ es=>K (.v (.int .i64 es.length))
  |.msl _ n=>K (.v (.int .i64 n))
  |.v (.slice none 0 0)=>K (.v (.int .i64 0))
  |_=>False
 |.string=>match x with
  |.v (.string s)=>K (.v (.int .i64 s.size))
  |_=>False
 |.map _ _=>match x with
  |.cmap _ B4=>K (.v (.int .i64 B4.length))
  |.mref r=>match h r with
   |.map _ B4=>K (.v (.int .i64 B4.length))
   |.mapU _ B4=>K (.v (.int .i64 B4.length))
   |.rom _ B4=>K (.v (.int .i64 B4.length))
   |_=>False
  |_=>False
 |_=>False
def Gl(cx:Cx)(d:Option Nat)(h:Nat→HO)(ty:Nat)(x:AV)(lo hi mx:Option (Option Int))(K:HK):Prop :=
 match lo,hi,mx with
 |some lo,some hi,some mx=>match(cx.T ty).d with
  |.string=>match mx,x with
   |none,.v (.string s)=>(0≤lo.getD 0∧lo.getD 0≤hi.getD s.size∧hi.getD s.size≤s.size)∧K (.v (.string (s.extract (lo.getD 0).toNat (hi.getD s.size).toNat))) h
   |_,_=>False
  |.slice e=>match(cx.T e).size with
   |0=>False
   |_+1=>match x with
    |.slice _ es=>match mx with
     |none=>(0≤lo.getD 0∧lo.getD 0≤hi.getD es.length∧hi.getD es.length≤es.length) ∧
       (∀cs∈es,cs.length=(cx.T e).size)∧K (.slice .none ((es.take (hi.getD es.length).toNat).drop (lo.getD 0).toNat)) h
     |some m=>match d,hi with
      |some d,some hi=>match GA cx.pl.arr d with
       |some _=>(0≤lo.getD 0∧lo.getD 0≤hi∧m=hi∧hi≤es.length)∧(∀cs∈es,cs.length=(cx.T e).size) ∧
         K (.slice (.full (cx.T e).size) ((es.take hi.toNat).drop (lo.getD 0).toNat)) h
       |none=>match h d with
        |.free=>(0≤lo.getD 0∧lo.getD 0≤hi∧m=hi∧hi≤es.length)∧(∀cs∈es,cs.length=(cx.T e).size) ∧
          K (.slice (.id d (cx.T e).size) ((es.take hi.toNat).drop (lo.getD 0).toNat)) (AW h d (.tok (cx.T e).size (hi.toNat-(lo.getD 0).toNat)))
        |_=>False
      |_,_=>False
    |.v (.slice none 0 0)=>(lo.getD 0=0∧hi.getD 0=0∧mx.getD 0=0)∧(mx=none∨hi≠none)∧K (.v (.slice none 0 0)) h
    |.msl r n=>match h r with
     |.arr sz es=>match Nat.beq sz (cx.T e).size with
      |true=>(n=es.length∧0≤lo.getD 0∧lo.getD 0≤hi.getD es.length∧hi.getD es.length≤es.length∧(mx=none∨(mx=hi∧hi≠none))) ∧
        K (.slice .none ((es.take (hi.getD es.length).toNat).drop (lo.getD 0).toNat)) (AW h r .dead)
      |false=>False
     |_=>False
    |_=>False
  |_=>False
 |_,_,_=>False
def Tt(cx:Cx)(d:Option Nat)(h:Nat→HO)(ty:Nat)(x:AV)(lo:Option (Option Int))(hi mx:Option Operand)(K:HK):Prop :=
 match d,lo,hi,mx with
 |some d,some (some lo),none,none=>match(cx.T ty).d with
  |.slice e=>match(cx.T e).size with
   |0=>False
   |_+1=>match x with
    |.slice (.id r sz) es=>match h r with
     |.tok Gm n=>match h (Kq cx d)with
      |.free=>match Nat.beq Gm sz,Nat.beq sz (cx.T e).size with
       |true,true=>(es.length=n∧0≤lo∧lo≤es.length)∧K (.slice (.id (Kq cx d) sz) (es.drop lo.toNat)) (AW (AW h r .dead) (Kq cx d) (.tok sz (es.drop lo.toNat).length))
       |_,_=>False
      |_=>False
     |_=>False
    |_=>False
  |_=>False
 |_,_,_,_=>False
def gO(cx:Cx)(d:Option Nat)(h:Nat→HO)(ty:Nat)(x:AV)(hi:Option (Option Int))(K:HK):Prop :=
 match d,hi with
 |some d,some (some hi)=>match(cx.T ty).d with
  |.slice e=>match(cx.T e).size with
   |0=>False
   |_+1=>match x with
    |.msl r n=>match h r with
     |.arr sz es=>match h (Kq cx d)with
      |.free=>match Nat.beq sz (cx.T e).size,Nat.blt r 10000000&&Nat.blt 0 (Kq cx d)with
       |true,true=>(n=es.length∧0≤hi∧hi≤es.length)∧K (.msl (Kq cx d) hi.toNat) (AW (AW h r .dead) (Kq cx d) (.arr sz (es.take hi.toNat)))
       |_,_=>False
      |_=>False
     |_=>False
    |_=>False
  |_=>False
 |_,_=>False
def M6(cx:Cx)(d:Option Nat)(h:Nat→HO)(ty:Nat)(x:AV)(lo:Option Operand)(hi:Option (Option Int))(mx:Option Operand)(K:HK):Prop :=
 match lo,mx with
 |none,none=>gO cx d h ty x hi K
 |_,_=>False
def aF(cx:Cx)(d:Option Nat)(h:Nat→HO)(ty:Nat)(x:AV)(t:Nat→AV)(lo hi mx:Option Operand)(K:HK):Prop :=
 match lo with
 |none=>M6 cx d h ty x none (B6 t hi) mx K
 |some lo=>Tt cx d h ty x (B6 t (some lo)) hi mx K
def yk:AV→AV
 |.slice _ es=>.slice .none es
 |a=>a
def N2(cx:Cx)(d:Option Nat)(h:Nat→HO)(x:AV)(K:HK):Prop :=
 match d with
 |none=>K x h
 |some d=>match GA cx.pl.tok d with
  |some sz=>match Nat.beq sz 0 with
   |true=>K (yk x) h
   |false=>match x with
    |.v (.slice none 0 0)=>match h d with
     |.free=>K (.slice (.id d sz) []) (AW h d (.tok sz 0))
     |_=>False
    |x=>K x h
  |none=>match GA cx.pl.arr d with
   |some sz=>match x with
    |.v (.slice none 0 0)=>match h d with
     |.free=>K (.msl d 0) (AW h d (.arr sz []))
     |_=>False
    |x=>K x h
   |none=>K x h
def kp(l:List AV)(n:Nat):Option AV :=
 match l with
 | []=>none
 |x::r=>match n with |0=>some x |n+1=>kp r n
def LN(x:AV)(i:Nat)(K:AV→Prop):Prop :=
 match x with
 |.tup vs=>match kp vs i with
  |some a=>K a
  |none=>False
 |_=>False
def KA(x:AV)(K:AV→Prop):Prop :=
 match x with
 |.ref r o=>K (.ref r o)
 |.eref r n z i o=>K (.eref r n z i o)
 |.cptr cs=>K (.cptr cs)
 |.clo f cs=>K (.clo f cs)
 |.v (.func (.func f) a b)=>K (.v (.func (.func f) a b))
 |_=>False
def X4(c a b:AV)(K:AV→Prop):Prop :=
 match c with
 |.v (.bool true)=>K a
 |.v (.bool false)=>K b
 |_=>False
def kh(f:Int→Int→Int)(x y:AV)(K:AV→Prop):Prop :=
 match x,y with
 |.v (.int k a),.v (.int k' b)=>match oM k k' with
  |true=>K (.v (.int k (f a b)))
  |false=>False
 |_,_=>False
def Jg(cx:Cx)(d:Option Nat)(h:Nat→HO)(ty:Nat)(len cap:AV)(K:HK):Prop :=
 match(cx.T ty).d,len,cap with
 |.slice e,.v (.int .i64 n),.v (.int .i64 c)=>match GW ((cx.T e).zc.map .v)with
  |true=>match Nat.beq (cx.T e).zc.length (cx.T e).size with
   |true=>match(cx.T e).size with
    |0=>False
    |_+1=>(0≤n∧n≤c∧c*(cx.T e).bytes≤140737488355328∧c≤9223372036854775807)∧Ew cx d h (cx.T e).size (List.replicate n.toNat ((cx.T e).zc.map .v)) K
   |false=>False
  |false=>False
 |_,_,_=>False
def Yf(op:UnOp)(x:AV)(K:AV→Prop):Prop :=
 match op,x with
 |.not,x=>cz K x
 |.neg,.v (.int .i64 a)=>BY (-a)∧K (.v (.int .i64 (-a)))
 |_,_=>False
def FR(cx:Cx)(d:Option Nat)(h:Nat→HO)(b:Builtin)(GJ:List Nat)(args:List AV)(K:HK):Prop :=
 match b,args,GJ with
 |.len,[x],[t]=>QD cx.T t h x fun v=>K v h
 |.append,[s,x],[t,t']=>match Nat.beq t t' with
  |true=>H9 cx d h t s x K
  |false=>False
 |.max,[x,y],_=>kh max x y fun v=>K v h
 |.min,[x,y],_=>kh min x y fun v=>K v h
 |_,_,_=>False
def FL(cx:Cx)(dr:Bool)(o:Oper)(st:St)(K:HK):Prop :=
 match o.op with
 |.move x=>K (ev st.t x) st.h
 |.assign x=>N2 cx o.dst st.h (ev st.t x) K
 |.pick c a b=>X4 (ev st.t c) (ev st.t a) (ev st.t b) fun v=>K v st.h
 |.alloc e=>RF cx.T o.dst st.h e K
 |.box e x=>bm cx o.dst st.h e (ev st.t x) K
 |.build ty ps=>Po cx.T ty st.t ps.toList fun v=>K v st.h
 |.buildSlice ty n ps=>Im cx o.dst st.h ty n st.t ps.toList K
 |.insert ty m k x=>GZ cx.T st.h ty (ev st.t m) (ev st.t k) (ev st.t x) K
 |.load ty x=>H2 cx.T st.h ty (ev st.t x) fun v=>K v st.h
 |.store ty p x=>NN cx st.h ty (ev st.t p) (ev st.t x) K
 |.nilCheck x=>KA (ev st.t x) fun v=>K v st.h
 |.binOp op ty x y _=>WP cx.T op ty y (ev st.t x) (ev st.t y) fun v=>K v st.h
 |.unOp op _ x=>Yf op (ev st.t x) fun v=>K v st.h
 |.convert s ty x=>WX cx.T s ty (ev st.t x) fun v=>K v st.h
 |.makeFunc fn first cap=>Kw st.t st.h fn first.toList cap.toList fun v=>K v st.h
 |.makeMap ty none=>Kx cx.T cx.pl.mku o.dst st.h ty K
 |.makeSlice ty n c=>Jg cx o.dst st.h ty (ev st.t n) (ev st.t c) K
 |.slice ty x lo hi mx=>match dr with
  |true=>match Ng cx.pl.tok o.dst with
   |none=>Gl cx o.dst st.h ty (ev st.t x) (B6 st.t lo) (B6 st.t hi) (B6 st.t mx) K
   |some _=>M6 cx o.dst st.h ty (ev st.t x) lo (B6 st.t hi) mx K
  |false=>match Ng cx.pl.tok o.dst with
   |none=>Gl cx o.dst st.h ty (ev st.t x) (B6 st.t lo) (B6 st.t hi) (B6 st.t mx) K
   |some _=>aF cx o.dst st.h ty (ev st.t x) st.t lo hi mx K
 |.fieldAddr s x f=>Se cx.T s f (ev st.t x) fun v=>K v st.h
 |.field s x f=>Oi cx.T s f (ev st.t x) fun v=>K v st.h
 |.indexAddr ty x ix=>Jd cx.T ty (ev st.t x) (ev st.t ix) fun v=>K v st.h
 |.index ty x ix=>SK cx.T ty (ev st.t x) (ev st.t ix) fun v=>K v st.h
 |.lookup ty x ix ok=>match dr with
  |true=>Mw cx.T st.h ty (ev st.t x) (ev st.t ix) ok fun v=>K v st.h
  |false=>Mx cx.T st.h ty (ev st.t x) (ev st.t ix) ok fun v=>K v st.h
 |.mapUpdate ty m k x=>GZ cx.T st.h ty (ev st.t m) (ev st.t k) (ev st.t x) K
 |.range ty x=>match(cx.T ty).d with |.map _ _=>Zt o.dst st.h (ev st.t x) K |_=>False
 |.next it false=>gq st.h (ev st.t it) K
 |.entry it=>YL st.h (ev st.t it) fun v=>K v st.h
 |.extract x i=>LN (ev st.t x) i fun v=>K v st.h
 |.call c=>match c.callee with
  |.builtin b=>FR cx o.dst st.h b c.argTypes.toList (c.args.toList.map (ev st.t)) K
  |.value f=>Gb cx dr o.dst st (ev st.t f) (c.args.toList.map (ev st.t)) K
  |_=>False
 |_=>False
def J4(ops:List Oper)(j:Nat):Option Nat:=match ops with | []=>none | o::r=>match j with | 0=>o.dst | j+1=>J4 r j
def gP(cx:Cx)(o:Oper)(st:St):St :=
 match o.dst with
 |none=>st
 |some d=>match o0 cx.pl.tz d with
  |some (r,k,j,sz)=>⟨st.t,sI st.h r k j sz⟩
  |none=>match mj cx.pl.fz d with
   | []=>st
   |l=>⟨st.t,Ov st.h l⟩
def sM(cx:Cx)(o:Oper)(st:St)(K:St→Prop):Prop :=
 match o.dst with
 |none=>K st
 |some d=>match GA cx.pl.ak d with
  |none=>K st
  |some s=>match st.t s with
   |.msl r n=>match st.h r with
    |.arr sz es=>n=es.length∧K ⟨G2 st.t s (.slice (.id r sz) es),AW st.h r (.tok sz es.length)⟩
    |_=>K st
   |_=>K st
def dH(cx:Cx)(dr:Bool)(o:Oper)(st:St)(K:St→Prop):Prop :=
 match dr with
 |true=>FL cx true o st fun v h=>K (st.put o.dst v h)
 |false=>sM cx o (gP cx o st) fun D4=>FL cx false o D4 fun v h=>K (D4.put o.dst v h)
def G5(cx:Cx)(dr:Bool)(all:List Oper)(o:Oper)(st:St)(K:St→Prop):Prop :=
 match o.guard with
 |none=>dH cx dr o st K
 |some (j,want)=>match J4 all j with
  |none=>False
  |some d=>match st.t d,want with
   |.v (.bool true),true=>dH cx dr o st K
   |.v (.bool false),false=>dH cx dr o st K
   |.v (.bool true),false=>K (st.put o.dst (.v undef) st.h)
   |.v (.bool false),true=>K (st.put o.dst (.v undef) st.h)
   |.v (.tuple _),_=>K (st.put o.dst (.v undef) st.h)
   |_,_=>False
def SN(o o2:Oper):Bool :=
 match o2.op with
 |.call c=>match c.callee with
  |.builtin .clear=>match o.op with
   |.slice ty _ (some _) none none=>match o.dst,o2.dst,c.args.toList,c.argTypes.toList,o.guard,o2.guard with
    |some d,none,[.tmp d'],[yj],none,none=>Nat.beq d d'&&Nat.beq ty yj
    |_,_,_,_,_,_=>false
   |_=>false
  |_=>false
 |_=>false
def pz(d:Nat)(st:St)(r i sz:Nat)(es:List (List AV))(z:List Value)(K:St→Prop):Prop :=
 match z.all Value.oneCell' with
 |true=>K ⟨G2 st.t d .junk,AW st.h r (.arr sz (es.take i++List.replicate (es.length-i) (z.map AV.v)))⟩
 |false=>False
def bu(cx:Cx)(o:Oper)(st:St)(K:St→Prop):Prop :=
 match o.op with
 |.slice ty x (some lo) none none=>match o.dst with
  |some d=>match(cx.T ty).d with
   |.slice e=>match ev st.t x with
    |.msl r n=>match ev st.t lo with
     |.v (.int .i64 i)=>match st.h r with
      |.arr sz es=>match Nat.beq sz (cx.T e).size with
       |true=>match(cx.T e).size with
        |0=>False
        |_+1=>match Nat.beq (cx.T e).zc.length sz with
         |true=>(n=es.length∧0≤i∧i≤es.length)∧pz d st r i.toNat sz es (cx.T e).zc K
         |false=>False
       |false=>False
      |_=>False
     |_=>False
    |_=>False
   |_=>False
  |none=>False
 |_=>False
def TW(cx:Cx)(all l:List Oper)(st:St)(K:St→Prop):Prop :=
 match l with
 | []=>K st
 | [o]=>G5 cx false all o st K
 |o::o2::r=>match SN o o2 with
  |true=>bu cx o st fun D4=>TW cx all r D4 K
  |false=>G5 cx false all o st fun D4=>TW cx all (o2::r) D4 K
def T7:AV→List Nat
 |.ref r _=>[r]
 |.mref r=>[r]
 |_=>[]
def jV:List AV→List Nat
 | []=>[]
 |a::r=>T7 a++jV r
def T8:AV→List Nat
 |.agg cs=>jV cs
 |.clo _ cs=>jV cs
 |a=>T7 a
def nv:List AV→List Nat
 | []=>[]
 |a::r=>T8 a++nv r
def WA:AV→List Nat
 |.agg cs=>nv cs
 |a=>T8 a
def SD:List AV→List Nat
 | []=>[]
 |a::r=>WA a++SD r
abbrev Fr:=List Nat×Option Nat
def Io(d:Option Nat)(l:List Nat):Option Fr:=match d with | some d=>some (d::l,some d) | none=>none
def co:AV→List Nat
 |.msl r _=>[r]
 |_=>[]
def VS(cx:Cx)(d:Option Nat)(s x:AV):Option Fr :=
 match s with
 |.v (.slice none 0 0)=>Io (d.map (Kq cx)) (co x)
 |.slice (.full _) _=>Io (d.map (Kq cx)) (co x)
 |.slice (.id r _) _=>Io (some r) (co x)
 |.msl r _=>Io (some r) (co x)
 |_=>none
def ZR(d:Option Nat)(args:List AV):Option Fr :=
 match d with
 |some d=>match args with
  |.msl r _::_=>some ([r,Bp d 0],some (r+10000000*Bp d 0))
  |_=>none
 |none=>none
theorem YP{d:Option Nat}{args:List AV}{f:Fr}(h:ZR d args=some f):∃d' r n l,d=some d'∧args=.msl r n::l∧f=([r,Bp d' 0],some (r+10000000*Bp d' 0)):=by
 unfold ZR at h;split at h
 ·split at h
  ·cases h;exact⟨_,_,_,_,rfl,rfl,rfl⟩
  ·cases h
 ·cases h
def eF(d:Option Nat)(x:AV):Option Fr :=
 match d with
 |some d=>match x with
  |.msl r _=>some ([r,d],some (r+10000000*d))
  |_=>none
 |none=>none
theorem YQ{d:Option Nat}{x:AV}{f:Fr}(h:eF d x=some f):∃d' r n,d=some d'∧x=.msl r n∧f=([r,d'],some (r+10000000*d')):=by
 unfold eF at h;split at h
 ·split at h
  ·cases h;exact⟨_,_,_,rfl,rfl,rfl⟩
  ·cases h
 ·cases h
def eG(args:List AV):Option Fr:=match Vl args with | some _=>some ([1000,1001],some 10010001000) | none=>none
def VA:Nat:=99999999999999
def eD(k:Nat)(d:Option Nat)(args:List AV):Option Fr :=
 match Nat.beq k 3 with
 |true=>some (jx,some VA)
 |false=>ZR d args
def GP(cx:Cx)(d:Option Nat)(c:Callee)(t:Nat→AV)(args:List AV):Option Fr :=
 match c,args with
 |.builtin .len,[.mref r]=>some ([r],none)
 |.builtin .len,[_]=>some ([],none)
 |.builtin .max,_=>some ([],none)
 |.builtin .min,_=>some ([],none)
 |.builtin .append,[s,x]=>VS cx d s x
 |.value f,args=>match Ng cx.pl.dc d with
  |none=>some (WA (ev t f)++SD args,none)
  |some 0=>Io (d.map fun d=>Bp d 0) (WA (ev t f)++SD args)
  |some 1=>match args with |.msl r _::_=>some ([r],some r) |_=>none
  |some (k+2)=>match Nat.beq k 1 with
   |true=>Io (d.map fun d=>Bp d 0) (WA (ev t f)++SD args)
   |false=>match Nat.beq k 2 with
    |true=>eG args
    |false=>eD k d args
 |_,_=>none
def Fa(cx:Cx)(o:Oper)(st:St):Option Fr :=
 match o.op with
 |.move _ |.pick .. |.nilCheck _ |.unOp .. |.convert .. |.fieldAddr .. |.field .. |.indexAddr .. |.index .. |.extract .. |.build ..=>some ([],none)
 |.binOp _ _ x _ _=>match ev st.t x with |.slice ..=>none |_=>some ([],none)
 |.assign x=>match ev st.t x with |.v (.slice ..)=>none |_=>some ([],none)
 |.load _ p=>match ev st.t p with |.cptr _=>some ([],none) |.ref r _=>some ([r],none) |.eref r ..=>some ([r],none) |_=>none
 |.call c=>GP cx o.dst c.callee st.t (c.args.toList.map (ev st.t))
 |.alloc _=>Io o.dst []
 |.box _ x=>Io o.dst (WA (ev st.t x))
 |.buildSlice _ _ ps=>Io (o.dst.map (Kq cx)) (SD (ps.toList.map fun p=>ev st.t p.2))
 |.store _ p x=>match ev st.t p with
  |.ref r _=>match IC cx.pl.frz r with |true=>none |false=>Io (some r) []
  |.eref r ..=>Io (some r) (WA (ev st.t x))
  |_=>none
 |.slice _ x _ _ mx=>match Ng cx.pl.tok o.dst with
  |some _=>eF (o.dst.map (Kq cx)) (ev st.t x)
  |none=>match mx,ev st.t x with
   |none,.msl ..=>none
   |none,_=>some ([],none)
   |some _,.slice ..=>Io o.dst []
   |_,_=>none
 |.makeFunc _ _ cap=>some (SD (cap.toList.map (ev st.t)),none)
 |.mapUpdate _ m _ x=>match ev st.t m with |.mref r=>Io (some r) (WA (ev st.t x)) |_=>none
 |.makeSlice ..=>Io (o.dst.map (Kq cx)) []
 |.lookup _ m _ _=>match ev st.t m with |.cmap ..=>some ([],none) |.mref r=>some ([r],none) |_=>none
 |.makeMap ..=>Io o.dst []
 |_=>none
def MZ(cx:Cx)(all:List Oper)(o:Oper)(st:St):Option Fr :=
 match o.guard with
 |none=>Fa cx o st
 |some (j,want)=>match J4 all j with
  |none=>none
  |some d=>match st.t d,want with
   |.v (.bool true),true=>Fa cx o st
   |.v (.bool false),false=>Fa cx o st
   |_,_=>some ([],none)
def qJ(l:List Nat):Bool:=match l with | []=>true | _=>false
def XY(l:List Nat)(r:Nat):Bool:=bif Nat.beq r VA then qJ l else !IC l r&&(Nat.blt r 10000000||(!IC l (r % 10000000)&&!IC l (r / 10000000)))
def RY(a b:Fr):Bool :=
 (match a.2 with | some r=>XY b.1 r | none=>true)&&(match b.2 with | some r=>XY a.1 r | none=>true)
def Ow(o:Oper)(i:Nat)(D:List Nat):Bool:=o.after.toList.any fun e=>Region.binds .any e&&(Nat.beq e.on i||IC D e.on)
def Pr(i:Nat)(D:List Nat)(k:Nat):List Oper→List Nat
 | []=>D
 |o::r=>match Ow o i D with
  |true=>Pr i (k::D) (k+1) r
  |false=>Pr i D (k+1) r
def TC(i:Nat)(D:List Nat)(k:Nat):List Oper→Bool
 | []=>true
 |o::r=>(Ow o i D||!IC D k)&&TC i D (k+1) r
def Il(ops:Array Oper)(oi:Oper)(fi:Fr)(D:List Nat)(k:Nat):List Oper→List Fr→Bool
 |o::r,f::fs=>(IC D k||(oi.apart ops o&&RY fi f))&&Il ops oi fi D (k+1) r fs
 | [],[]=>true
 |_,_=>false
def LK(ops:Array Oper)(all:List Oper)(k:Nat):List Oper→List Fr→Bool
 |o::r,f::fs =>
  let D:=Pr k [] 0 all
  (o.after.toList.all fun e=>!Region.binds .any e||Nat.blt e.on k)&&TC k D 0 all&&(D.all fun j=>Nat.blt k j&&Nat.blt j all.length)&&Il ops o f D (k+1) r fs&&LK ops all (k+1) r fs
 | [],[]=>true
 |_,_=>false
def RZ(ops:Array Oper)(fs:List Fr):Bool:=Region.noSelect ops&&LK ops ops.toList 0 ops.toList fs
def WM(cx:Cx)(ops:Array Oper)(l:List Oper)(fs:List Fr)(st:St)(K:St→Prop):Prop :=
 match l with
 | []=>RZ ops fs.reverse=true∧K st
 |o::r=>match MZ cx ops.toList o st with
  |some f=>G5 cx true ops.toList o st fun D4=>WM cx ops r (f::fs) D4 K
  |none=>False
def Sc(l:List (Nat×AV))(i:Nat):AV:=match l with | []=>.junk | (j,v)::r=>bif Nat.beq i j then v else Sc r i
structure LS where
 t:List (Nat×AV)
 h:List (Nat×HO)
 hb:Nat→HO
def LS.st(s:LS):St:=⟨Sc s.t,Aj s.h s.hb⟩
def Ra(h:Nat→HO)(r:Nat):Bool:=match h r with | .free=>false | _=>true
def ids0(h:Nat→HO):AV→Bool
 |.slice (.id r _) _=>Ra h r
 |.slice (.ver r _ _) _=>Ra h r
 |.msl r _=>Ra h r
 |.ref r _=>Ra h r
 |.eref r _ _ _ _=>Ra h r
 |.mref r=>Ra h r
 |.agg _ |.tup _ |.clo ..=>false
 |_=>true
def Xx(h:Nat→HO):List AV→Bool
 | []=>true
 |a::r=>match ids0 h a with |true=>Xx h r |false=>false
def T9(h:Nat→HO):AV→Bool
 |.agg cs=>Xx h cs
 |.tup cs=>Xx h cs
 |.clo _ cs=>Xx h cs
 |a=>ids0 h a
def QA(h:Nat→HO):List (Value×AV)→Bool
 | []=>true
 |p::r=>match T9 h p.2 with |true=>QA h r |false=>false
def jW(h:Nat→HO):List AV→Bool
 | []=>true
 |a::r=>match T9 h a with |true=>jW h r |false=>false
def Xw(h:Nat→HO):HO→Bool
 |.cells cs=>jW h cs
 |.mapU _ B4=>QA h B4
 |.hol _ _ _ _ a=>T9 h a
 |_=>true
def u5(st:St)(h:Nat→HO):List (Nat×AV)→Prop
 | []=>True
 |(j,a)::r=>(st.t j=a∧T9 h a=true)∧u5 st h r
def uZ(st:St)(h:Nat→HO):List (Nat×HO)→Prop
 | []=>True
 |(j,o)::r=>(st.h j=o∧Xw h o=true)∧uZ st h r
def St.le(cx:Cx)(st:St)(s:LS):Prop :=
 u5 st s.st.h s.t∧uZ st s.st.h s.h∧(∀j,s.hb j=.free∨(st.h j=s.hb j∧Xw s.st.h (s.hb j)=true)) ∧
 match cx.ext with
 |false=>True
 |true=>∀j,1000≤j→j<2000→st.h j≠.free→s.st.h j≠.free
def Mk(cx:Cx)(ops:Array Oper)(dr:Bool)(st:St)(K:St→Prop):Prop :=
 match dr with
 |false=>TW cx ops.toList ops.toList st K
 |true=>WM cx ops ops.toList [] st K
inductive Ex | normal | exit (id:Nat) | ret
def sP(h:Nat→HO)(o k:Nat)(K:(Nat→HO)→Prop):Prop :=
 match h o with
 |.cells cs=>match IX cs k with
  |.msl r n=>match h r with
   |.arr sz es=>n=es.length∧K (AW (AW h r (.tok sz es.length)) o (.cells (Ey cs k (.slice (.id r sz) es))))
   |_=>K h
  |_=>K h
 |_=>K h
def sN(h:Nat→HO)(o k j:Nat)(K:(Nat→HO)→Prop):Prop :=
 match h o with
 |.cells cs=>match IX cs k with
  |.msl r n=>match h r with
   |.arr sz es=>match h j with
    |.free=>n=es.length∧K (AW (AW (AW h r .dead) j (.arr sz es)) o (.cells (Ey cs k (.msl j n))))
    |_=>False
   |_=>False
  |_=>False
 |_=>False
def wD(h:Nat→HO)(o k d:Nat)(K:(Nat→HO)→Prop):Prop :=
 match h o with
 |.cells cs=>match IX cs k with
  |.slice (.ver r sz v) es=>match h r with
   |.var Gm v' _=>match h d with
    |.free=>(v=v'∧sz=Gm)∧K (AW (AW (AW h r (.vox v)) d (.tok sz es.length)) o (.cells (Ey cs k (.slice (.id d sz) es))))
    |_=>False
   |_=>False
  |_=>K h
 |_=>False
def sC(h:Nat→HO)(o k r:Nat)(K:(Nat→HO)→Prop):Prop :=
 match h o with
 |.cells cs=>match IX cs k with
  |.slice (.id d sz) es=>match h d with
   |.tok Gm n=>match h r with
    |.vox v=>(es.length=n∧sz=Gm)∧K (AW (AW (AW h d .dead) r (.var sz (v+1) n)) o (.cells (Ey cs k (.slice (.ver r sz (v+1)) es))))
    |_=>False
   |_=>False
  |_=>K h
 |_=>False
def u6(h:Nat→HO)(r:Nat)(K:(Nat→HO)→Prop):Prop :=
 match h r with
 |.free=>K (AW h r (.vox 0))
 |_=>False
def sA(h:Nat→HO)(o k:Nat)(K:(Nat→HO)→Prop):Prop :=
 match h o with
 |.cells cs=>match IX cs k with
  |.mref r=>match h r with
   |.rom sh B4=>K (AW h o (.cells (Ey cs k (.cmap sh B4))))
   |_=>False
  |_=>False
 |_=>False
def wE(h:Nat→HO)(o k j sz:Nat)(K:(Nat→HO)→Prop):Prop :=
 match h o with
 |.cells cs=>match IX cs k with
  |.v (.slice none 0 0)=>match h j with
   |.free=>K (AW (AW h j (.arr sz [])) o (.cells (Ey cs k (.msl j 0))))
   |_=>False
  |_=>False
 |_=>False
def tG(cx:Cx)(id:Nat)(h:Nat→HO)(K:(Nat→HO)→Prop):Prop :=
 match GA cx.pl.ak (850000+id)with
 |some v=>K (eJ h v)
 |none=>K h
def sy(cx:Cx)(id:Nat)(h:Nat→HO)(K:(Nat→HO)→Prop):Prop :=
 match GA cx.pl.ak (800000+id)with
 |some v=>sA h (v % 10000) (v / 10000 % 100) K
 |none=>K h
def re(cx:Cx)(id:Nat)(h:Nat→HO)(K:(Nat→HO)→Prop):Prop :=
 match GA cx.pl.ak (810000+id)with
 |some v=>sA h (v % 10000) (v / 10000 % 100) K
 |none=>K h
def oR(cx:Cx)(id:Nat)(h:Nat→HO)(K:(Nat→HO)→Prop):Prop :=
 match GA cx.pl.ak (900000+id)with
 |some v=>wE h (v % 10000) (v / 10000 % 100) (v / 1000000 % 10000) (v / 10000000000) K
 |none=>K h
def ux(h:Nat→HO)(r:Nat)(K:(Nat→HO)→Prop):Prop :=
 match h r with
 |.hol sz es i c (.msl j m)=>match Nat.beq r j with
  |true=>False
  |false=>match h j with
   |.arr aN qs=>m=qs.length∧∃cs,es[i]?=some cs∧c<sz∧K (AW (AW (AW h j (.tok aN qs.length)) j .dead) r (.arr sz (es.set i (over cs c [.slice .none qs]))))
   |_=>False
 |_=>False
def oa(cx:Cx)(id:Nat)(h:Nat→HO)(K:(Nat→HO)→Prop):Prop :=
 match GA cx.pl.ak (500000+id)with
 |some v=>wD h (v % 10000) (v / 10000 % 100) (v / 1000000) K
 |none=>match GA cx.pl.ak (600000+id)with
  |some v=>sC h (v % 10000) (v / 10000 % 100) (v / 1000000) K
  |none=>match GA cx.pl.ak (700000+id)with
   |some v=>u6 h v K
   |none=>match GA cx.pl.ak (950000+id)with
    |some v=>ux h v K
    |none=>tG cx id h fun h=>sy cx id h fun h=>re cx id h fun h=>oR cx id h K
def sO(st:St)(s k:Nat)(K:St→Prop):Prop :=
 match st.t s with
 |.msl r n=>match st.h r with
  |.arr sz es=>match k with
   |0=>n=es.length∧K ⟨G2 st.t s (.slice .none es),AW (AW st.h r (.tok sz es.length)) r .dead⟩
   |k+1=>match Nat.beq r (k+1)with
    |true=>K st
    |false=>match st.h (k+1)with
     |.free=>n=es.length∧K ⟨G2 st.t s (.msl (k+1) n),AW (AW st.h r .dead) (k+1) (.arr sz es)⟩
     |_=>False
  |_=>K st
 |_=>K st
def pA(cx:Cx)(id:Nat)(st:St)(K:St→Prop):Prop :=
 match IC cx.pl.cut id with
 |true=>match GA cx.pl.ak (100000+id)with
  |none=>match GA cx.pl.ak (200000+id)with
   |none=>match GA cx.pl.ak (300000+id)with
    |none=>oa cx id st.h fun h'=>∃s:LS,St.le cx ⟨st.t,h'⟩ s∧K s.st
    |some v=>sN st.h (v % 10000) (v / 10000 % 100) (v / 1000000) fun h'=>∃s:LS,St.le cx ⟨st.t,h'⟩ s∧K s.st
   |some v=>sO st (v % 1000) (v / 1000) fun D4=>∃s:LS,St.le cx D4 s∧K s.st
  |some v=>sP st.h (v % 1000) (v / 1000) fun h'=>∃s:LS,St.le cx ⟨st.t,h'⟩ s∧K s.st
 |false=>K st
def QT(cx:Cx)(c:Code)(Q:Ex→St→Prop)(st:St):Prop :=
 match c with
 |.skip=>Q .normal st
 |.label _=>Q .normal st
 |.region id ops dr=>pA cx id st fun st=>match cx.pl.dyn with
  | []=>Mk cx ops dr st (Q .normal)
  |_=>∃n,Mk { cx with nid:=n } ops dr st (Q .normal)
 |.seq a b=>QT cx a (fun e D4=>match e with |.normal=>QT cx b Q D4 |e=>Q e D4) st
 |.cond c a b=>match ev st.t c with
  |.v (.bool true)=>QT cx a Q st
  |.v (.bool false)=>QT cx b Q st
  |_=>False
 |.block id c=>QT cx c (fun e D4=>match e with |.exit j=>(bif Nat.beq j id then Q .normal D4 else Q (.exit j) D4) |e=>Q e D4) st
 |.loop c=>∃(α:Type) (I:α→LS) (μ:α→Nat),(∃x,St.le cx st (I x)) ∧
   ∀x,QT cx c (fun e D4=>match e with | .normal=>∃y,μ y<μ x∧St.le cx D4 (I y) | e=>Q e D4) (I x).st
 |.exit id=>Q (.exit id) st
 |.ret=>Q .ret st
 |_=>False
def Od:List AV→Nat→AV
 | [],_=>.v undef
 |a::r,n=>match n with |0=>a |n+1=>Od r n
def kz(T:Gq)(st:St):List ResultVar→(List AV→Prop)→Prop
 | [],K=>K []
 |.tmp i::r,K=>kz T st r fun l=>K (str st.h (st.t i)::l)
 |.cell a t::r,K=>H2 T st.h t (st.t a) fun v=>kz T st r fun l=>K (str st.h v::l)
def kw(cx:Cx)(st:St)(rs:List ResultVar)(K:AV→Prop):Prop :=
 kz cx.T ⟨st.t,Ov st.h cx.pl.fin⟩ rs fun
  | [v]=>K v
  |vs=>K (.tup vs)
def mK(cx:Cx)(rs:List ResultVar)(K:AV→Prop)(e:Ex)(st:St):Prop :=
 match e with
 |.normal=>kw cx st rs K
 |.ret=>kw cx st rs K
 |.exit _=>False
def kB(T:Gq)(st:St):List ResultVar→(List AV→Prop)→Prop
 | [],K=>K []
 |.tmp i::r,K=>kB T st r fun l=>K (st.t i::l)
 |.cell a t::r,K=>H2 T st.h t (st.t a) fun v=>kB T st r fun l=>K (v::l)
def cH(cx:Cx)(st:St)(rs:List ResultVar)(σ:IQ)(Q:AV→(Nat→HO)→Prop):Prop :=
 kB cx.T ⟨st.t,Ov st.h cx.pl.fin⟩ rs fun
  | [v]=>Q (ren (Ct σ) (Ov st.h cx.pl.fin) v) (Fy σ (Ov st.h cx.pl.fin))
  |vs=>Q (ren (Ct σ) (Ov st.h cx.pl.fin) (.tup vs)) (Fy σ (Ov st.h cx.pl.fin))
def W5(cx:Cx)(rs:List ResultVar)(σ:IQ)(Q:AV→(Nat→HO)→Prop)(e:Ex)(st:St):Prop :=
 match e with
 |.normal=>cH cx st rs σ Q
 |.ret=>cH cx st rs σ Q
 |.exit _=>False
def In(σ:IQ):List (Nat×HO)→Bool
 | []=>true
 |(i,_)::r=>Nat.ble 1000 i&&Nat.blt i 2000&&(match Ct σ i with |some j=>Nat.beq j i |none=>false)&&In σ r
end Go.Eng
