/- Lemmas for the claims of this seat, without a condition: part 5 (EngA). -/
import Derived.Test.YtddfphmpfnmknaaGreatDoorGA00
import Derived.WalkKit
import Derived.Still
import Derived.RangeFuncSeq
import Derived.OrdersIn
import Derived.TacticsIn
namespace Go.Eng
variable (op:BinOp)(f:Nat→Option Nat)(o:Oper)
theorem Wk{p:Prop}(h:p:=by kernel_rfl):p:=h
inductive Tk | none | full (sz:Nat) | id (r sz:Nat) | ver (r sz v:Nat)
inductive KS | int (k:IntKind) | str | bool
structure E7 where
 agg:Bool
 l:List KS
variable (sh:E7)
inductive AV
 |v (x:Value)
 |slice (tk:Tk) (es:List (List AV))
 |msl (r n:Nat)
 |agg (cs:List AV)
 |tup (vs:List AV)
 |cptr (cs:List AV)
 |ref (r off:Nat)
 |eref (r n sz i off:Nat)
 |mref (r:Nat)
 |cmap (sh:E7) (B8:List (Value×AV))
 |clo (f:Nat) (caps:List AV)
 |junk
variable (x:AV)(K:AV→Prop)
inductive HO
 |free
 |dead
 |cells (cs:List AV)
 |ro (cs:List AV)
 |tok (sz n:Nat)
 |var (sz v n:Nat)
 |vox (v:Nat)
 |arr (sz:Nat) (es:List (List AV))
 |map (sh:E7) (B8:List (Value×AV))
 |mapU (sh:E7) (B8:List (Value×AV))
 |rom (sh:E7) (B8:List (Value×AV))
 |iter (all rem:List (Value×AV)) (F6:Option (Value×AV))
 |raw (b:Nat) (ob:Obj)
 |hol (sz:Nat) (es:List (List AV)) (i c:Nat) (a:AV)
structure St where
 t:Nat→AV
 h:Nat→HO
def Af:Nat→HO:=fun _=>.free
def A0(h:Nat→HO)(r:Nat)(o:HO):Nat→HO:=fun i=>bif Nat.beq i r then o else h i
def HI(t:Nat→AV)(d:Nat)(v:AV):Nat→AV:=fun i=>bif Nat.beq i d then v else t i
def St.put(st:St)(d:Option Nat)(v:AV)(h:Nat→HO):St :=
 match d with
 |none=>⟨st.t,h⟩
 |some d=>⟨HI st.t d v,h⟩
def ev(t:Nat→AV):Operand→AV
 |.tmp i=>t i
 |.const v=>.v v
 |.global g=>.v (.pointer (some ⟨g,0,none⟩))
 |.func f=>.v (.func (.func f) #[] #[])
inductive TD
 |int (k:IntKind) |bool |string |slice (e:Nat) |array (n e:Nat) |struct (fs:List (Nat×Nat)) |ptr (e:Nat) |map (k e:Nat) |func |iface |other
structure TI where
 d:TD
 size:Nat
 bytes:Nat
 zero:Value
 eqok:Bool
def TI.zc(i:TI):List Value:=match i.zero with | .agg cs=>cs.toList | v=>[v]
abbrev G4:=Nat→TI
structure Q0 where
 frz:List Nat
 tok:List (Nat×Nat)
 arr:List (Nat×Nat)
 fz:List (Nat×List Nat)
 fin:List Nat
 mku:List Nat
 dyn:List Nat
 tz:List (Nat×(Nat×Nat×Nat×Nat))
 dc:List (Nat×Nat)
 ak:List (Nat×Nat)
 cut:List Nat
def JB(l:List Nat)(n:Nat):Bool :=
 match l with
 | []=>false
 |x::r=>bif Nat.beq x n then true else JB r n
def Hh(l:List (Nat×Nat))(n:Nat):Option Nat :=
 match l with
 | []=>none
 |(x,y)::r=>bif Nat.beq x n then some y else Hh r n
def str0(h:Nat→HO):AV→AV
 |.slice _ es=>.slice .none es
 |.ref r off=>match h r with |.ro cs=>.cptr (cs.drop off) |_=>.junk
 |.mref r=>match h r with |.rom sh B8=>.cmap sh B8 |_=>.junk
 |.v x=>.v x
 |.cptr cs=>.cptr cs
 |.cmap s m=>.cmap s m
 |_=>.junk
def str(h:Nat→HO):AV→AV
 |.agg cs=>.agg (cs.map (str0 h))
 |.clo f cs=>.clo f (cs.map (str0 h))
 |a=>str0 h a
def Ti(h:Nat→HO)(B8:List (Value×AV)):List (Value×AV):=B8.map fun p=>(p.1,str h p.2)
def kf(h:Nat→HO)(r:Nat):Nat→HO :=
 match h r with
 |.cells cs=>A0 h r (.ro (cs.map (str h)))
 |.map sh B8=>A0 h r (.rom sh B8)
 |.mapU sh B8=>A0 h r (.rom sh (Ti h B8))
 |_=>h
def Qc(h:Nat→HO):List Nat→Nat→HO
 | []=>h
 |r::l=>Qc (kf h r) l
def rb(l:List (Nat×List Nat))(n:Nat):List Nat :=
 match l with
 | []=>[]
 |(x,y)::r=>bif Nat.beq x n then y else rb r n
def um(l:List (Nat×(Nat×Nat×Nat×Nat)))(n:Nat):Option (Nat×Nat×Nat×Nat) :=
 match l with
 | []=>none
 |(x,y)::r=>bif Nat.beq x n then some y else um r n
def JV(l:List AV)(n:Nat):AV :=
 match l with
 | []=>.junk
 |x::r=>match n with |0=>x |n+1=>JV r n
def E1(cs:List AV)(o:Nat)(v:AV):List AV :=
 match cs with
 | []=>[]
 |c::cs=>match o with |0=>v::cs |o+1=>c::E1 cs o v
def yF(h:Nat→HO)(r k j sz:Nat):Nat→HO :=
 match h r with
 |.cells cs=>match JV cs k with
  |.v (.slice none 0 0)=>match h j with
   |.free=>A0 (A0 h j (.tok sz 0)) r (.cells (E1 cs k (.slice (.id j sz) [])))
   |_=>h
  |_=>h
 |_=>h
def rsv(h:Nat→HO):AV→AV
 |.ref r off=>match h r with |.ro cs=>.cptr (cs.drop off) |_=>.ref r off
 |.mref r=>match h r with |.rom sh B8=>.cmap sh B8 |_=>.mref r
 |a=>a
def one:AV→Bool
 |.v x=>x.oneCell'
 |.agg _ |.tup _ |.junk=>false
 |_=>true
def Hz:List AV→Bool
 | []=>true
 |a::r=>match one a with |true=>Hz r |false=>false
def xN:AV→List AV
 |.agg cs=>cs
 |a=>[a]
def Bc(a:Int):Prop:=-9223372036854775808≤a∧a<9223372036854775808
def M3(cs:List AV)(K:AV→Prop):Prop :=
 match cs with
 |a::_=>K a
 | []=>False
def JI(p:Prop)(K:AV→Prop):Prop:=(p→K (.v (.bool true)))∧(¬p→K (.v (.bool false)))
def Mw(T:G4)(t:Nat)(cs:List AV)(K:AV→Prop):Prop :=
 match(T t).d with
 |.struct _=>(T t).size≤cs.length∧K (.agg (cs.take (T t).size))
 |.array _ _=>(T t).size≤cs.length∧K (.agg (cs.take (T t).size))
 |.bool=>M3 cs fun |.v (.bool b)=>(b=true→K (.v (.bool true)))∧(b=false→K (.v (.bool false))) |_=>False
 |.other=>False
 |_=>M3 cs K
def qi:List AV→List AV→Prop
 | [],[]=>True
 |.v (.int _ a)::r,.v (.int _ b)::s=>a=b∧qi r s
 |.v (.string a)::r,.v (.string b)::s=>a=b∧qi r s
 |.v (.bool a)::r,.v (.bool b)::s=>a=b∧qi r s
 |_,_=>False
def uc:IntKind→IntKind→Bool
 |.i64,.i64 |.u8,.u8 |.u32,.u32 |.i32,.i32 |.u64,.u64 |.u16,.u16 |.i16,.i16 |.i8,.i8=>true
 |_,_=>false
def OJ(f:Nat→Option (List KS)):Nat→List (Nat×Nat)→Option (List KS)
 |_,[]=>some []
 |n,(t,o)::r=>match Nat.beq o n with
  |true=>match f t with
   |some a=>match OJ f (n+a.length) r with
    |some b=>some (a++b)
    |none=>none
   |none=>none
  |false=>none
def Ik(T:G4):Nat→Nat→Option (List KS)
 |0,_=>none
 |n+1,t=>match(T t).d with
  |.int k=>match(T t).size with |1=>some [.int k] |_=>none
  |.string=>match(T t).size with |1=>some [.str] |_=>none
  |.bool=>match(T t).size with |1=>some [.bool] |_=>none
  |.struct fs=>match(T t).eqok with
   |true=>match OJ (Ik T n) 0 fs with
    |some l=>match Nat.beq l.length (T t).size with |true=>some l |false=>none
    |none=>none
   |false=>none
  |_=>none
def Oj:KS→Value→Bool
 |.int k,.int k' _=>uc k k'
 |.str,.string _=>true
 |.bool,.bool _=>true
 |_,_=>false
def af:List KS→List AV→Bool
 | [],[]=>true
 |k::r,.v x::s=>match Oj k x with |true=>af r s |false=>false
 |_,_=>false
def tG(T:G4)(t:Nat)(x y:AV)(K:AV→Prop):Prop :=
 match(T t).d with
 |.bool=>match x,y with
  |.v (.bool a),.v (.bool b)=>K (.v (.bool (a == b)))
  |_,_=>False
 |.struct _=>match x,y with
  |.agg xs,.agg ys=>match Ik T 8 t with
   |some l=>match af l xs with
    |true=>match af l ys with
     |true=>JI (qi xs ys) K
     |false=>False
    |false=>False
   |none=>False
  |_,_=>False
 |.slice _=>match x,y with
  |.slice _ es,.v (.slice none 0 0)=>(es≠[]→K (.v (.bool false)))∧(es=[]→K (.v (.bool true))∧K (.v (.bool false)))
  |.v (.slice none 0 0),.v (.slice none 0 0)=>K (.v (.bool true))
  |_,_=>False
 |.ptr _=>match x,y with
  |.v (.pointer none),.v (.pointer none)=>K (.v (.bool true))
  |.cptr _,.v (.pointer none)=>K (.v (.bool false))
  |.ref _ _,.v (.pointer none)=>K (.v (.bool false))
  |.eref _ _ _ _ _,.v (.pointer none)=>K (.v (.bool false))
  |_,_=>False
 |_=>False
def ig:AV→Prop
 |.v (.bool true)=>K (.v (.bool false))
 |.v (.bool false)=>K (.v (.bool true))
 |_=>False
def Ws(k:IntKind)(a b:Int):Int :=
 match op with
 |.and=>k.wrap (BitVec.ofInt k.bits a &&& BitVec.ofInt k.bits b).toNat
 |.or=>k.wrap (BitVec.ofInt k.bits a |||BitVec.ofInt k.bits b).toNat
 |_=>k.wrap (BitVec.ofInt k.bits a ^^^ BitVec.ofInt k.bits b).toNat
def pQ(k:IntKind)(a b:Int):Int :=
 match op with
 |.shl=>k.wrap (a*2 ^ min b.toNat k.bits)
 |_=>a.fdiv (2 ^ min b.toNat k.bits)
def Vr(k:IntKind)(a b:Int)(K:AV→Prop):Prop :=
 match op with
 |.shl=>0≤b∧K (.v (.int k (pQ .shl k a b)))
 |.shr=>0≤b∧K (.v (.int k (pQ .shr k a b)))
 |_=>False
def XR(k:IntKind)(a b:Int)(K:AV→Prop):Prop :=
 match op with
 |.quo=>(0≤a∧0<b∧k.wrap (a / b)=a / b)∧K (.v (.int k (a / b)))
 |.rem=>(0≤a∧0<b)∧K (.v (.int k (a % b)))
 |.and=>K (.v (.int k (Ws .and k a b)))
 |.or=>K (.v (.int k (Ws .or k a b)))
 |.xor=>K (.v (.int k (Ws .xor k a b)))
 |.add=>K (.v (.int k (k.wrap (a+b))))
 |.sub=>K (.v (.int k (k.wrap (a-b))))
 |.mul=>K (.v (.int k (k.wrap (a*b))))
 |op=>Vr op k a b K
def TW(k:IntKind)(a b:Int)(K:AV→Prop):Prop :=
 match k with
 |.i64=>match op with
  |.add=>Bc (a+b)∧K (.v (.int .i64 (a+b)))
  |.sub=>Bc (a-b)∧K (.v (.int .i64 (a-b)))
  |.mul=>Bc (a*b)∧K (.v (.int .i64 (a*b)))
  |.quo=>(0≤a∧0<b∧Bc a)∧K (.v (.int .i64 (a / b)))
  |.rem=>(0≤a∧0<b)∧K (.v (.int .i64 (a % b)))
  |op=>XR op .i64 a b K
 |k=>XR op k a b K
def TY(T:G4)(op:BinOp)(t:Nat)(x y:AV)(K:AV→Prop):Prop :=
 match x,y with
 |.v (.int k a),.v (.int k' b)=>match uc k k' with
  |false=>Vr op k a b K
  |true=>match op with
   |.eql=>JI (a=b) K
   |.neq=>JI (a≠b) K
   |.lss=>JI (a<b) K
   |.leq=>JI (a≤b) K
   |.gtr=>JI (b<a) K
   |.geq=>JI (b≤a) K
   |op=>TW op k a b K
 |.v (.string a),.v (.string b)=>match op with
   |.eql=>JI (a=b) K
   |.neq=>JI (a≠b) K
   |.lss=>JI (Op.bytesLess a.toList b.toList=true) K
   |.geq=>JI (Op.bytesLess a.toList b.toList=false) K
   |.gtr=>JI (Op.bytesLess b.toList a.toList=true) K
   |.leq=>JI (Op.bytesLess b.toList a.toList=false) K
   |.add=>((a.size+b.size:Nat):Int)≤9223372036854775807∧K (.v (.string (a++b)))
   |_=>False
 |x,y=>match op with
  |.eql=>tG T t x y K
  |.neq=>tG T t x y (ig K)
  |_=>False
def Y3(T:G4)(op:BinOp)(t:Nat)(Y:Operand)(x y:AV)(K:AV→Prop):Prop :=
 match Y with
 |.const .nilIface=>match x with
  |.v .nilIface=>match(T t).d with
   |.iface=>match op with
    |.eql=>K (.v (.bool true))
    |.neq=>K (.v (.bool false))
    |_=>False
   |_=>False
  |_=>False
 |_=>TY T op t x y K
def Zc(T:G4)(s t:Nat)(x:AV)(K:AV→Prop):Prop :=
 match(T s).d,(T t).d,x with
 |.int _,.int .i64,.v (.int _ n)=>Bc n∧K (.v (.int .i64 n))
 |.int _,.int k,.v (.int _ n)=>K (.v (.int k (k.wrap n)))
 |.string,.string,.v (.string s)=>K (.v (.string s))
 |.slice e,.string,.slice _ es=>match(T e).d with
  |.int .u8=>∃l:List UInt8,es=l.map (fun b=>[AV.v (.int .u8 b.toNat)])∧K (.v (.string ⟨l.toArray⟩))
  |_=>False
 |_,_,_=>False
def X6(fs:List (Nat×Nat))(n:Nat):Option (Nat×Nat) :=
 match fs with
 | []=>none
 |x::r=>match n with |0=>some x |n+1=>X6 r n
def Uk(T:G4)(s f:Nat)(x:AV)(K:AV→Prop):Prop :=
 match(T s).d with
 |.struct fs=>match X6 fs f with
  |some (t,o)=>match(T t).size with
   |0=>False
   |_+1=>match x with
    |.cptr cs=>K (.cptr (cs.drop o))
    |.ref r off=>K (.ref r (off+o))
    |.eref r n z i off=>K (.eref r n z i (off+o))
    |_=>False
  |none=>False
 |_=>False
def aN(T:G4)(t:Nat)(cs:List AV)(K:AV→Prop):Prop:=Mw T t cs K
def PS(T:G4)(s f:Nat)(x:AV)(K:AV→Prop):Prop :=
 match(T s).d,x with
 |.struct fs,.agg cs=>match X6 fs f with
  |some (t,o)=>aN T t (cs.drop o) K
  |none=>False
 |_,_=>False
def Ki(T:G4)(t:Nat)(x ix:AV)(K:AV→Prop):Prop :=
 match(T t).d,ix with
 |.slice e,.v (.int .i64 i)=>match(T e).size with
  |0=>False
  |_+1=>match x with
   |.slice _ es=>∃cs,(0≤i∧es[i.toNat]?=some cs)∧cs.length=(T e).size∧K (.cptr cs)
   |.msl r n=>(0≤i∧i<n)∧K (.eref r n (T e).size i.toNat 0)
   |_=>False
 |.array n e,.v (.int .i64 i)=>match(T e).size with
  |0=>False
  |_+1=>match x with
   |.cptr cs=>(0≤i∧i<n)∧K (.cptr (cs.drop (i.toNat*(T e).size)))
   |.ref r off=>(0≤i∧i<n)∧K (.ref r (off+i.toNat*(T e).size))
   |_=>False
 |_,_=>False
def UH(T:G4)(t:Nat)(x ix:AV)(K:AV→Prop):Prop :=
 match(T t).d,x,ix with
 |.string,.v (.string s),.v (.int .i64 i)=>∃b:UInt8,(0≤i∧s.data[i.toNat]?=some b)∧K (.v (.int .u8 b.toNat))
 |.array n e,.agg cs,.v (.int .i64 i)=>(0≤i∧i<n)∧aN T e (cs.drop (i.toNat*(T e).size)) K
 |_,_,_=>False
def Cb(t:Nat→AV):Option Operand→Option (Option Int)
 |none=>some none
 |some x=>match ev t x with |.v (.int .i64 i)=>some (some i) |_=>none
def over{α:Type}(cs:List α)(o:Nat)(vs:List α):List α :=
 match cs with
 | []=>[]
 |c::cs=>match o with
  |o+1=>c::over cs o vs
  |0=>match vs with
   | []=>c::cs
   |v::vs=>v::over cs 0 vs
structure Gh where
 ρ:Nat→Value
 ln:Nat→Nat
 tk:Nat→Bool
 own:Nat→Option Nat
 S:Nat→Nat→Prop
def JZ:List KS→List Value→Bool
 | [],[]=>true
 |k::r,v::s=>match Oj k v with |true=>JZ r s |false=>false
 |_,_=>false
def Xo(v:Value):Bool :=
 match sh.agg,v with
 |true,.agg cs=>JZ sh.l cs.toList
 |false,v=>JZ sh.l [v]
 |_,_=>false
def HM(es:Array MapEntry)(ck:Nat)(B8:List (Value×AV)):Prop :=
 es.size=B8.length∧(∀(i:Nat) (kv:Value×AV) (e:MapEntry),B8[i]?=some kv→es[i]?=some e→e.key=kv.1) ∧
 (∀kv∈B8,Xo sh kv.1=true)∧(B8.map (·.1)).Nodup∧(∀(i:Nat) (e:MapEntry),es[i]?=some e→e.born<ck) ∧
 ∀(i j:Nat) (e e' : MapEntry),es[i]?=some e→es[j]?=some e'→e.born=e'.born→i=j
inductive BP(g:Gh)(w:World):(Nat→Prop)→AV→Value→Prop
 |v (U:Nat→Prop) (x:Value):BP g w U (.v x) x
 |junk (U:Nat→Prop) (x:Value):BP g w U .junk x
 |snil (U:Nat→Prop) (a:Option Addr) (cap:Nat):BP g w U (.slice .none []) (.slice a 0 cap)
 |slice (U:Nat→Prop) (es:List (List AV)) (b off sz cap:Nat) (val:Nat→Nat→Value) (hc:es.length≤cap)
   (hl:∀(i:Nat) (cs:List AV),es[i]?=some cs→cs.length=sz)
   (DP:∀(i:Nat) (cs:List AV) (j:Nat) (av:AV),es[i]?=some cs→cs[j]?=some av →
    g.S b (off+i*sz+j)∧w.cell? ⟨b,off+i*sz+j,none⟩=some (val i j)∧(val i j).oneCell'=true)
   (EG:∀(i:Nat) (cs:List AV) (j:Nat) (av:AV),es[i]?=some cs→cs[j]?=some av→BP g w (fun _=>False) av (val i j)) :
   BP g w U (.slice .none es) (.slice (some ⟨b,off,none⟩) es.length cap)
 |tok (U:Nat→Prop) (r sz:Nat) (es:List (List AV)) (x:Value) (h:BP g w U (.slice .none es) x) (hl:∀c∈es,c.length=sz) (hu:U r) (ht:g.tk r=true) (hn:es.length≤g.ln r)
   (hx:es.length=g.ln r→x=g.ρ r):BP g w U (.slice (.id r sz) es) x
 |ver (U:Nat→Prop) (r sz v:Nat) (es:List (List AV)) (x:Value) (h:BP g w U (.slice .none es) x) (hl:∀c∈es,c.length=sz) (hu:U r) (ht:g.tk r=true) (hn:v≤g.ln r)
   (hx:v=g.ln r→x=g.ρ r):BP g w U (.slice (.ver r sz v) es) x
 |full (U:Nat→Prop) (sz:Nat) (es:List (List AV)) (x:Value) (h:BP g w U (.slice .none es) x) (hl:∀c∈es,c.length=sz) (hx:∃a,x=.slice a es.length es.length):BP g w U (.slice (.full sz) es) x
 |msl (U:Nat→Prop) (r n:Nat) (a:Option Addr) (cap:Nat) (hu:U r) (ht:g.tk r=true) (hn:n≤g.ln r) (ha:n=0∨∃b,a=some ⟨b,0,none⟩) (hx:n=g.ln r→.slice a n cap=g.ρ r) :
   BP g w U (.msl r n) (.slice a n cap)
 |agg (U:Nat→Prop) (cs:List AV) (vs:Array Value) (hs:vs.size=cs.length) (h1:∀(i:Nat) (x:Value),vs[i]?=some x→x.oneCell'=true)
   (h:∀(i:Nat) (av:AV) (x:Value),cs[i]?=some av→vs[i]?=some x→BP g w U av x):BP g w U (.agg cs) (.agg vs)
 |tup (U:Nat→Prop) (cs:List AV) (vs:Array Value) (hs:vs.size=cs.length)
   (h:∀(i:Nat) (av:AV) (x:Value),cs[i]?=some av→vs[i]?=some x→BP g w U av x):BP g w U (.tup cs) (.tuple vs)
 |cptr (U:Nat→Prop) (cs:List AV) (b off:Nat) (val:Nat→Value)
   (DP:∀(j:Nat) (av:AV),cs[j]?=some av→g.S b (off+j)∧w.cell? ⟨b,off+j,none⟩=some (val j)∧(val j).oneCell'=true)
   (EG:∀(j:Nat) (av:AV),cs[j]?=some av→BP g w (fun _=>False) av (val j)) :
   BP g w U (.cptr cs) (.pointer (some ⟨b,off,none⟩))
 |ref (U:Nat→Prop) (r off b:Nat) (hu:U r) (ht:g.tk r=false) (hx:g.ρ r=.pointer (some ⟨b,0,none⟩)):BP g w U (.ref r off) (.pointer (some ⟨b,off,none⟩))
 |eref (U:Nat→Prop) (r n sz i off b cap:Nat) (hu:U r) (ht:g.tk r=true) (hn:i<n∧n≤g.ln r) (hx:n=g.ln r→g.ρ r=.slice (some ⟨b,0,none⟩) n cap) :
   BP g w U (.eref r n sz i off) (.pointer (some ⟨b,i*sz+off,none⟩))
 |mref (U:Nat→Prop) (r b:Nat) (hu:U r) (ht:g.tk r=false) (hx:g.ρ r=.map (some b)):BP g w U (.mref r) (.map (some b))
 |cmap (U:Nat→Prop) (sh:E7) (B8:List (Value×AV)) (b:Nat) (es:Array MapEntry) (ck:Nat) (hS:g.S b 0) (hb:w.heap[b]?=some (.map es ck)) (hm:HM sh es ck B8)
   (h:∀(i:Nat) (kv:Value×AV) (e:MapEntry),B8[i]?=some kv→es[i]?=some e→BP g w (fun _=>False) kv.2 e.val):BP g w U (.cmap sh B8) (.map (some b))
 |clo (U:Nat→Prop) (f:Nat) (cs:List AV) (vs:Array Value) (hs:vs.size=cs.length)
   (h:∀(i:Nat) (av:AV) (x:Value),cs[i]?=some av→vs[i]?=some x→BP g w U av x):BP g w U (.clo f cs) (.func (.func f) #[] vs)
def HO.live:HO→Prop
 |.free |.dead |.vox _ |.ro _ |.rom _ _=>False
 |_=>True
def AT(h:Nat→HO)(r:Nat):Prop:=h r≠.free
def FQ:Nat→Prop:=fun _=>False
def CU(g:Gh)(w:World)(U:Nat→Prop)(cs:List AV)(vs:List Value):Prop :=
 vs.length=cs.length∧(∀x∈vs,x.oneCell'=true)∧∀(i:Nat) (av:AV) (x:Value),cs[i]?=some av→vs[i]?=some x→BP g w U av x
def PD:List Nat→Code→Bool
 |bs,.block id c=>PD (id::bs) c
 |bs,.seq a b=>PD bs a||PD bs b
 |bs,.cond _ a b=>PD bs a||PD bs b
 |bs,.loop c=>PD bs c
 |bs,.exit id=>!(bs.any fun i=>Nat.beq i id)
 |_,_=>false
def ut:Obj→Bool
 |.loop r=>PD [] r.body
 |_=>false
def Ez(g:Gh)(w:World)(U:Nat→Prop)(r:Nat):HO→Prop
  |.free |.dead=>True
  |.cells cs=>g.tk r=false∧∃b E vs,g.own r=some b∧g.ρ r=.pointer (some ⟨b,0,none⟩)∧w.heap[b]?=some (.cells vs E (0,0))∧CU g w U cs vs.toList∧∀o,¬g.S b o
  |.ro cs=>g.tk r=false∧∃b,g.ρ r=.pointer (some ⟨b,0,none⟩)∧BP g w FQ (.cptr cs) (.pointer (some ⟨b,0,none⟩))
  |.tok sz n=>g.tk r=true∧g.ln r=n∧∃a cap,g.ρ r=.slice a n cap∧(n=cap∧g.own r=none ∨
      n≤cap∧∃b E vs off,a=some ⟨b,off,none⟩∧g.own r=some b∧w.heap[b]?=some (.cells vs E (0,0))∧vs.size=off+cap*sz∧∀o,g.S b o→o<off+n*sz)
  |.var sz v n=>g.tk r=true∧g.ln r=v∧∃a cap,g.ρ r=.slice a n cap∧(n=cap∧g.own r=none ∨
      n≤cap∧∃b E vs off,a=some ⟨b,off,none⟩∧g.own r=some b∧w.heap[b]?=some (.cells vs E (0,0))∧vs.size=off+cap*sz∧∀o,g.S b o→o<off+n*sz)
  |.vox v=>g.tk r=true∧g.ln r=v
  |.arr sz es=>g.tk r=true∧g.ln r=es.length∧(∀cs∈es,cs.length=sz)∧(es=[]∧g.ρ r=.slice none 0 0∧g.own r=none ∨
      ∃b cap E vs,g.ρ r=.slice (some ⟨b,0,none⟩) es.length cap∧g.own r=some b∧es.length≤cap∧w.heap[b]?=some (.cells vs E (0,0))∧vs.size=cap*sz ∧
        CU g w FQ es.flatten (vs.toList.take (es.length*sz))∧∀o,¬g.S b o)
  |.map sh B8=>g.tk r=false∧∃b es ck,g.own r=some b∧g.ρ r=.map (some b)∧w.heap[b]?=some (.map es ck)∧HM sh es ck B8 ∧
      (∀(i:Nat) (kv:Value×AV) (e:MapEntry),B8[i]?=some kv→es[i]?=some e→BP g w FQ kv.2 e.val)∧∀o,¬g.S b o
  |.mapU sh B8=>g.tk r=false∧∃b es ck,g.own r=some b∧g.ρ r=.map (some b)∧w.heap[b]?=some (.map es ck)∧HM sh es ck B8 ∧
      (∀(i:Nat) (kv:Value×AV) (e:MapEntry),B8[i]?=some kv→es[i]?=some e→BP g w U kv.2 e.val)∧∀o,¬g.S b o
  |.rom sh B8=>g.tk r=false∧∃b,g.ρ r=.map (some b)∧BP g w FQ (.cmap sh B8) (.map (some b))
  |.iter all rem F6=>g.tk r=false∧∃b mb KQ seen st es ck,g.own r=some b∧g.ρ r=.pointer (some ⟨b,0,none⟩)∧w.heap[b]?=some (.mapIter (some mb) KQ seen st) ∧
      g.S mb 0∧w.heap[mb]?=some (.map es ck)∧(∃sh,HM sh es ck all)∧KQ=ck∧st=ck ∧
      (∀(i:Nat) (kv:Value×AV) (e:MapEntry),all[i]?=some kv→es[i]?=some e→BP g w FQ kv.2 e.val) ∧
      (rem.Nodup∧∀kv∈rem,kv∈all)∧(∀(i:Nat) (kv:Value×AV) (e:MapEntry),all[i]?=some kv→es[i]?=some e→(kv∈rem↔e.born∉seen)) ∧
      (match F6 with | none=>True | some kv=>∃(i:Nat) (e:MapEntry),all[i]?=some kv∧es[i]?=some e∧seen.back?=some e.born)∧∀o,¬g.S b o
  |.hol sz es i c a=>g.tk r=true∧g.ln r=es.length∧(∀cs∈es,cs.length=sz)∧∃b cap E vs,g.ρ r=.slice (some ⟨b,0,none⟩) es.length cap∧g.own r=some b∧es.length≤cap∧w.heap[b]?=some (.cells vs E (0,0))∧vs.size=cap*sz ∧
        CU g w FQ es.flatten (vs.toList.take (es.length*sz))∧(∀o,¬g.S b o)∧i*sz+c<es.length*sz∧∃x,vs[i*sz+c]?=some x∧BP g w U a x
  |.raw b ob=>g.tk r=false∧g.own r=some b∧w.heap[b]?=some ob∧ut ob=true∧∀o,¬g.S b o
def gB:Nat:=0
def uW:List (Nat×Nat×Option Value):=[]
def XI(g:Gh)(w:World):Prop:=(g.S gB 0∧∃m,w.cell? ⟨gB,0,none⟩=some (.int .i64 m))∧∀x∈uW,g.S x.1 x.2.1∧w.cell? ⟨x.1,x.2.1,none⟩=x.2.2
structure DV(w0:World)(g0:Gh)(h0:Nat→HO)(h:Nat→HO)(g:Gh)(w:World):Prop where
 os:w.os=w0.os
 tape:w.tape=w0.tape
 output:w.output=w0.output
 size:w0.heap.size≤w.heap.size
 frame:∀b,b<w0.heap.size→(∀r,(h0 r).live→g0.own r≠some b)→w.heap[b]?=w0.heap[b]?
 slt:∀b o,g.S b o→b<w.heap.size
 objs:∀r,Ez g w (AT h) r (h r)
 inj:∀r r' b,(h r).live→(h r').live→g.own r=some b→g.own r'=some b→r=r'
 loc:∀r b,(h r).live→g.own r=some b→b<w.heap.size∧(w0.heap.size≤b∨∃r',(h0 r').live∧g0.own r'=some b)
 sg:∀b o,g.S b o→g0.S b o∨w0.heap.size≤b∨∃r',(h0 r').live∧g0.own r'=some b
 glob:XI g w
def E3(g:Gh)(w:World)(g' : Gh)(w' : World):Prop :=
 ∀b o,g.S b o→g'.S b o∧w'.cell? ⟨b,o,none⟩=w.cell? ⟨b,o,none⟩∧∀es ck,w.heap[b]?=some (.map es ck)→w'.heap[b]?=some (.map es ck)
def KT(g g' : Gh)(U:Nat→Prop):Prop :=
 ∀i,U i→g'.tk i=g.tk i∧g.ln i≤g'.ln i∧(g.tk i=false→g'.ρ i=g.ρ i)∧(g'.ln i=g.ln i→g'.ρ i=g.ρ i)
structure Le(h:Nat→HO)(g:Gh)(w:World)(h' : Nat→HO)(g' : Gh)(w' : World):Prop where
 gh:KT g g' (AT h)
 us:∀i,AT h i→AT h' i
 keeps:E3 g w g' w'
def GD (P : Program) (f : Nat) : Prop := ∃ fn, P.funcs[f]? = some fn ∧ (fn.name == "runtime.NumGoroutine") = false ∧ fn.body.isNone = false
def A1(P:Program)(f:Nat)(args:List AV)(h0:Nat→HO)(Q:AV→(Nat→HO)→Prop):Prop :=
 GD P f∧∀(g:Gh) (w:World) (vals:Array Value),vals.size=args.length→(∀(i:Nat) (av:AV) (x:Value),args[i]?=some av→vals[i]?=some x→BP g w (AT h0) av x) →
  DV w g h0 h0 g w →
  Calls P f vals w fun e w'=>∃v r h' g',e=.returned v∧Q r h'∧BP g' w' (AT h') r v∧DV w g h0 h' g' w'∧Le h0 g w h' g' w'
def J9(P:Program)(f:Nat)(args:List AV)(res:AV):Prop:=A1 P f args Af fun r h'=>r=res∧h'=Af
def JH(P:Program)(Y:Gh→World→Prop)(l:Nat)(args:List AV)(h0:Nat→HO)(Q:AV→(Nat→HO)→Prop):Prop :=
 ∀(g:Gh) (w:World) (vals:Array Value),vals.size=args.length→(∀(i:Nat) (av:AV) (x:Value),args[i]?=some av→vals[i]?=some x→BP g w (AT h0) av x) →
  DV w g h0 h0 g w→Y g w →
  YieldAt Fence.wide 0 P l vals w fun e w'=>∃v r h' g',e=.returned v∧Q r h'∧BP g' w' (AT h') r v∧DV w g h0 h' g' w'∧Le h0 g w h' g' w'
def qP(P:Program)(Y:Gh→World→Prop)(f:Nat)(args:List AV)(h0:Nat→HO)(Q:AV→(Nat→HO)→Prop):Prop :=
 GD P f∧∀(g:Gh) (w:World) (vals:Array Value),vals.size=args.length→(∀(i:Nat) (av:AV) (x:Value),args[i]?=some av→vals[i]?=some x→BP g w (AT h0) av x) →
  DV w g h0 h0 g w→Y g w →
  Calls P f vals w fun e w'=>∃v r h' g',e=.returned v∧Q r h'∧BP g' w' (AT h') r v∧DV w g h0 h' g' w'∧Le h0 g w h' g' w'
def GC(P:Program)(Y:Nat→Gh→World→Prop)(F:AV)(args:List AV)(h:Nat→HO)(Q:AV→(Nat→HO)→Prop):Prop :=
 match F with
 |.v (.func (.func f) ⟨[]⟩ ⟨[]⟩)=>A1 P f args h Q
 |.clo f caps=>A1 P f (args++caps) h Q
 |.v (.func (.yield l) ⟨[]⟩ ⟨[]⟩)=>JH P (Y l) l args h Q
 |_=>False
def QZ(P:Program)(F:AV)(args:List AV)(res:AV):Prop :=
 match F with
 |.v (.func (.func f) ⟨[]⟩ ⟨[]⟩)=>J9 P f args res
 |.clo f caps=>J9 P f (args++caps) res
 |_=>False
structure Cx where
 P:Program
 T:G4
 pl:Q0
 ext:Bool
 nid:Nat
 yp:Nat→List (Nat×Nat)→Gh→World→Prop
variable (cx:Cx)
def Lr(d:Nat):Nat:=bif JB cx.pl.dyn d then cx.nid else d
abbrev HK:=AV→(Nat→HO)→Prop
def TT(T:G4)(d:Option Nat)(h:Nat→HO)(e:Nat)(K:HK):Prop :=
 match d with
 |none=>False
 |some d=>match h d with
  |.free=>match(T e).d with
   |.other=>False
   |_=>match Hz ((T e).zc.map .v)with
    |true=>K (.ref d 0) (A0 h d (.cells ((T e).zc.map .v)))
    |false=>False
  |_=>False
def HB(n:Nat)(a:AV)(K:List AV→Prop):Prop :=
 match a with
 |.agg cs=>match Nat.beq cs.length n with
  |true=>K cs
  |false=>False
 |a=>match one a with
  |true=>match n with
   |1=>K [a]
   |_=>False
  |false=>False
def fK(d:Option Nat)(h:Nat→HO)(e:Nat)(x:AV)(K:HK):Prop :=
 match d with
 |none=>False
 |some d=>match h d with
  |.free=>match(cx.T e).d with
   |.other=>False
   |_=>HB (cx.T e).size x fun cs=>match JB cx.pl.frz d with
    |true=>K (.ref d 0) (A0 h d (.ro (cs.map (str h))))
    |false=>K (.ref d 0) (A0 h d (.cells cs))
  |_=>False
def Pi(h:Nat→HO)(t:Nat)(p x:AV)(K:HK):Prop :=
 match(cx.T t).d with
 |.other=>False
 |_=>HB (cx.T t).size x fun vs=>match p with
  |.ref r off=>match h r with
   |.cells cs=>off+vs.length≤cs.length∧(match JB cx.pl.frz r with
    |true=>K (.v undef) (A0 h r (.ro ((over cs off vs).map (str h))))
    |false=>K (.v undef) (A0 h r (.cells (over cs off vs))))
   |_=>False
  |.eref r n sz i off=>match h r with
   |.arr G2 es=>match Nat.beq sz G2 with
    |true=>n=es.length∧∃cs,es[i]?=some cs∧off+vs.length≤sz∧(match vs with
     | [.msl j m]=>K (.v undef) (A0 h r (.hol sz (es.set i (over cs off [.junk])) i off (.msl j m)))
     |_=>K (.v undef) (A0 h r (.arr sz (es.set i (over cs off (vs.map (str h)))))))
    |false=>False
   |_=>False
  |_=>False
def IZ(T:G4)(h:Nat→HO)(t:Nat)(p:AV)(K:AV→Prop):Prop :=
 match p with
 |.cptr cs=>Mw T t cs K
 |.ref r off=>match h r with
  |.cells cs=>Mw T t (cs.drop off) K
  |.ro cs=>Mw T t (cs.drop off) K
  |_=>False
 |.eref r n sz i off=>match h r with
  |.arr G2 es=>match Nat.beq sz G2 with
   |true=>n=es.length∧∃cs,es[i]?=some cs∧Mw T t (cs.drop off) K
   |false=>False
  |.hol G2 es i' c a=>match Nat.beq sz G2 with
   |true=>(n=es.length∧i=i'∧off=c)∧Mw T t [a] K
   |false=>False
  |_=>False
 |_=>False
def Lt(pl:Nat→Option (Nat×Nat))(cs:List AV)(t:Nat→AV)(ps:List (Nat×Operand))(K:List AV→Prop):Prop :=
 match ps with
 | []=>K cs
 |(i,x)::r=>match pl i with
  |none=>False
  |some (o,n)=>HB n (ev t x) fun vs=>match Nat.ble (o+n) cs.length with
   |true=>Lt pl (over cs o vs) t r K
   |false=>False
def Px(T:G4):List (Nat×Nat)→Bool
 | []=>true
 |(t,_)::r=>match(T t).size with |0=>false |_+1=>Px T r
def Rf(T:G4)(ty:Nat)(t:Nat→AV)(ps:List (Nat×Operand))(K:AV→Prop):Prop :=
 match Hz ((T ty).zc.map .v)with
 |false=>False
 |true=>match(T ty).d with
  |.struct fs=>match Px T fs with
   |false=>False
   |true=>Lt (fun i=>match X6 fs i with |some (t,o)=>some (o,(T t).size) |none=>none) ((T ty).zc.map .v) t ps fun cs=>K (.agg cs)
  |.array _ e=>match(T e).size with
   |0=>False
   |_+1=>Lt (fun i=>some (i*(T e).size,(T e).size)) ((T ty).zc.map .v) t ps fun cs=>K (.agg cs)
  |_=>False
def Ss(n sz:Nat)(h:Nat→HO)(es:List (List AV))(t:Nat→AV)(ps:List (Nat×Operand))(K:List (List AV)→Prop):Prop :=
 match ps with
 | []=>K es
 |(i,x)::r=>match Nat.blt i n with
  |true=>HB sz (ev t x) fun vs=>Ss n sz h (es.set i (vs.map (str h))) t r K
  |false=>False
def E0(d:Option Nat)(h:Nat→HO)(sz:Nat)(es:List (List AV))(K:HK):Prop :=
 match d with
 |none=>False
 |some d=>match h (Lr cx d)with
  |.free=>match Hh cx.pl.arr d with
   |some _=>K (.msl (Lr cx d) es.length) (A0 h (Lr cx d) (.arr sz es))
   |none=>K (.slice (.id (Lr cx d) sz) es) (A0 h (Lr cx d) (.tok sz es.length))
  |_=>False
def Jg(d:Option Nat)(h:Nat→HO)(ty n:Nat)(t:Nat→AV)(ps:List (Nat×Operand))(K:HK):Prop :=
 match(cx.T ty).d with
 |.slice e=>match Hz ((cx.T e).zc.map .v),Nat.beq (cx.T e).zc.length (cx.T e).size with
  |true,true=>match(cx.T e).size with
   |0=>False
   |_+1=>match Nat.ble (n*(cx.T e).size) 16777216 with
    |true=>Ss n (cx.T e).size h (List.replicate n ((cx.T e).zc.map .v)) t ps fun es=>E0 cx d h (cx.T e).size es K
    |false=>False
  |_,_=>False
 |_=>False
def Lv(t:Nat→AV)(h:Nat→HO)(fn:Fn)(first captured:List Operand)(K:AV→Prop):Prop :=
 match fn,first with
 |.func f,[]=>K (.clo f (captured.map fun x=>rsv h (ev t x)))
 |_,_=>False
def Cf(sz:Nat):List (List AV)→Prop
 | []=>True
 |c::r=>c.length=sz∧Cf sz r
def LZ(h:Nat→HO)(x:AV)(K:List (List AV)→Prop):Prop :=
 match x with
 |.slice _ es=>K es
 |.v (.slice none 0 0)=>K []
 |.msl r n=>match h r with
  |.arr _ es=>n=es.length∧K es
  |_=>False
 |_=>False
def I4(d:Option Nat)(h:Nat→HO)(ty:Nat)(s x:AV)(K:HK):Prop :=
 match(cx.T ty).d with
 |.slice e=>match Nat.beq (cx.T e).zc.length (cx.T e).size with
  |false=>False
  |true=>match(cx.T e).size with
   |0=>False
   |_+1=>LZ h x fun es2=>match s with
    |.v (.slice none 0 0)=>(Cf (cx.T e).size es2∧es2.length*(cx.T e).bytes≤140737488355328∧es2.length≤9223372036854775807)∧E0 cx d h (cx.T e).size es2 K
    |.slice (.full G2) es=>match Nat.beq G2 (cx.T e).size with
     |true=>(Cf (cx.T e).size es2∧0<es2.length∧(es.length+es2.length)*(cx.T e).bytes≤140737488355328∧es.length+es2.length≤9223372036854775807)∧E0 cx d h (cx.T e).size (es++es2) K
     |false=>False
    |.slice (.id r G2) es=>match h r with
     |.tok sz n=>match Nat.beq sz (cx.T e).size,Nat.beq G2 sz with
      |true,true=>(Cf sz es2∧es.length=n∧(es.length+es2.length)*(cx.T e).bytes≤140737488355328∧es.length+es2.length≤9223372036854775807) ∧
        K (.slice (.id r sz) (es++es2)) (A0 h r (.tok sz (es.length+es2.length)))
      |_,_=>False
     |_=>False
    |.msl r n=>match h r with
     |.arr sz es=>match Nat.beq sz (cx.T e).size with
      |true=>(Cf sz es2∧es.length=n∧(es.length+es2.length)*(cx.T e).bytes≤140737488355328∧es.length+es2.length≤9223372036854775807) ∧
        K (.msl r (es.length+es2.length)) (A0 h r (.arr sz (es++es2)))
      |false=>False
     |_=>False
    |_=>False
 |_=>False
abbrev JO:=List (Nat×Nat)
variable (σ:JO)
inductive ug | pure | rel | gen (σ:JO) (nn:Nat) | geny (σ:JO) (nn:Nat)
def CC(σ:JO)(n:Nat):Option Nat :=
 match σ with
 | []=>none
 |(i,j)::r=>bif Nat.beq i n then some j else CC r n
def IC(σ:JO)(n:Nat):Option Nat :=
 match σ with
 | []=>none
 |(i,j)::r=>bif Nat.beq j n then some i else IC r n
def EK:JO→Bool
 | []=>true
 |(i,j)::r=>(match CC r i,IC r j with |none,none=>true |_,_=>false)&&Nat.ble 1000 j&&Nat.blt j 2000&&EK r
def Hm:JO→Bool
 | []=>true
 |(i,j)::r=>(match CC r i,IC r j with |none,none=>true |_,_=>false)&&Hm r
def ren0(h:Nat→HO):AV→AV
 |.slice (.id r sz) es=>match f r with |some r'=>.slice (.id r' sz) es |none=>.slice .none es
 |.slice (.ver r sz v) es=>match f r with |some r'=>.slice (.ver r' sz v) es |none=>.slice .none es
 |.msl r n=>match f r with |some r'=>.msl r' n |none=>.junk
 |.ref r off=>match f r with |some r'=>.ref r' off |none=>str0 h (.ref r off)
 |.eref r n sz i off=>match f r with |some r'=>.eref r' n sz i off |none=>.junk
 |.mref r=>match f r with |some r'=>.mref r' |none=>str0 h (.mref r)
 |a=>str0 h a
def ren1(h:Nat→HO):AV→AV
 |.agg cs=>.agg (cs.map (ren0 f h))
 |.clo g cs=>.clo g (cs.map (ren0 f h))
 |a=>ren0 f h a
def ren(h:Nat→HO):AV→AV
 |.tup cs=>.tup (cs.map (ren1 f h))
 |a=>ren1 f h a
def HO.ren(h:Nat→HO):HO→HO
 |.cells cs=>.cells (cs.map (ren1 f h))
 |.mapU sh B8=>.mapU sh (B8.map fun p=>(p.1,ren1 f h p.2))
 |.hol sz es i c a=>.hol sz es i c (ren1 f h a)
 |o=>o
def Ak(l:List (Nat×HO))(hb:Nat→HO)(i:Nat):HO:=match l with | []=>hb i | (j,v)::r=>bif Nat.beq i j then v else Ak r hb i
def YB(f:Nat→Option Nat)(h:Nat→HO):JO→List (Nat×HO)
 | []=>[]
 |(i,j)::r=>(j,(h i).ren f h)::YB f h r
def F4(h:Nat→HO):Nat→HO:=Ak (YB (CC σ) h σ) Af
def BA(d k:Nat):Nat:=10000+100*d+k
def FC(d nn:Nat)(j:Nat):Option Nat :=
 match IC σ j with
 |some i=>some i
 |none=>match Nat.ble 2000 j&&Nat.blt j (2000+nn)with |true=>some (BA d (j-2000)) |false=>none
def Eu(d nn:Nat)(h h' : Nat→HO):Nat→HO:=fun i =>
 match CC σ i with
 |some j=>(h' j).ren (FC σ d nn) h'
 |none=>match Nat.ble (BA d 0) i&&Nat.blt i (BA d nn)with |true=>(h' (2000+(i-BA d 0))).ren (FC σ d nn) h' |false=>h i
def DR(h:Nat→HO)(d:Nat):Nat→Bool
 |0=>true
 |k+1=>(match h (BA d k)with |.free=>true |_=>false)&&DR h d k
def DD(σ:JO)(d nn:Nat):Bool :=
 match σ with
 | []=>true
 |(i,_)::r=>!(Nat.ble (BA d 0) i&&Nat.blt i (BA d nn))&&DD r d nn
def Oz(l:List (Nat×Nat))(d:Option Nat):Option Nat:=match d with | none=>none | some d=>Hh l d
def d8:AV→Bool | .tup _=>false | _=>true
def U4:List AV→Bool
 | []=>true
 |a::r=>match d8 a with |true=>U4 r |false=>false
def XC:List AV→Option (List Value)
 | []=>some []
 |.v x::r=>match XC r with |some l=>some (x::l) |none=>none
 |_=>none
def SV(k:Nat)(d:Option Nat)(h:Nat→HO)(F:AV)(args:List AV)(K:HK):Prop :=
 match d,F,args with
 |some d,.v (.func (.func f) ⟨[]⟩ ⟨[]⟩),.msl r n::l=>match XC l with
  |some vs=>match h r with
   |.arr sz es=>match k with
    |0=>∃n' F7,A1 cx.P f (.msl 1000 n::vs.map .v) (Ak [(1000,.arr sz es)] Af) (fun r' h'=>r'=.msl 1000 n'∧h'=Ak [(1000,.arr sz F7)] Af)∧K (.msl r n') (A0 h r (.arr sz F7))
    |_+1=>∃n' F7,(DR h d 1&&Nat.blt r 10000000&&!Nat.beq r (BA d 0))=true∧A1 cx.P f (.msl 1000 n::vs.map .v) (Ak [(1000,.arr sz es)] Af) (fun r' h'=>r'=.msl 2000 n'∧h'=Ak [(1000,.dead),(2000,.arr sz F7)] Af) ∧
      K (.msl (BA d 0) n') (A0 (A0 h r .dead) (BA d 0) (.arr sz F7))
   |_=>False
  |none=>False
 |_,_,_=>False
def VB(d:Option Nat)(st:St)(F:AV)(args:List AV)(K:HK):Prop :=
 match d with
 |none=>False
 |some d=>∃sz es,(DR st.h d 1&&d8 F&&U4 args)=true∧GC cx.P (fun l=>cx.yp l []) (str st.h F) (args.map (str st.h)) Af (fun r h'=>r=.slice (.id 2000 sz) es∧h'=Ak [(2000,.tok sz es.length)] Af) ∧
   K (.slice (.id (BA d 0) sz) es) (A0 st.h (BA d 0) (.tok sz es.length))
def Se(d:Option Nat)(st:St)(F:AV)(args:List AV)(K:HK):Prop :=
  match d,F,XC args with
  |some _,.v (.func (.yield l) ⟨[]⟩ ⟨[]⟩),some vs=>match st.h 1000,st.h 1001 with
    |.cells [.slice (.id r sz) es],.tok ff n=>(r=1001∧ff=sz)∧∃v F7 n',JH cx.P (cx.yp l [(1000,1000),(1001,1001)]) l (vs.map .v) (Ak [(1000,.cells [.slice (.id 1001 sz) es]),(1001,.tok sz n)] Af)
          (fun r h'=>r=.v v∧h'=Ak [(1000,.cells [.slice (.id 1001 sz) F7]),(1001,.tok sz n')] Af) ∧
        K (.v v) (A0 (A0 st.h 1001 (.tok sz n')) 1000 (.cells [.slice (.id 1001 sz) F7]))
    |_,_=>False
  |_,_,_=>False
def nX:List Nat:=[1000,1001,1002,1003,1004,1005,1006,1007]
def ZA(d:Option Nat)(st:St)(F:AV)(args:List AV)(K:HK):Prop :=
 match d,F with
 |some d,.v (.func (.func f) ⟨[]⟩ ⟨[]⟩)=>∃(σ:JO) (H0 Hn:List (Nat×HO)) (args' : List AV) (res:AV),
   (∀h2:Nat→HO,(∀r∈nX,h2 r=st.h r)→F4 σ h2=Ak H0 Af∧args.map (ren (CC σ) h2)=args')∧(EK σ&&DD σ d 0&&σ.all fun p=>JB nX p.1)=true ∧
   A1 cx.P f args' (Ak H0 Af) (fun r h'=>r=res∧h'=Ak Hn Af)∧K (ren (FC σ d 0) (Ak Hn Af) res) (Eu σ d 0 st.h (Ak Hn Af))
 |_,_=>False
def QE(k:Nat)(d:Option Nat)(st:St)(F:AV)(args:List AV)(K:HK):Prop :=
 match Nat.beq k 4 with
 |true=>ZA cx d st F args K
 |false=>SV cx k d st.h F args K
def GX(dr:Bool)(d:Option Nat)(st:St)(F:AV)(args:List AV)(K:HK):Prop :=
 match dr with
 |true=>match Oz cx.pl.dc d with
  |none=>∃res,QZ cx.P (str st.h F) (args.map (str st.h)) res∧K res st.h
  |some 0=>match d with
   |none=>False
   |some d=>∃n sz es,(DR st.h d 1&&d8 F&&U4 args)=true∧GC cx.P (fun l=>cx.yp l []) (str st.h F) (args.map (str st.h)) Af (fun r h'=>r=.msl 2000 n∧h'=Ak [(2000,.arr sz es)] Af) ∧
     K (.msl (BA d 0) n) (A0 st.h (BA d 0) (.arr sz es))
  |some (k+1)=>match Nat.beq k 2 with
   |true=>VB cx d st F args K
   |false=>match Nat.beq k 3 with
    |true=>Se cx d st F args K
    |false=>QE cx k d st F args K
 |false=>∃m:ug,match m with
  |.pure=>∃res,QZ cx.P (str st.h F) (args.map (str st.h)) res∧K res st.h
  |.rel=>GC cx.P (fun _ _ _=>True) (str st.h F) (args.map (str st.h)) Af fun r h'=>h'=Af∧K r st.h
  |.gen σ nn=>match d with
   |none=>False
   |some d=>(EK σ&&DR st.h d nn&&DD σ d nn)=true ∧
     GC cx.P (fun l=>cx.yp l σ) (ren (CC σ) st.h F) (args.map (ren (CC σ) st.h)) (F4 σ st.h) fun r h'=>K (ren (FC σ d nn) h' r) (Eu σ d nn st.h h')
  |.geny σ nn=>match d with
   |none=>False
   |some d=>(EK σ&&DR st.h d nn&&DD σ d nn)=true ∧
     match ren (CC σ) st.h F with
     |.clo f caps=>qP cx.P (fun g w=>∀l,cx.yp l σ g w) f (args.map (ren (CC σ) st.h)++caps) (F4 σ st.h) fun r h'=>K (ren (FC σ d nn) h' r) (Eu σ d nn st.h h')
     |_=>False
def YI:List AV→Option (List Value)
 | []=>some []
 |.v x::r=>match YI r with |some l=>some (x::l) |none=>none
 |_=>none
def sA:AV→Option Value
 |.v x=>some x
 |.agg cs=>match YI cs with |some l=>some (.agg l.toArray) |none=>none
 |_=>none
def IG(T:G4)(t:Nat):Option E7 :=
 match(T t).d with
 |.struct _=>match Ik T 8 t with |some l=>some ⟨true,l⟩ |none=>none
 |_=>match Ik T 1 t with |some l=>some ⟨false,l⟩ |none=>none
def oR:KS→KS→Bool
 |.int k,.int k'=>uc k k'
 |.str,.str=>true
 |.bool,.bool=>true
 |_,_=>false
def UO:List KS→List KS→Bool
 | [],[]=>true
 |a::r,b::s=>match oR a b with |true=>UO r s |false=>false
 |_,_=>false
def td(a b:E7):Bool :=
 match a.agg,b.agg with
 |true,true=>UO a.l b.l
 |false,false=>UO a.l b.l
 |_,_=>false
def KZ(T:G4)(ty:Nat)(sh:E7)(k:AV)(K:Value→Prop):Prop :=
 match(T ty).d with
 |.map kt _=>match IG T kt with
  |some yC=>match td sh yC with
   |true=>match sA k with
    |some kx=>match Xo sh kx with
     |true=>K kx
     |false=>False
    |none=>False
   |false=>False
  |none=>False
 |_=>False
open Classical in
noncomputable def FD(B8:List (Value×AV))(k:Value)(a:AV):List (Value×AV) :=
 if ∃a',(k,a')∈B8 then B8.map fun p=>if p.1=k then(k,a)else p else B8++[(k,a)]
def Lw(T:G4)(mku:List Nat)(d:Option Nat)(h:Nat→HO)(ty:Nat)(K:HK):Prop :=
 match d with
 |none=>False
 |some d=>match h d with
  |.free=>match(T ty).d with
   |.map kt _=>match IG T kt with
    |some sh=>match JB mku d with
     |true=>K (.mref d) (A0 h d (.mapU sh []))
     |false=>K (.mref d) (A0 h d (.map sh []))
    |none=>False
   |_=>False
  |_=>False
def HF(T:G4)(h:Nat→HO)(ty:Nat)(m k x:AV)(K:HK):Prop :=
 match m with
 |.mref r=>match h r with
  |.map sh B8=>KZ T ty sh k fun kx=>K (.v undef) (A0 h r (.map sh (FD B8 kx (str h x))))
  |.mapU sh B8=>KZ T ty sh k fun kx=>K (.v undef) (A0 h r (.mapU sh (FD B8 kx x)))
  |_=>False
 |_=>False
def La(T:G4)(t:Nat)(K:AV→Prop):Prop :=
 match(T t).d with
 |.other=>False
 |_=>match(T t).zero with
  |.agg cs=>match Hz (cs.toList.map .v)with |true=>K (.agg (cs.toList.map .v)) |false=>False
  |z=>K (.v z)
def M0(T:G4)(ty:Nat)(ok:Bool)(B8:List (Value×AV))(kx:Value)(K:AV→Prop):Prop :=
 match(T ty).d with
 |.map _ e=>match ok with
  |true=>(∀a,(kx,a)∈B8→K (.tup [a,.v (.bool true)]))∧((∀a,(kx,a)∉B8)→La T e fun z=>K (.tup [z,.v (.bool false)]))
  |false=>(∀a,(kx,a)∈B8→K a)∧((∀a,(kx,a)∉B8)→La T e K)
 |_=>False
def MZ(T:G4)(ty:Nat)(ok:Bool)(B8:List (Value×AV))(kx:Value)(K:AV→Prop):Prop :=
 match(T ty).d with
 |.map _ e=>match ok with
  |true=>(∃a,((kx,a)∈B8∧∀b,(kx,b)∈B8→b=a)∧K (.tup [a,.v (.bool true)]))∨((∀a,(kx,a)∉B8)∧La T e fun z=>K (.tup [z,.v (.bool false)]))
  |false=>(∃a,((kx,a)∈B8∧∀b,(kx,b)∈B8→b=a)∧K a)∨((∀a,(kx,a)∉B8)∧La T e K)
 |_=>False
def NK(T:G4)(h:Nat→HO)(ty:Nat)(m k:AV)(ok:Bool)(K:AV→Prop):Prop :=
 match m with
 |.cmap sh B8=>KZ T ty sh k fun kx=>MZ T ty ok B8 kx K
 |.mref r=>match h r with
  |.map sh B8=>KZ T ty sh k fun kx=>MZ T ty ok B8 kx K
  |.mapU sh B8=>KZ T ty sh k fun kx=>MZ T ty ok B8 kx K
  |.rom sh B8=>KZ T ty sh k fun kx=>MZ T ty ok B8 kx K
  |_=>False
 |_=>False
def NL(T:G4)(h:Nat→HO)(ty:Nat)(m k:AV)(ok:Bool)(K:AV→Prop):Prop :=
 match m with
 |.cmap sh B8=>KZ T ty sh k fun kx=>M0 T ty ok B8 kx K
 |.mref r=>match h r with
  |.map sh B8=>KZ T ty sh k fun kx=>M0 T ty ok B8 kx K
  |.mapU sh B8=>KZ T ty sh k fun kx=>M0 T ty ok B8 kx K
  |.rom sh B8=>KZ T ty sh k fun kx=>M0 T ty ok B8 kx K
  |_=>False
 |_=>False
def c8(d:Option Nat)(h:Nat→HO)(x:AV)(K:HK):Prop :=
 match d with
 |none=>False
 |some d=>match h d with
  |.free=>match x with
   |.cmap _ B8=>K (.ref d 0) (A0 h d (.iter B8 B8 none))
   |.mref r=>match h r with
    |.rom _ B8=>K (.ref d 0) (A0 h d (.iter B8 B8 none))
    |.map sh B8=>K (.ref d 0) (A0 (A0 h r (.rom sh B8)) d (.iter B8 B8 none))
    |_=>False
   |_=>False
  |_=>False
def lG(h:Nat→HO)(x:AV)(K:HK):Prop :=
 match x with
 |.ref r 0=>match h r with
  |.iter all rem _=>(rem=[]→K (.tup [.v (.bool false)]) h) ∧
    (∀kv Pc,rem.Perm (kv::Pc)→K (.tup [.v (.bool true),.v kv.1,kv.2]) (A0 h r (.iter all Pc (some kv))))
  |_=>False
 |_=>False
def bV(h:Nat→HO)(x:AV)(K:AV→Prop):Prop :=
 match x with
 |.ref r 0=>match h r with
  |.iter _ _ (some kv)=>K (.tup [.v kv.1,kv.2])
  |_=>False
 |_=>False
def SD(T:G4)(t:Nat)(h:Nat→HO)(x:AV)(K:AV→Prop):Prop :=
 match(T t).d with
 |.slice _=>match x with
  |.slice _ es=>K (.v (.int .i64 es.length))
  |.msl _ n=>K (.v (.int .i64 n))
  |.v (.slice none 0 0)=>K (.v (.int .i64 0))
  |_=>False
 |.string=>match x with
  |.v (.string s)=>K (.v (.int .i64 s.size))
  |_=>False
 |.map _ _=>match x with
  |.cmap _ B8=>K (.v (.int .i64 B8.length))
  |.mref r=>match h r with
   |.map _ B8=>K (.v (.int .i64 B8.length))
   |.mapU _ B8=>K (.v (.int .i64 B8.length))
   |.rom _ B8=>K (.v (.int .i64 B8.length))
   |_=>False
  |_=>False
 |_=>False
def G1(d:Option Nat)(h:Nat→HO)(ty:Nat)(x:AV)(lo hi mx:Option (Option Int))(K:HK):Prop :=
 match lo,hi,mx with
 |some lo,some hi,some mx=>match(cx.T ty).d with
  |.string=>match mx,x with
   |none,.v (.string s)=>(0≤lo.getD 0∧lo.getD 0≤hi.getD s.size∧hi.getD s.size≤s.size)∧K (.v (.string (s.extract (lo.getD 0).toNat (hi.getD s.size).toNat))) h
   |_,_=>False
  |.slice e=>match(cx.T e).size with
   |0=>False
   |_+1=>match x with
    |.slice _ es=>match mx with
     |none=>(0≤lo.getD 0∧lo.getD 0≤hi.getD es.length∧hi.getD es.length≤es.length) ∧
       (∀cs∈es,cs.length=(cx.T e).size)∧K (.slice .none ((es.take (hi.getD es.length).toNat).drop (lo.getD 0).toNat)) h
     |some m=>match d,hi with
      |some d,some hi=>match Hh cx.pl.arr d with
       |some _=>(0≤lo.getD 0∧lo.getD 0≤hi∧m=hi∧hi≤es.length)∧(∀cs∈es,cs.length=(cx.T e).size) ∧
         K (.slice (.full (cx.T e).size) ((es.take hi.toNat).drop (lo.getD 0).toNat)) h
       |none=>match h d with
        |.free=>(0≤lo.getD 0∧lo.getD 0≤hi∧m=hi∧hi≤es.length)∧(∀cs∈es,cs.length=(cx.T e).size) ∧
          K (.slice (.id d (cx.T e).size) ((es.take hi.toNat).drop (lo.getD 0).toNat)) (A0 h d (.tok (cx.T e).size (hi.toNat-(lo.getD 0).toNat)))
        |_=>False
      |_,_=>False
    |.v (.slice none 0 0)=>(lo.getD 0=0∧hi.getD 0=0∧mx.getD 0=0)∧(mx=none∨hi≠none)∧K (.v (.slice none 0 0)) h
    |.msl r n=>match h r with
     |.arr sz es=>match Nat.beq sz (cx.T e).size with
      |true=>(n=es.length∧0≤lo.getD 0∧lo.getD 0≤hi.getD es.length∧hi.getD es.length≤es.length∧(mx=none∨(mx=hi∧hi≠none))) ∧
        K (.slice .none ((es.take (hi.getD es.length).toNat).drop (lo.getD 0).toNat)) (A0 h r .dead)
      |false=>False
     |_=>False
    |_=>False
  |_=>False
 |_,_,_=>False
def Vj(d:Option Nat)(h:Nat→HO)(ty:Nat)(x:AV)(lo:Option (Option Int))(hi mx:Option Operand)(K:HK):Prop :=
 match d,lo,hi,mx with
 |some d,some (some lo),none,none=>match(cx.T ty).d with
  |.slice e=>match(cx.T e).size with
   |0=>False
   |_+1=>match x with
    |.slice (.id r sz) es=>match h r with
     |.tok G2 n=>match h (Lr cx d)with
      |.free=>match Nat.beq G2 sz,Nat.beq sz (cx.T e).size with
       |true,true=>(es.length=n∧0≤lo∧lo≤es.length)∧K (.slice (.id (Lr cx d) sz) (es.drop lo.toNat)) (A0 (A0 h r .dead) (Lr cx d) (.tok sz (es.drop lo.toNat).length))
       |_,_=>False
      |_=>False
     |_=>False
    |_=>False
  |_=>False
 |_,_,_,_=>False
def l8(d:Option Nat)(h:Nat→HO)(ty:Nat)(x:AV)(hi:Option (Option Int))(K:HK):Prop :=
 match d,hi with
 |some d,some (some hi)=>match(cx.T ty).d with
  |.slice e=>match(cx.T e).size with
   |0=>False
   |_+1=>match x with
    |.msl r n=>match h r with
     |.arr sz es=>match h (Lr cx d)with
      |.free=>match Nat.beq sz (cx.T e).size,Nat.blt r 10000000&&Nat.blt 0 (Lr cx d)with
       |true,true=>(n=es.length∧0≤hi∧hi≤es.length)∧K (.msl (Lr cx d) hi.toNat) (A0 (A0 h r .dead) (Lr cx d) (.arr sz (es.take hi.toNat)))
       |_,_=>False
      |_=>False
     |_=>False
    |_=>False
  |_=>False
 |_,_=>False
def Oq(d:Option Nat)(h:Nat→HO)(ty:Nat)(x:AV)(lo:Option Operand)(hi:Option (Option Int))(mx:Option Operand)(K:HK):Prop :=
 match lo,mx with
 |none,none=>l8 cx d h ty x hi K
 |_,_=>False
def eU(d:Option Nat)(h:Nat→HO)(ty:Nat)(x:AV)(t:Nat→AV)(lo hi mx:Option Operand)(K:HK):Prop :=
 match lo with
 |none=>Oq cx d h ty x none (Cb t hi) mx K
 |some lo=>Vj cx d h ty x (Cb t (some lo)) hi mx K
def unT:AV→AV
 |.slice _ es=>.slice .none es
 |a=>a
def PA(d:Option Nat)(h:Nat→HO)(x:AV)(K:HK):Prop :=
 match d with
 |none=>K x h
 |some d=>match Hh cx.pl.tok d with
  |some sz=>match Nat.beq sz 0 with
   |true=>K (unT x) h
   |false=>match x with
    |.v (.slice none 0 0)=>match h d with
     |.free=>K (.slice (.id d sz) []) (A0 h d (.tok sz 0))
     |_=>False
    |x=>K x h
  |none=>match Hh cx.pl.arr d with
   |some sz=>match x with
    |.v (.slice none 0 0)=>match h d with
     |.free=>K (.msl d 0) (A0 h d (.arr sz []))
     |_=>False
    |x=>K x h
   |none=>K x h
def pd(l:List AV)(n:Nat):Option AV :=
 match l with
 | []=>none
 |x::r=>match n with |0=>some x |n+1=>pd r n
def MV(i:Nat)(K:AV→Prop):Prop :=
 match x with
 |.tup vs=>match pd vs i with
  |some a=>K a
  |none=>False
 |_=>False
def Lz:Prop :=
 match x with
 |.ref r o=>K (.ref r o)
 |.eref r n z i o=>K (.eref r n z i o)
 |.cptr cs=>K (.cptr cs)
 |.clo f cs=>K (.clo f cs)
 |.v (.func (.func f) a b)=>K (.v (.func (.func f) a b))
 |_=>False
def aP(c a b:AV)(K:AV→Prop):Prop :=
 match c with
 |.v (.bool true)=>K a
 |.v (.bool false)=>K b
 |_=>False
def o5(f:Int→Int→Int)(x y:AV)(K:AV→Prop):Prop :=
 match x,y with
 |.v (.int k a),.v (.int k' b)=>match uc k k' with
  |true=>K (.v (.int k (f a b)))
  |false=>False
 |_,_=>False
def Kj(d:Option Nat)(h:Nat→HO)(ty:Nat)(len cap:AV)(K:HK):Prop :=
 match(cx.T ty).d,len,cap with
 |.slice e,.v (.int .i64 n),.v (.int .i64 c)=>match Hz ((cx.T e).zc.map .v)with
  |true=>match Nat.beq (cx.T e).zc.length (cx.T e).size with
   |true=>match(cx.T e).size with
    |0=>False
    |_+1=>(0≤n∧n≤c∧c*(cx.T e).bytes≤140737488355328∧c≤9223372036854775807)∧E0 cx d h (cx.T e).size (List.replicate n.toNat ((cx.T e).zc.map .v)) K
   |false=>False
  |false=>False
 |_,_,_=>False
def bl(op:UnOp)(x:AV)(K:AV→Prop):Prop :=
 match op,x with
 |.not,x=>ig K x
 |.neg,.v (.int .i64 a)=>Bc (-a)∧K (.v (.int .i64 (-a)))
 |.xor,.v (.int k a)=>K (.v (.int k (Ws .xor k (if k.signed then -1 else k.max) a)))
 |_,_=>False
def Gw(d:Option Nat)(h:Nat→HO)(b:Builtin)(Hp:List Nat)(args:List AV)(K:HK):Prop :=
 match b,args,Hp with
 |.len,[x],[t]=>SD cx.T t h x fun v=>K v h
 |.append,[s,x],[t,t']=>match Nat.beq t t' with
  |true=>I4 cx d h t s x K
  |false=>False
 |.max,[x,y],_=>o5 max x y fun v=>K v h
 |.min,[x,y],_=>o5 min x y fun v=>K v h
 |_,_,_=>False
def Gl(dr:Bool)(o:Oper)(st:St)(K:HK):Prop :=
 match o.op with
 |.move x=>K (ev st.t x) st.h
 |.assign x=>PA cx o.dst st.h (ev st.t x) K
 |.pick c a b=>aP (ev st.t c) (ev st.t a) (ev st.t b) fun v=>K v st.h
 |.alloc e=>TT cx.T o.dst st.h e K
 |.box e x=>fK cx o.dst st.h e (ev st.t x) K
 |.build ty ps=>Rf cx.T ty st.t ps.toList fun v=>K v st.h
 |.buildSlice ty n ps=>Jg cx o.dst st.h ty n st.t ps.toList K
 |.insert ty m k x=>HF cx.T st.h ty (ev st.t m) (ev st.t k) (ev st.t x) K
 |.load ty x=>IZ cx.T st.h ty (ev st.t x) fun v=>K v st.h
 |.store ty p x=>Pi cx st.h ty (ev st.t p) (ev st.t x) K
 |.nilCheck x=>Lz (ev st.t x) fun v=>K v st.h
 |.binOp op ty x y _=>Y3 cx.T op ty y (ev st.t x) (ev st.t y) fun v=>K v st.h
 |.unOp op _ x=>bl op (ev st.t x) fun v=>K v st.h
 |.convert s ty x=>Zc cx.T s ty (ev st.t x) fun v=>K v st.h
 |.makeFunc fn first cap=>Lv st.t st.h fn first.toList cap.toList fun v=>K v st.h
 |.makeMap ty none=>Lw cx.T cx.pl.mku o.dst st.h ty K
 |.makeSlice ty n c=>Kj cx o.dst st.h ty (ev st.t n) (ev st.t c) K
 |.slice ty x lo hi mx=>match dr with
  |true=>match Oz cx.pl.tok o.dst with
   |none=>G1 cx o.dst st.h ty (ev st.t x) (Cb st.t lo) (Cb st.t hi) (Cb st.t mx) K
   |some _=>Oq cx o.dst st.h ty (ev st.t x) lo (Cb st.t hi) mx K
  |false=>match Oz cx.pl.tok o.dst with
   |none=>G1 cx o.dst st.h ty (ev st.t x) (Cb st.t lo) (Cb st.t hi) (Cb st.t mx) K
   |some _=>eU cx o.dst st.h ty (ev st.t x) st.t lo hi mx K
 |.fieldAddr s x f=>Uk cx.T s f (ev st.t x) fun v=>K v st.h
 |.field s x f=>PS cx.T s f (ev st.t x) fun v=>K v st.h
 |.indexAddr ty x ix=>Ki cx.T ty (ev st.t x) (ev st.t ix) fun v=>K v st.h
 |.index ty x ix=>UH cx.T ty (ev st.t x) (ev st.t ix) fun v=>K v st.h
 |.lookup ty x ix ok=>match dr with
  |true=>NK cx.T st.h ty (ev st.t x) (ev st.t ix) ok fun v=>K v st.h
  |false=>NL cx.T st.h ty (ev st.t x) (ev st.t ix) ok fun v=>K v st.h
 |.mapUpdate ty m k x=>HF cx.T st.h ty (ev st.t m) (ev st.t k) (ev st.t x) K
 |.range ty x=>match(cx.T ty).d with |.map _ _=>c8 o.dst st.h (ev st.t x) K |_=>False
 |.next it false=>lG st.h (ev st.t it) K
 |.entry it=>bV st.h (ev st.t it) fun v=>K v st.h
 |.extract x i=>MV (ev st.t x) i fun v=>K v st.h
 |.call c=>match c.callee with
  |.builtin b=>Gw cx o.dst st.h b c.argTypes.toList (c.args.toList.map (ev st.t)) K
  |.value f=>GX cx dr o.dst st (ev st.t f) (c.args.toList.map (ev st.t)) K
  |_=>False
 |_=>False
def K5(ops:List Oper)(j:Nat):Option Nat:=match ops with | []=>none | o::r=>match j with | 0=>o.dst | j+1=>K5 r j
def ma(o:Oper)(st:St):St :=
 match o.dst with
 |none=>st
 |some d=>match um cx.pl.tz d with
  |some (r,k,j,sz)=>⟨st.t,yF st.h r k j sz⟩
  |none=>match rb cx.pl.fz d with
   | []=>st
   |l=>⟨st.t,Qc st.h l⟩
def yM(o:Oper)(st:St)(K:St→Prop):Prop :=
 match o.dst with
 |none=>K st
 |some d=>match Hh cx.pl.ak d with
  |none=>K st
  |some s=>match st.t s with
   |.msl r n=>match st.h r with
    |.arr sz es=>n=es.length∧K ⟨HI st.t s (.slice (.id r sz) es),A0 st.h r (.tok sz es.length)⟩
    |_=>K st
   |_=>K st
def js(dr:Bool)(o:Oper)(st:St)(K:St→Prop):Prop :=
 match dr with
 |true=>Gl cx true o st fun v h=>K (st.put o.dst v h)
 |false=>yM cx o (ma cx o st) fun EA=>Gl cx false o EA fun v h=>K (EA.put o.dst v h)
def HN(dr:Bool)(all:List Oper)(o:Oper)(st:St)(K:St→Prop):Prop :=
 match o.guard with
 |none=>js cx dr o st K
 |some (j,want)=>match K5 all j with
  |none=>False
  |some d=>match st.t d,want with
   |.v (.bool true),true=>js cx dr o st K
   |.v (.bool false),false=>js cx dr o st K
   |.v (.bool true),false=>K (st.put o.dst (.v undef) st.h)
   |.v (.bool false),true=>K (st.put o.dst (.v undef) st.h)
   |.v (.tuple _),_=>K (st.put o.dst (.v undef) st.h)
   |_,_=>False
def UM(o2:Oper):Bool :=
 match o2.op with
 |.call c=>match c.callee with
  |.builtin .clear=>match o.op with
   |.slice ty _ (some _) none none=>match o.dst,o2.dst,c.args.toList,c.argTypes.toList,o.guard,o2.guard with
    |some d,none,[.tmp d'],[ty'],none,none=>Nat.beq d d'&&Nat.beq ty ty'
    |_,_,_,_,_,_=>false
   |_=>false
  |_=>false
 |_=>false
def uP(d:Nat)(st:St)(r i sz:Nat)(es:List (List AV))(z:List Value)(K:St→Prop):Prop :=
 match z.all Value.oneCell' with
 |true=>K ⟨HI st.t d .junk,A0 st.h r (.arr sz (es.take i++List.replicate (es.length-i) (z.map AV.v)))⟩
 |false=>False
def fQ(o:Oper)(st:St)(K:St→Prop):Prop :=
 match o.op with
 |.slice ty x (some lo) none none=>match o.dst with
  |some d=>match(cx.T ty).d with
   |.slice e=>match ev st.t x with
    |.msl r n=>match ev st.t lo with
     |.v (.int .i64 i)=>match st.h r with
      |.arr sz es=>match Nat.beq sz (cx.T e).size with
       |true=>match(cx.T e).size with
        |0=>False
        |_+1=>match Nat.beq (cx.T e).zc.length sz with
         |true=>(n=es.length∧0≤i∧i≤es.length)∧uP d st r i.toNat sz es (cx.T e).zc K
         |false=>False
       |false=>False
      |_=>False
     |_=>False
    |_=>False
   |_=>False
  |none=>False
 |_=>False
def VO(cx:Cx)(all l:List Oper)(st:St)(K:St→Prop):Prop :=
 match l with
 | []=>K st
 | [o]=>HN cx false all o st K
 |o::o2::r=>match UM o o2 with
  |true=>fQ cx o st fun EA=>VO cx all r EA K
  |false=>HN cx false all o st fun EA=>VO cx all (o2::r) EA K
def VW:AV→List Nat
 |.ref r _=>[r]
 |.mref r=>[r]
 |_=>[]
def oK:List AV→List Nat
 | []=>[]
 |a::r=>VW a++oK r
def VX:AV→List Nat
 |.agg cs=>oK cs
 |.clo _ cs=>oK cs
 |a=>VW a
def sw:List AV→List Nat
 | []=>[]
 |a::r=>VX a++sw r
def YS:AV→List Nat
 |.agg cs=>sw cs
 |a=>VX a
def UE:List AV→List Nat
 | []=>[]
 |a::r=>YS a++UE r
abbrev FZ:=List Nat×Option Nat
def Jj(d:Option Nat)(l:List Nat):Option FZ:=match d with | some d=>some (d::l,some d) | none=>none
def gW:AV→List Nat
 |.msl r _=>[r]
 |_=>[]
def X7(d:Option Nat)(s x:AV):Option FZ :=
 match s with
 |.v (.slice none 0 0)=>Jj (d.map (Lr cx)) (gW x)
 |.slice (.full _) _=>Jj (d.map (Lr cx)) (gW x)
 |.slice (.id r _) _=>Jj (some r) (gW x)
 |.msl r _=>Jj (some r) (gW x)
 |_=>none
def dF(d:Option Nat)(args:List AV):Option FZ :=
 match d with
 |some d=>match args with
  |.msl r _::_=>some ([r,BA d 0],some (r+10000000*BA d 0))
  |_=>none
 |none=>none
theorem bZ{d:Option Nat}{args:List AV}{f:FZ}(h:dF d args=some f):∃d' r n l,d=some d'∧args=.msl r n::l∧f=([r,BA d' 0],some (r+10000000*BA d' 0)):=by
 unfold dF at h;split at h
 ·split at h
  ·cases h;exact⟨_,_,_,_,rfl,rfl,rfl⟩
  ·cases h
 ·cases h
def ka(d:Option Nat)(x:AV):Option FZ :=
 match d with
 |some d=>match x with
  |.msl r _=>some ([r,d],some (r+10000000*d))
  |_=>none
 |none=>none
theorem ca{d:Option Nat}{x:AV}{f:FZ}(h:ka d x=some f):∃d' r n,d=some d'∧x=.msl r n∧f=([r,d'],some (r+10000000*d')):=by
 unfold ka at h;split at h
 ·split at h
  ·cases h;exact⟨_,_,_,rfl,rfl,rfl⟩
  ·cases h
 ·cases h
def kb(args:List AV):Option FZ:=match XC args with | some _=>some ([1000,1001],some 10010001000) | none=>none
def XP:Nat:=99999999999999
def j9(k:Nat)(d:Option Nat)(args:List AV):Option FZ :=
 match Nat.beq k 3 with
 |true=>some (nX,some XP)
 |false=>dF d args
def Hs(d:Option Nat)(c:Callee)(t:Nat→AV)(args:List AV):Option FZ :=
 match c,args with
 |.builtin .len,[.mref r]=>some ([r],none)
 |.builtin .len,[_]=>some ([],none)
 |.builtin .max,_=>some ([],none)
 |.builtin .min,_=>some ([],none)
 |.builtin .append,[s,x]=>X7 cx d s x
 |.value f,args=>match Oz cx.pl.dc d with
  |none=>some (YS (ev t f)++UE args,none)
  |some 0=>Jj (d.map fun d=>BA d 0) (YS (ev t f)++UE args)
  |some 1=>match args with |.msl r _::_=>some ([r],some r) |_=>none
  |some (k+2)=>match Nat.beq k 1 with
   |true=>Jj (d.map fun d=>BA d 0) (YS (ev t f)++UE args)
   |false=>match Nat.beq k 2 with
    |true=>kb args
    |false=>j9 k d args
 |_,_=>none
def FL(o:Oper)(st:St):Option FZ :=
 match o.op with
 |.move _ |.pick .. |.nilCheck _ |.unOp .. |.convert .. |.fieldAddr .. |.field .. |.indexAddr .. |.index .. |.extract .. |.build ..=>some ([],none)
 |.binOp _ _ x _ _=>match ev st.t x with |.slice ..=>none |_=>some ([],none)
 |.assign x=>match ev st.t x with |.v (.slice ..)=>none |_=>some ([],none)
 |.load _ p=>match ev st.t p with |.cptr _=>some ([],none) |.ref r _=>some ([r],none) |.eref r ..=>some ([r],none) |_=>none
 |.call c=>Hs cx o.dst c.callee st.t (c.args.toList.map (ev st.t))
 |.alloc _=>Jj o.dst []
 |.box _ x=>Jj o.dst (YS (ev st.t x))
 |.buildSlice _ _ ps=>Jj (o.dst.map (Lr cx)) (UE (ps.toList.map fun p=>ev st.t p.2))
 |.store _ p x=>match ev st.t p with
  |.ref r _=>match JB cx.pl.frz r with |true=>none |false=>Jj (some r) []
  |.eref r ..=>Jj (some r) (YS (ev st.t x))
  |_=>none
 |.slice _ x _ _ mx=>match Oz cx.pl.tok o.dst with
  |some _=>ka (o.dst.map (Lr cx)) (ev st.t x)
  |none=>match mx,ev st.t x with
   |none,.msl ..=>none
   |none,_=>some ([],none)
   |some _,.slice ..=>Jj o.dst []
   |_,_=>none
 |.makeFunc _ _ cap=>some (UE (cap.toList.map (ev st.t)),none)
 |.mapUpdate _ m _ x=>match ev st.t m with |.mref r=>Jj (some r) (YS (ev st.t x)) |_=>none
 |.makeSlice ..=>Jj (o.dst.map (Lr cx)) []
 |.lookup _ m _ _=>match ev st.t m with |.cmap ..=>some ([],none) |.mref r=>some ([r],none) |_=>none
 |.makeMap ..=>Jj o.dst []
 |_=>none
def Og(all:List Oper)(o:Oper)(st:St):Option FZ :=
 match o.guard with
 |none=>FL cx o st
 |some (j,want)=>match K5 all j with
  |none=>none
  |some d=>match st.t d,want with
   |.v (.bool true),true=>FL cx o st
   |.v (.bool false),false=>FL cx o st
   |_,_=>some ([],none)
def wA(l:List Nat):Bool:=match l with | []=>true | _=>false
def aH(l:List Nat)(r:Nat):Bool:=bif Nat.beq r XP then wA l else !JB l r&&(Nat.blt r 10000000||(!JB l (r % 10000000)&&!JB l (r / 10000000)))
def Ue(a b:FZ):Bool :=
 (match a.2 with | some r=>aH b.1 r | none=>true)&&(match b.2 with | some r=>aH a.1 r | none=>true)
def Qe(i:Nat)(D:List Nat):Bool:=o.after.toList.any fun e=>Region.binds .any e&&(Nat.beq e.on i||JB D e.on)
def Rj(i:Nat)(D:List Nat)(k:Nat):List Oper→List Nat
 | []=>D
 |o::r=>match Qe o i D with
  |true=>Rj i (k::D) (k+1) r
  |false=>Rj i D (k+1) r
def Vw(i:Nat)(D:List Nat)(k:Nat):List Oper→Bool
 | []=>true
 |o::r=>(Qe o i D||!JB D k)&&Vw i D (k+1) r
def Jf(ops:Array Oper)(oi:Oper)(fi:FZ)(D:List Nat)(k:Nat):List Oper→List FZ→Bool
 |o::r,f::fs=>(JB D k||(oi.apart ops o&&Ue fi f))&&Jf ops oi fi D (k+1) r fs
 | [],[]=>true
 |_,_=>false
def MU(ops:Array Oper)(all:List Oper)(k:Nat):List Oper→List FZ→Bool
 |o::r,f::fs =>
  let D:=Rj k [] 0 all
  (o.after.toList.all fun e=>!Region.binds .any e||Nat.blt e.on k)&&Vw k D 0 all&&(D.all fun j=>Nat.blt k j&&Nat.blt j all.length)&&Jf ops o f D (k+1) r fs&&MU ops all (k+1) r fs
 | [],[]=>true
 |_,_=>false
def Uf(ops:Array Oper)(fs:List FZ):Bool:=Region.noSelect ops&&MU ops ops.toList 0 ops.toList fs
def Y2(cx:Cx)(ops:Array Oper)(l:List Oper)(fs:List FZ)(st:St)(K:St→Prop):Prop :=
 match l with
 | []=>Uf ops fs.reverse=true∧K st
 |o::r=>match Og cx ops.toList o st with
  |some f=>HN cx true ops.toList o st fun EA=>Y2 cx ops r (f::fs) EA K
  |none=>False
def Ui(l:List (Nat×AV))(i:Nat):AV:=match l with | []=>.junk | (j,v)::r=>bif Nat.beq i j then v else Ui r i
structure LS where
 t:List (Nat×AV)
 h:List (Nat×HO)
 hb:Nat→HO
def LS.st(s:LS):St:=⟨Ui s.t,Ak s.h s.hb⟩
def Tf(h:Nat→HO)(r:Nat):Bool:=match h r with | .free=>false | _=>true
def ids0(h:Nat→HO):AV→Bool
 |.slice (.id r _) _=>Tf h r
 |.slice (.ver r _ _) _=>Tf h r
 |.msl r _=>Tf h r
 |.ref r _=>Tf h r
 |.eref r _ _ _ _=>Tf h r
 |.mref r=>Tf h r
 |.agg _ |.tup _ |.clo ..=>false
 |_=>true
def ZV(h:Nat→HO):List AV→Bool
 | []=>true
 |a::r=>match ids0 h a with |true=>ZV h r |false=>false
def VY(h:Nat→HO):AV→Bool
 |.agg cs=>ZV h cs
 |.tup cs=>ZV h cs
 |.clo _ cs=>ZV h cs
 |a=>ids0 h a
def Sz(h:Nat→HO):List (Value×AV)→Bool
 | []=>true
 |p::r=>match VY h p.2 with |true=>Sz h r |false=>false
def oL(h:Nat→HO):List AV→Bool
 | []=>true
 |a::r=>match VY h a with |true=>oL h r |false=>false
def ZU(h:Nat→HO):HO→Bool
 |.cells cs=>oL h cs
 |.mapU _ B8=>Sz h B8
 |.hol _ _ _ _ a=>VY h a
 |_=>true
def yr(st:St)(h:Nat→HO):List (Nat×AV)→Prop
 | []=>True
 |(j,a)::r=>(st.t j=a∧VY h a=true)∧yr st h r
def yq(st:St)(h:Nat→HO):List (Nat×HO)→Prop
 | []=>True
 |(j,o)::r=>(st.h j=o∧ZU h o=true)∧yq st h r
def St.le(st:St)(s:LS):Prop :=
 yr st s.st.h s.t∧yq st s.st.h s.h∧(∀j,s.hb j=.free∨(st.h j=s.hb j∧ZU s.st.h (s.hb j)=true)) ∧
 match cx.ext with
 |false=>True
 |true=>∀j,1000≤j→j<2000→st.h j≠.free→s.st.h j≠.free
def Nw(ops:Array Oper)(dr:Bool)(st:St)(K:St→Prop):Prop :=
 match dr with
 |false=>VO cx ops.toList ops.toList st K
 |true=>Y2 cx ops ops.toList [] st K
inductive Ex | normal | exit (id:Nat) | ret
def yQ(h:Nat→HO)(o k:Nat)(K:(Nat→HO)→Prop):Prop :=
 match h o with
 |.cells cs=>match JV cs k with
  |.msl r n=>match h r with
   |.arr sz es=>n=es.length∧K (A0 (A0 h r (.tok sz es.length)) o (.cells (E1 cs k (.slice (.id r sz) es))))
   |_=>K h
  |_=>K h
 |_=>K h
def yO(h:Nat→HO)(o k j:Nat)(K:(Nat→HO)→Prop):Prop :=
 match h o with
 |.cells cs=>match JV cs k with
  |.msl r n=>match h r with
   |.arr sz es=>match h j with
    |.free=>n=es.length∧K (A0 (A0 (A0 h r .dead) j (.arr sz es)) o (.cells (E1 cs k (.msl j n))))
    |_=>False
   |_=>False
  |_=>False
 |_=>False
def uvK(h:Nat→HO)(o k d:Nat)(K:(Nat→HO)→Prop):Prop :=
 match h o with
 |.cells cs=>match JV cs k with
  |.slice (.ver r sz v) es=>match h r with
   |.var G2 v' _=>match h d with
    |.free=>(v=v'∧sz=G2)∧K (A0 (A0 (A0 h r (.vox v)) d (.tok sz es.length)) o (.cells (E1 cs k (.slice (.id d sz) es))))
    |_=>False
   |_=>False
  |_=>K h
 |_=>False
def yA(h:Nat→HO)(o k r:Nat)(K:(Nat→HO)→Prop):Prop :=
 match h o with
 |.cells cs=>match JV cs k with
  |.slice (.id d sz) es=>match h d with
   |.tok G2 n=>match h r with
    |.vox v=>(es.length=n∧sz=G2)∧K (A0 (A0 (A0 h d .dead) r (.var sz (v+1) n)) o (.cells (E1 cs k (.slice (.ver r sz (v+1)) es))))
    |_=>False
   |_=>False
  |_=>K h
 |_=>False
def nvK(h:Nat→HO)(r:Nat)(K:(Nat→HO)→Prop):Prop :=
 match h r with
 |.free=>K (A0 h r (.vox 0))
 |_=>False
def yz(h:Nat→HO)(o k:Nat)(K:(Nat→HO)→Prop):Prop :=
 match h o with
 |.cells cs=>match JV cs k with
  |.mref r=>match h r with
   |.rom sh B8=>K (A0 h o (.cells (E1 cs k (.cmap sh B8))))
   |_=>False
  |_=>False
 |_=>False
def zaK(h:Nat→HO)(o k j sz:Nat)(K:(Nat→HO)→Prop):Prop :=
 match h o with
 |.cells cs=>match JV cs k with
  |.v (.slice none 0 0)=>match h j with
   |.free=>K (A0 (A0 h j (.arr sz [])) o (.cells (E1 cs k (.msl j 0))))
   |_=>False
  |_=>False
 |_=>False
def zX(id:Nat)(h:Nat→HO)(K:(Nat→HO)→Prop):Prop :=
 match Hh cx.pl.ak (850000+id)with
 |some v=>K (kf h v)
 |none=>K h
def yw(id:Nat)(h:Nat→HO)(K:(Nat→HO)→Prop):Prop :=
 match Hh cx.pl.ak (800000+id)with
 |some v=>yz h (v % 10000) (v / 10000 % 100) K
 |none=>K h
def wQ(id:Nat)(h:Nat→HO)(K:(Nat→HO)→Prop):Prop :=
 match Hh cx.pl.ak (810000+id)with
 |some v=>yz h (v % 10000) (v / 10000 % 100) K
 |none=>K h
def uf(id:Nat)(h:Nat→HO)(K:(Nat→HO)→Prop):Prop :=
 match Hh cx.pl.ak (900000+id)with
 |some v=>zaK h (v % 10000) (v / 10000 % 100) (v / 1000000 % 10000) (v / 10000000000) K
 |none=>K h
def hoK(h:Nat→HO)(r:Nat)(K:(Nat→HO)→Prop):Prop :=
 match h r with
 |.hol sz es i c (.msl j m)=>match Nat.beq r j with
  |true=>False
  |false=>match h j with
   |.arr ff qs=>m=qs.length∧∃cs,es[i]?=some cs∧c<sz∧K (A0 (A0 (A0 h j (.tok ff qs.length)) j .dead) r (.arr sz (es.set i (over cs c [.slice .none qs]))))
   |_=>False
 |_=>False
def tj(id:Nat)(h:Nat→HO)(K:(Nat→HO)→Prop):Prop :=
 match Hh cx.pl.ak (500000+id)with
 |some v=>uvK h (v % 10000) (v / 10000 % 100) (v / 1000000) K
 |none=>match Hh cx.pl.ak (600000+id)with
  |some v=>yA h (v % 10000) (v / 10000 % 100) (v / 1000000) K
  |none=>match Hh cx.pl.ak (700000+id)with
   |some v=>nvK h v K
   |none=>match Hh cx.pl.ak (950000+id)with
    |some v=>hoK h v K
    |none=>zX cx id h fun h=>yw cx id h fun h=>wQ cx id h fun h=>uf cx id h K
def yP(st:St)(s k:Nat)(K:St→Prop):Prop :=
 match st.t s with
 |.msl r n=>match st.h r with
  |.arr sz es=>match k with
   |0=>n=es.length∧K ⟨HI st.t s (.slice .none es),A0 (A0 st.h r (.tok sz es.length)) r .dead⟩
   |k+1=>match Nat.beq r (k+1)with
    |true=>K st
    |false=>match st.h (k+1)with
     |.free=>n=es.length∧K ⟨HI st.t s (.msl (k+1) n),A0 (A0 st.h r .dead) (k+1) (.arr sz es)⟩
     |_=>False
  |_=>K st
 |_=>K st
def uQ(id:Nat)(st:St)(K:St→Prop):Prop :=
 match JB cx.pl.cut id with
 |true=>match Hh cx.pl.ak (100000+id)with
  |none=>match Hh cx.pl.ak (200000+id)with
   |none=>match Hh cx.pl.ak (300000+id)with
    |none=>tj cx id st.h fun h'=>∃s:LS,St.le cx ⟨st.t,h'⟩ s∧K s.st
    |some v=>yO st.h (v % 10000) (v / 10000 % 100) (v / 1000000) fun h'=>∃s:LS,St.le cx ⟨st.t,h'⟩ s∧K s.st
   |some v=>yP st (v % 1000) (v / 1000) fun EA=>∃s:LS,St.le cx EA s∧K s.st
  |some v=>yQ st.h (v % 1000) (v / 1000) fun h'=>∃s:LS,St.le cx ⟨st.t,h'⟩ s∧K s.st
 |false=>K st
def Re(cx:Cx)(c:Code)(Q:Ex→St→Prop)(st:St):Prop :=
 match c with
 |.skip=>Q .normal st
 |.label _=>Q .normal st
 |.region id ops dr=>uQ cx id st fun st=>match cx.pl.dyn with
  | []=>Nw cx ops dr st (Q .normal)
  |_=>∃n,Nw { cx with nid:=n } ops dr st (Q .normal)
 |.seq a b=>Re cx a (fun e EA=>match e with |.normal=>Re cx b Q EA |e=>Q e EA) st
 |.cond c a b=>match ev st.t c with
  |.v (.bool true)=>Re cx a Q st
  |.v (.bool false)=>Re cx b Q st
  |_=>False
 |.block id c=>Re cx c (fun e EA=>match e with |.exit j=>(bif Nat.beq j id then Q .normal EA else Q (.exit j) EA) |e=>Q e EA) st
 |.loop c=>∃(α:Type) (I:α→LS) (μ:α→Nat),(∃x,St.le cx st (I x)) ∧
   ∀x,Re cx c (fun e EA=>match e with | .normal=>∃y,μ y<μ x∧St.le cx EA (I y) | e=>Q e EA) (I x).st
 |.exit id=>Q (.exit id) st
 |.ret=>Q .ret st
 |_=>False
def PN:List AV→Nat→AV
 | [],_=>.v undef
 |a::r,n=>match n with |0=>a |n+1=>PN r n
def po(T:G4)(st:St):List ResultVar→(List AV→Prop)→Prop
 | [],K=>K []
 |.tmp i::r,K=>po T st r fun l=>K (str st.h (st.t i)::l)
 |.cell a t::r,K=>IZ T st.h t (st.t a) fun v=>po T st r fun l=>K (str st.h v::l)
def pm(st:St)(rs:List ResultVar)(K:AV→Prop):Prop :=
 po cx.T ⟨st.t,Qc st.h cx.pl.fin⟩ rs fun
  | [v]=>K v
  |vs=>K (.tup vs)
def rH(rs:List ResultVar)(K:AV→Prop)(e:Ex)(st:St):Prop :=
 match e with
 |.normal=>pm cx st rs K
 |.ret=>pm cx st rs K
 |.exit _=>False
def pp(T:G4)(st:St):List ResultVar→(List AV→Prop)→Prop
 | [],K=>K []
 |.tmp i::r,K=>pp T st r fun l=>K (st.t i::l)
 |.cell a t::r,K=>IZ T st.h t (st.t a) fun v=>pp T st r fun l=>K (v::l)
def ip(st:St)(rs:List ResultVar)(σ:JO)(Q:AV→(Nat→HO)→Prop):Prop :=
 pp cx.T ⟨st.t,Qc st.h cx.pl.fin⟩ rs fun
  | [v]=>Q (ren (CC σ) (Qc st.h cx.pl.fin) v) (F4 σ (Qc st.h cx.pl.fin))
  |vs=>Q (ren (CC σ) (Qc st.h cx.pl.fin) (.tup vs)) (F4 σ (Qc st.h cx.pl.fin))
def Zi(rs:List ResultVar)(σ:JO)(Q:AV→(Nat→HO)→Prop)(e:Ex)(st:St):Prop :=
 match e with
 |.normal=>ip cx st rs σ Q
 |.ret=>ip cx st rs σ Q
 |.exit _=>False
def Ji(σ:JO):List (Nat×HO)→Bool
 | []=>true
 |(i,_)::r=>Nat.ble 1000 i&&Nat.blt i 2000&&(match CC σ i with |some j=>Nat.beq j i |none=>false)&&Ji σ r
theorem yN{n m:Nat}{b:Prop}(k:b)(h:n ≤ m := by exact GA rfl):n ≤ m ∧ b := ⟨h,k⟩
abbrev Ce:AV := .v (.slice none 0 0)
abbrev pC(a c:List Nat):Q0 := ⟨a,[],[],[],[],[],[],[],[],[],c⟩
abbrev pT(a:List Nat)(b:List (Nat×Nat))(c:List Nat):Q0 := ⟨a,b,[],[],[],[],[],[],[],[],c⟩
end Go.Eng
