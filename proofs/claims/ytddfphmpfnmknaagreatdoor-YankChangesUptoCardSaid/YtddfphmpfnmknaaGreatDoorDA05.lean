/- Lemmas for the claims of this seat, without a condition: part 5 (EngA). -/
import Derived.Test.YtddfphmpfnmknaaGreatDoorDA00
import Derived.WalkKit
import Derived.Still
import Derived.RangeFuncSeq
import Derived.OrdersIn
import Derived.TacticsIn
namespace Go.Eng
inductive Tk | none | full (sz:Nat) | id (r sz:Nat) | ver (r sz v:Nat)
inductive KS | int (k:IntKind) | str | bool
structure ET where
 agg:Bool
 l:List KS
inductive AV
 |v (x:Value)
 |slice (tk:Tk) (es:List (List AV))
 |msl (r n:Nat)
 |agg (cs:List AV)
 |tup (vs:List AV)
 |cptr (cs:List AV)
 |ref (r off:Nat)
 |eref (r n sz i off:Nat)
 |mref (r:Nat)
 |cmap (sh:ET) (B2:List (Value×AV))
 |clo (f:Nat) (caps:List AV)
 |junk
inductive HO
 |free
 |dead
 |cells (cs:List AV)
 |ro (cs:List AV)
 |tok (sz n:Nat)
 |var (sz v n:Nat)
 |vox (v:Nat)
 |arr (sz:Nat) (es:List (List AV))
 |map (sh:ET) (B2:List (Value×AV))
 |mapU (sh:ET) (B2:List (Value×AV))
 |rom (sh:ET) (B2:List (Value×AV))
 |iter (all rem:List (Value×AV)) (FN:Option (Value×AV))
 |raw (b:Nat) (ob:Obj)
 |hol (sz:Nat) (es:List (List AV)) (i c:Nat) (a:AV)
structure St where
 t:Nat→AV
 h:Nat→HO
def Aa:Nat→HO:=fun _=>.free
def A0(h:Nat→HO)(r:Nat)(o:HO):Nat→HO:=fun i=>bif Nat.beq i r then o else h i
def Hh(t:Nat→AV)(d:Nat)(v:AV):Nat→AV:=fun i=>bif Nat.beq i d then v else t i
def St.put(st:St)(d:Option Nat)(v:AV)(h:Nat→HO):St :=
 match d with
 |none=>⟨st.t,h⟩
 |some d=>⟨Hh st.t d v,h⟩
def ev(t:Nat→AV):Operand→AV
 |.tmp i=>t i
 |.const v=>.v v
 |.global g=>.v (.pointer (some ⟨g,0,none⟩))
 |.func f=>.v (.func (.func f) #[] #[])
inductive TD
 |int (k:IntKind) |bool |string |slice (e:Nat) |array (n e:Nat) |struct (fs:List (Nat×Nat)) |ptr (e:Nat) |map (k e:Nat) |func |iface |other
structure TI where
 d:TD
 size:Nat
 bytes:Nat
 zero:Value
 eqok:Bool
def TI.zc(i:TI):List Value:=match i.zero with | .agg cs=>cs.toList | v=>[v]
abbrev GK:=Nat→TI
structure RE where
 frz:List Nat
 tok:List (Nat×Nat)
 arr:List (Nat×Nat)
 fz:List (Nat×List Nat)
 fin:List Nat
 mku:List Nat
 dyn:List Nat
 tz:List (Nat×(Nat×Nat×Nat×Nat))
 dc:List (Nat×Nat)
 ak:List (Nat×Nat)
 cut:List Nat
def IU(l:List Nat)(n:Nat):Bool :=
 match l with
 | []=>false
 |x::r=>bif Nat.beq x n then true else IU r n
def GR(l:List (Nat×Nat))(n:Nat):Option Nat :=
 match l with
 | []=>none
 |(x,y)::r=>bif Nat.beq x n then some y else GR r n
def str0(h:Nat→HO):AV→AV
 |.slice _ es=>.slice .none es
 |.ref r off=>match h r with |.ro cs=>.cptr (cs.drop off) |_=>.junk
 |.mref r=>match h r with |.rom sh B2=>.cmap sh B2 |_=>.junk
 |.v x=>.v x
 |.cptr cs=>.cptr cs
 |.cmap s m=>.cmap s m
 |_=>.junk
def str(h:Nat→HO):AV→AV
 |.agg cs=>.agg (cs.map (str0 h))
 |.clo f cs=>.clo f (cs.map (str0 h))
 |a=>str0 h a
def RQ(h:Nat→HO)(B2:List (Value×AV)):List (Value×AV):=B2.map fun p=>(p.1,str h p.2)
def fV(h:Nat→HO)(r:Nat):Nat→HO :=
 match h r with
 |.cells cs=>A0 h r (.ro (cs.map (str h)))
 |.map sh B2=>A0 h r (.rom sh B2)
 |.mapU sh B2=>A0 h r (.rom sh (RQ h B2))
 |_=>h
def OY(h:Nat→HO):List Nat→Nat→HO
 | []=>h
 |r::l=>OY (fV h r) l
def np(l:List (Nat×List Nat))(n:Nat):List Nat :=
 match l with
 | []=>[]
 |(x,y)::r=>bif Nat.beq x n then y else np r n
def qr(l:List (Nat×(Nat×Nat×Nat×Nat)))(n:Nat):Option (Nat×Nat×Nat×Nat) :=
 match l with
 | []=>none
 |(x,y)::r=>bif Nat.beq x n then some y else qr r n
def Jg(l:List AV)(n:Nat):AV :=
 match l with
 | []=>.junk
 |x::r=>match n with |0=>x |n+1=>Jg r n
def EK(cs:List AV)(o:Nat)(v:AV):List AV :=
 match cs with
 | []=>[]
 |c::cs=>match o with |0=>v::cs |o+1=>c::EK cs o v
def uG(h:Nat→HO)(r k j sz:Nat):Nat→HO :=
 match h r with
 |.cells cs=>match Jg cs k with
  |.v (.slice none 0 0)=>match h j with
   |.free=>A0 (A0 h j (.tok sz 0)) r (.cells (EK cs k (.slice (.id j sz) [])))
   |_=>h
  |_=>h
 |_=>h
def rsv(h:Nat→HO):AV→AV
 |.ref r off=>match h r with |.ro cs=>.cptr (cs.drop off) |_=>.ref r off
 |.mref r=>match h r with |.rom sh B2=>.cmap sh B2 |_=>.mref r
 |a=>a
def one:AV→Bool
 |.v x=>x.oneCell'
 |.agg _ |.tup _ |.junk=>false
 |_=>true
def Hb:List AV→Bool
 | []=>true
 |a::r=>match one a with |true=>Hb r |false=>false
def tU:AV→List AV
 |.agg cs=>cs
 |a=>[a]
def Bi(a:Int):Prop:=-9223372036854775808≤a∧a<9223372036854775808
def Mc(cs:List AV)(K:AV→Prop):Prop :=
 match cs with
 |a::_=>K a
 | []=>False
def I1(p:Prop)(K:AV→Prop):Prop:=(p→K (.v (.bool true)))∧(¬p→K (.v (.bool false)))
def LG(T:GK)(t:Nat)(cs:List AV)(K:AV→Prop):Prop :=
 match(T t).d with
 |.struct _=>(T t).size≤cs.length∧K (.agg (cs.take (T t).size))
 |.array _ _=>(T t).size≤cs.length∧K (.agg (cs.take (T t).size))
 |.bool=>Mc cs fun |.v (.bool b)=>(b=true→K (.v (.bool true)))∧(b=false→K (.v (.bool false))) |_=>False
 |.other=>False
 |_=>Mc cs K
def mn:List AV→List AV→Prop
 | [],[]=>True
 |.v (.int _ a)::r,.v (.int _ b)::s=>a=b∧mn r s
 |.v (.string a)::r,.v (.string b)::s=>a=b∧mn r s
 |.v (.bool a)::r,.v (.bool b)::s=>a=b∧mn r s
 |_,_=>False
def qf:IntKind→IntKind→Bool
 |.i64,.i64 |.u8,.u8 |.u32,.u32 |.i32,.i32 |.u64,.u64 |.u16,.u16 |.i16,.i16 |.i8,.i8=>true
 |_,_=>false
def NP(f:Nat→Option (List KS)):Nat→List (Nat×Nat)→Option (List KS)
 |_,[]=>some []
 |n,(t,o)::r=>match Nat.beq o n with
  |true=>match f t with
   |some a=>match NP f (n+a.length) r with
    |some b=>some (a++b)
    |none=>none
   |none=>none
  |false=>none
def HL(T:GK):Nat→Nat→Option (List KS)
 |0,_=>none
 |n+1,t=>match(T t).d with
  |.int k=>match(T t).size with |1=>some [.int k] |_=>none
  |.string=>match(T t).size with |1=>some [.str] |_=>none
  |.bool=>match(T t).size with |1=>some [.bool] |_=>none
  |.struct fs=>match(T t).eqok with
   |true=>match NP (HL T n) 0 fs with
    |some l=>match Nat.beq l.length (T t).size with |true=>some l |false=>none
    |none=>none
   |false=>none
  |_=>none
def Nt:KS→Value→Bool
 |.int k,.int k' _=>qf k k'
 |.str,.string _=>true
 |.bool,.bool _=>true
 |_,_=>false
def Yn:List KS→List AV→Bool
 | [],[]=>true
 |k::r,.v x::s=>match Nt k x with |true=>Yn r s |false=>false
 |_,_=>false
def pP(T:GK)(t:Nat)(x y:AV)(K:AV→Prop):Prop :=
 match(T t).d with
 |.bool=>match x,y with
  |.v (.bool a),.v (.bool b)=>K (.v (.bool (a == b)))
  |_,_=>False
 |.struct _=>match x,y with
  |.agg xs,.agg ys=>match HL T 8 t with
   |some l=>match Yn l xs with
    |true=>match Yn l ys with
     |true=>I1 (mn xs ys) K
     |false=>False
    |false=>False
   |none=>False
  |_,_=>False
 |.slice _=>match x,y with
  |.slice _ es,.v (.slice none 0 0)=>(es≠[]→K (.v (.bool false)))∧(es=[]→K (.v (.bool true))∧K (.v (.bool false)))
  |.v (.slice none 0 0),.v (.slice none 0 0)=>K (.v (.bool true))
  |_,_=>False
 |.ptr _=>match x,y with
  |.v (.pointer none),.v (.pointer none)=>K (.v (.bool true))
  |.cptr _,.v (.pointer none)=>K (.v (.bool false))
  |.ref _ _,.v (.pointer none)=>K (.v (.bool false))
  |.eref _ _ _ _ _,.v (.pointer none)=>K (.v (.bool false))
  |_,_=>False
 |_=>False
def di(K:AV→Prop):AV→Prop
 |.v (.bool true)=>K (.v (.bool false))
 |.v (.bool false)=>K (.v (.bool true))
 |_=>False
def U3(op:BinOp)(k:IntKind)(a b:Int):Int :=
 match op with
 |.and=>k.wrap (BitVec.ofInt k.bits a &&& BitVec.ofInt k.bits b).toNat
 |.or=>k.wrap (BitVec.ofInt k.bits a |||BitVec.ofInt k.bits b).toNat
 |_=>k.wrap (BitVec.ofInt k.bits a ^^^ BitVec.ofInt k.bits b).toNat
def l7(op:BinOp)(k:IntKind)(a b:Int):Int :=
 match op with
 |.shl=>k.wrap (a*2 ^ min b.toNat k.bits)
 |_=>a.fdiv (2 ^ min b.toNat k.bits)
def Ug(op:BinOp)(k:IntKind)(a b:Int)(K:AV→Prop):Prop :=
 match op with
 |.shl=>0≤b∧K (.v (.int k (l7 .shl k a b)))
 |.shr=>0≤b∧K (.v (.int k (l7 .shr k a b)))
 |_=>False
def Wp(op:BinOp)(k:IntKind)(a b:Int)(K:AV→Prop):Prop :=
 match op with
 |.quo=>(0≤a∧0<b∧k.wrap (a / b)=a / b)∧K (.v (.int k (a / b)))
 |.rem=>(0≤a∧0<b)∧K (.v (.int k (a % b)))
 |.and=>K (.v (.int k (U3 .and k a b)))
 |.or=>K (.v (.int k (U3 .or k a b)))
 |.xor=>K (.v (.int k (U3 .xor k a b)))
 |.add=>K (.v (.int k (k.wrap (a+b))))
 |.sub=>K (.v (.int k (k.wrap (a-b))))
 |.mul=>K (.v (.int k (k.wrap (a*b))))
 |op=>Ug op k a b K
def SB(op:BinOp)(k:IntKind)(a b:Int)(K:AV→Prop):Prop :=
 match k with
 |.i64=>match op with
  |.add=>Bi (a+b)∧K (.v (.int .i64 (a+b)))
  |.sub=>Bi (a-b)∧K (.v (.int .i64 (a-b)))
  |.mul=>Bi (a*b)∧K (.v (.int .i64 (a*b)))
  |.quo=>(0≤a∧0<b∧Bi a)∧K (.v (.int .i64 (a / b)))
  |.rem=>(0≤a∧0<b)∧K (.v (.int .i64 (a % b)))
  |op=>Wp op .i64 a b K
 |k=>Wp op k a b K
def SE(T:GK)(op:BinOp)(t:Nat)(x y:AV)(K:AV→Prop):Prop :=
 match x,y with
 |.v (.int k a),.v (.int k' b)=>match qf k k' with
  |false=>Ug op k a b K
  |true=>match op with
   |.eql=>I1 (a=b) K
   |.neq=>I1 (a≠b) K
   |.lss=>I1 (a<b) K
   |.leq=>I1 (a≤b) K
   |.gtr=>I1 (b<a) K
   |.geq=>I1 (b≤a) K
   |op=>SB op k a b K
 |.v (.string a),.v (.string b)=>match op with
   |.eql=>I1 (a=b) K
   |.neq=>I1 (a≠b) K
   |.lss=>I1 (Op.bytesLess a.toList b.toList=true) K
   |.geq=>I1 (Op.bytesLess a.toList b.toList=false) K
   |.gtr=>I1 (Op.bytesLess b.toList a.toList=true) K
   |.leq=>I1 (Op.bytesLess b.toList a.toList=false) K
   |.add=>((a.size+b.size:Nat):Int)≤9223372036854775807∧K (.v (.string (a++b)))
   |_=>False
 |x,y=>match op with
  |.eql=>pP T t x y K
  |.neq=>pP T t x y (di K)
  |_=>False
def Xx(T:GK)(op:BinOp)(t:Nat)(Y:Operand)(x y:AV)(K:AV→Prop):Prop :=
 match Y with
 |.const .nilIface=>match x with
  |.v .nilIface=>match(T t).d with
   |.iface=>match op with
    |.eql=>K (.v (.bool true))
    |.neq=>K (.v (.bool false))
    |_=>False
   |_=>False
  |_=>False
 |_=>SE T op t x y K
def XE(T:GK)(s t:Nat)(x:AV)(K:AV→Prop):Prop :=
 match(T s).d,(T t).d,x with
 |.int _,.int .i64,.v (.int _ n)=>Bi n∧K (.v (.int .i64 n))
 |.int _,.int k,.v (.int _ n)=>K (.v (.int k (k.wrap n)))
 |.string,.string,.v (.string s)=>K (.v (.string s))
 |.slice e,.string,.slice _ es=>match(T e).d with
  |.int .u8=>∃l:List UInt8,es=l.map (fun b=>[AV.v (.int .u8 b.toNat)])∧K (.v (.string ⟨l.toArray⟩))
  |_=>False
 |_,_,_=>False
def WD(fs:List (Nat×Nat))(n:Nat):Option (Nat×Nat) :=
 match fs with
 | []=>none
 |x::r=>match n with |0=>some x |n+1=>WD r n
def S8(T:GK)(s f:Nat)(x:AV)(K:AV→Prop):Prop :=
 match(T s).d with
 |.struct fs=>match WD fs f with
  |some (t,o)=>match(T t).size with
   |0=>False
   |_+1=>match x with
    |.cptr cs=>K (.cptr (cs.drop o))
    |.ref r off=>K (.ref r (off+o))
    |.eref r n z i off=>K (.eref r n z i (off+o))
    |_=>False
  |none=>False
 |_=>False
def YK(T:GK)(t:Nat)(cs:List AV)(K:AV→Prop):Prop:=LG T t cs K
def OO(T:GK)(s f:Nat)(x:AV)(K:AV→Prop):Prop :=
 match(T s).d,x with
 |.struct fs,.agg cs=>match WD fs f with
  |some (t,o)=>YK T t (cs.drop o) K
  |none=>False
 |_,_=>False
def JA(T:GK)(t:Nat)(x ix:AV)(K:AV→Prop):Prop :=
 match(T t).d,ix with
 |.slice e,.v (.int .i64 i)=>match(T e).size with
  |0=>False
  |_+1=>match x with
   |.slice _ es=>∃cs,(0≤i∧es[i.toNat]?=some cs)∧cs.length=(T e).size∧K (.cptr cs)
   |.msl r n=>(0≤i∧i<n)∧K (.eref r n (T e).size i.toNat 0)
   |_=>False
 |.array n e,.v (.int .i64 i)=>match(T e).size with
  |0=>False
  |_+1=>match x with
   |.cptr cs=>(0≤i∧i<n)∧K (.cptr (cs.drop (i.toNat*(T e).size)))
   |.ref r off=>(0≤i∧i<n)∧K (.ref r (off+i.toNat*(T e).size))
   |_=>False
 |_,_=>False
def TA(T:GK)(t:Nat)(x ix:AV)(K:AV→Prop):Prop :=
 match(T t).d,x,ix with
 |.string,.v (.string s),.v (.int .i64 i)=>∃b:UInt8,(0≤i∧s.data[i.toNat]?=some b)∧K (.v (.int .u8 b.toNat))
 |.array n e,.agg cs,.v (.int .i64 i)=>(0≤i∧i<n)∧YK T e (cs.drop (i.toNat*(T e).size)) K
 |_,_,_=>False
def B5(t:Nat→AV):Option Operand→Option (Option Int)
 |none=>some none
 |some x=>match ev t x with |.v (.int .i64 i)=>some (some i) |_=>none
def over{α:Type}(cs:List α)(o:Nat)(vs:List α):List α :=
 match cs with
 | []=>[]
 |c::cs=>match o with
  |o+1=>c::over cs o vs
  |0=>match vs with
   | []=>c::cs
   |v::vs=>v::over cs 0 vs
structure Gh where
 ρ:Nat→Value
 ln:Nat→Nat
 tk:Nat→Bool
 own:Nat→Option Nat
 S:Nat→Nat→Prop
def Jj:List KS→List Value→Bool
 | [],[]=>true
 |k::r,v::s=>match Nt k v with |true=>Jj r s |false=>false
 |_,_=>false
def VN(sh:ET)(v:Value):Bool :=
 match sh.agg,v with
 |true,.agg cs=>Jj sh.l cs.toList
 |false,v=>Jj sh.l [v]
 |_,_=>false
def Hk(sh:ET)(es:Array MapEntry)(ck:Nat)(B2:List (Value×AV)):Prop :=
 es.size=B2.length∧(∀(i:Nat) (kv:Value×AV) (e:MapEntry),B2[i]?=some kv→es[i]?=some e→e.key=kv.1) ∧
 (∀kv∈B2,VN sh kv.1=true)∧(B2.map (·.1)).Nodup∧(∀(i:Nat) (e:MapEntry),es[i]?=some e→e.born<ck) ∧
 ∀(i j:Nat) (e e' : MapEntry),es[i]?=some e→es[j]?=some e'→e.born=e'.born→i=j
inductive BH(g:Gh)(w:World):(Nat→Prop)→AV→Value→Prop
 |v (U:Nat→Prop) (x:Value):BH g w U (.v x) x
 |junk (U:Nat→Prop) (x:Value):BH g w U .junk x
 |snil (U:Nat→Prop) (a:Option Addr) (cap:Nat):BH g w U (.slice .none []) (.slice a 0 cap)
 |slice (U:Nat→Prop) (es:List (List AV)) (b off sz cap:Nat) (val:Nat→Nat→Value) (hc:es.length≤cap)
   (hl:∀(i:Nat) (cs:List AV),es[i]?=some cs→cs.length=sz)
   (DH:∀(i:Nat) (cs:List AV) (j:Nat) (av:AV),es[i]?=some cs→cs[j]?=some av →
    g.S b (off+i*sz+j)∧w.cell? ⟨b,off+i*sz+j,none⟩=some (val i j)∧(val i j).oneCell'=true)
   (Ep:∀(i:Nat) (cs:List AV) (j:Nat) (av:AV),es[i]?=some cs→cs[j]?=some av→BH g w (fun _=>False) av (val i j)) :
   BH g w U (.slice .none es) (.slice (some ⟨b,off,none⟩) es.length cap)
 |tok (U:Nat→Prop) (r sz:Nat) (es:List (List AV)) (x:Value) (h:BH g w U (.slice .none es) x) (hl:∀c∈es,c.length=sz) (hu:U r) (ht:g.tk r=true) (hn:es.length≤g.ln r)
   (hx:es.length=g.ln r→x=g.ρ r):BH g w U (.slice (.id r sz) es) x
 |ver (U:Nat→Prop) (r sz v:Nat) (es:List (List AV)) (x:Value) (h:BH g w U (.slice .none es) x) (hl:∀c∈es,c.length=sz) (hu:U r) (ht:g.tk r=true) (hn:v≤g.ln r)
   (hx:v=g.ln r→x=g.ρ r):BH g w U (.slice (.ver r sz v) es) x
 |full (U:Nat→Prop) (sz:Nat) (es:List (List AV)) (x:Value) (h:BH g w U (.slice .none es) x) (hl:∀c∈es,c.length=sz) (hx:∃a,x=.slice a es.length es.length):BH g w U (.slice (.full sz) es) x
 |msl (U:Nat→Prop) (r n:Nat) (a:Option Addr) (cap:Nat) (hu:U r) (ht:g.tk r=true) (hn:n≤g.ln r) (ha:n=0∨∃b,a=some ⟨b,0,none⟩) (hx:n=g.ln r→.slice a n cap=g.ρ r) :
   BH g w U (.msl r n) (.slice a n cap)
 |agg (U:Nat→Prop) (cs:List AV) (vs:Array Value) (hs:vs.size=cs.length) (h1:∀(i:Nat) (x:Value),vs[i]?=some x→x.oneCell'=true)
   (h:∀(i:Nat) (av:AV) (x:Value),cs[i]?=some av→vs[i]?=some x→BH g w U av x):BH g w U (.agg cs) (.agg vs)
 |tup (U:Nat→Prop) (cs:List AV) (vs:Array Value) (hs:vs.size=cs.length)
   (h:∀(i:Nat) (av:AV) (x:Value),cs[i]?=some av→vs[i]?=some x→BH g w U av x):BH g w U (.tup cs) (.tuple vs)
 |cptr (U:Nat→Prop) (cs:List AV) (b off:Nat) (val:Nat→Value)
   (DH:∀(j:Nat) (av:AV),cs[j]?=some av→g.S b (off+j)∧w.cell? ⟨b,off+j,none⟩=some (val j)∧(val j).oneCell'=true)
   (Ep:∀(j:Nat) (av:AV),cs[j]?=some av→BH g w (fun _=>False) av (val j)) :
   BH g w U (.cptr cs) (.pointer (some ⟨b,off,none⟩))
 |ref (U:Nat→Prop) (r off b:Nat) (hu:U r) (ht:g.tk r=false) (hx:g.ρ r=.pointer (some ⟨b,0,none⟩)):BH g w U (.ref r off) (.pointer (some ⟨b,off,none⟩))
 |eref (U:Nat→Prop) (r n sz i off b cap:Nat) (hu:U r) (ht:g.tk r=true) (hn:i<n∧n≤g.ln r) (hx:n=g.ln r→g.ρ r=.slice (some ⟨b,0,none⟩) n cap) :
   BH g w U (.eref r n sz i off) (.pointer (some ⟨b,i*sz+off,none⟩))
 |mref (U:Nat→Prop) (r b:Nat) (hu:U r) (ht:g.tk r=false) (hx:g.ρ r=.map (some b)):BH g w U (.mref r) (.map (some b))
 |cmap (U:Nat→Prop) (sh:ET) (B2:List (Value×AV)) (b:Nat) (es:Array MapEntry) (ck:Nat) (hS:g.S b 0) (hb:w.heap[b]?=some (.map es ck)) (hm:Hk sh es ck B2)
   (h:∀(i:Nat) (kv:Value×AV) (e:MapEntry),B2[i]?=some kv→es[i]?=some e→BH g w (fun _=>False) kv.2 e.val):BH g w U (.cmap sh B2) (.map (some b))
 |clo (U:Nat→Prop) (f:Nat) (cs:List AV) (vs:Array Value) (hs:vs.size=cs.length)
   (h:∀(i:Nat) (av:AV) (x:Value),cs[i]?=some av→vs[i]?=some x→BH g w U av x):BH g w U (.clo f cs) (.func (.func f) #[] vs)
def HO.live:HO→Prop
 |.free |.dead |.vox _ |.ro _ |.rom _ _=>False
 |_=>True
def AT(h:Nat→HO)(r:Nat):Prop:=h r≠.free
def Fy:Nat→Prop:=fun _=>False
def CI(g:Gh)(w:World)(U:Nat→Prop)(cs:List AV)(vs:List Value):Prop :=
 vs.length=cs.length∧(∀x∈vs,x.oneCell'=true)∧∀(i:Nat) (av:AV) (x:Value),cs[i]?=some av→vs[i]?=some x→BH g w U av x
def OB:List Nat→Code→Bool
 |bs,.block id c=>OB (id::bs) c
 |bs,.seq a b=>OB bs a||OB bs b
 |bs,.cond _ a b=>OB bs a||OB bs b
 |bs,.loop c=>OB bs c
 |bs,.exit id=>!(bs.any fun i=>Nat.beq i id)
 |_,_=>false
def qx:Obj→Bool
 |.loop r=>OB [] r.body
 |_=>false
def Ej(g:Gh)(w:World)(U:Nat→Prop)(r:Nat):HO→Prop
  |.free |.dead=>True
  |.cells cs=>g.tk r=false∧∃b E vs,g.own r=some b∧g.ρ r=.pointer (some ⟨b,0,none⟩)∧w.heap[b]?=some (.cells vs E (0,0))∧CI g w U cs vs.toList∧∀o,¬g.S b o
  |.ro cs=>g.tk r=false∧∃b,g.ρ r=.pointer (some ⟨b,0,none⟩)∧BH g w Fy (.cptr cs) (.pointer (some ⟨b,0,none⟩))
  |.tok sz n=>g.tk r=true∧g.ln r=n∧∃a cap,g.ρ r=.slice a n cap∧(n=cap∧g.own r=none ∨
      n≤cap∧∃b E vs off,a=some ⟨b,off,none⟩∧g.own r=some b∧w.heap[b]?=some (.cells vs E (0,0))∧vs.size=off+cap*sz∧∀o,g.S b o→o<off+n*sz)
  |.var sz v n=>g.tk r=true∧g.ln r=v∧∃a cap,g.ρ r=.slice a n cap∧(n=cap∧g.own r=none ∨
      n≤cap∧∃b E vs off,a=some ⟨b,off,none⟩∧g.own r=some b∧w.heap[b]?=some (.cells vs E (0,0))∧vs.size=off+cap*sz∧∀o,g.S b o→o<off+n*sz)
  |.vox v=>g.tk r=true∧g.ln r=v
  |.arr sz es=>g.tk r=true∧g.ln r=es.length∧(∀cs∈es,cs.length=sz)∧(es=[]∧g.ρ r=.slice none 0 0∧g.own r=none ∨
      ∃b cap E vs,g.ρ r=.slice (some ⟨b,0,none⟩) es.length cap∧g.own r=some b∧es.length≤cap∧w.heap[b]?=some (.cells vs E (0,0))∧vs.size=cap*sz ∧
        CI g w Fy es.flatten (vs.toList.take (es.length*sz))∧∀o,¬g.S b o)
  |.map sh B2=>g.tk r=false∧∃b es ck,g.own r=some b∧g.ρ r=.map (some b)∧w.heap[b]?=some (.map es ck)∧Hk sh es ck B2 ∧
      (∀(i:Nat) (kv:Value×AV) (e:MapEntry),B2[i]?=some kv→es[i]?=some e→BH g w Fy kv.2 e.val)∧∀o,¬g.S b o
  |.mapU sh B2=>g.tk r=false∧∃b es ck,g.own r=some b∧g.ρ r=.map (some b)∧w.heap[b]?=some (.map es ck)∧Hk sh es ck B2 ∧
      (∀(i:Nat) (kv:Value×AV) (e:MapEntry),B2[i]?=some kv→es[i]?=some e→BH g w U kv.2 e.val)∧∀o,¬g.S b o
  |.rom sh B2=>g.tk r=false∧∃b,g.ρ r=.map (some b)∧BH g w Fy (.cmap sh B2) (.map (some b))
  |.iter all rem FN=>g.tk r=false∧∃b mb Kb seen st es ck,g.own r=some b∧g.ρ r=.pointer (some ⟨b,0,none⟩)∧w.heap[b]?=some (.mapIter (some mb) Kb seen st) ∧
      g.S mb 0∧w.heap[mb]?=some (.map es ck)∧(∃sh,Hk sh es ck all)∧Kb=ck∧st=ck ∧
      (∀(i:Nat) (kv:Value×AV) (e:MapEntry),all[i]?=some kv→es[i]?=some e→BH g w Fy kv.2 e.val) ∧
      (rem.Nodup∧∀kv∈rem,kv∈all)∧(∀(i:Nat) (kv:Value×AV) (e:MapEntry),all[i]?=some kv→es[i]?=some e→(kv∈rem↔e.born∉seen)) ∧
      (match FN with | none=>True | some kv=>∃(i:Nat) (e:MapEntry),all[i]?=some kv∧es[i]?=some e∧seen.back?=some e.born)∧∀o,¬g.S b o
  |.hol sz es i c a=>g.tk r=true∧g.ln r=es.length∧(∀cs∈es,cs.length=sz)∧∃b cap E vs,g.ρ r=.slice (some ⟨b,0,none⟩) es.length cap∧g.own r=some b∧es.length≤cap∧w.heap[b]?=some (.cells vs E (0,0))∧vs.size=cap*sz ∧
        CI g w Fy es.flatten (vs.toList.take (es.length*sz))∧(∀o,¬g.S b o)∧i*sz+c<es.length*sz∧∃x,vs[i*sz+c]?=some x∧BH g w U a x
  |.raw b ob=>g.tk r=false∧g.own r=some b∧w.heap[b]?=some ob∧qx ob=true∧∀o,¬g.S b o
def gB:Nat:=0
def qX:List (Nat×Nat×Option Value):=[]
def We(g:Gh)(w:World):Prop:=(g.S gB 0∧∃m,w.cell? ⟨gB,0,none⟩=some (.int .i64 m))∧∀x∈qX,g.S x.1 x.2.1∧w.cell? ⟨x.1,x.2.1,none⟩=x.2.2
structure DK(w0:World)(g0:Gh)(h0:Nat→HO)(h:Nat→HO)(g:Gh)(w:World):Prop where
 os:w.os=w0.os
 tape:w.tape=w0.tape
 output:w.output=w0.output
 size:w0.heap.size≤w.heap.size
 frame:∀b,b<w0.heap.size→(∀r,(h0 r).live→g0.own r≠some b)→w.heap[b]?=w0.heap[b]?
 slt:∀b o,g.S b o→b<w.heap.size
 objs:∀r,Ej g w (AT h) r (h r)
 inj:∀r r' b,(h r).live→(h r').live→g.own r=some b→g.own r'=some b→r=r'
 loc:∀r b,(h r).live→g.own r=some b→b<w.heap.size∧(w0.heap.size≤b∨∃r',(h0 r').live∧g0.own r'=some b)
 sg:∀b o,g.S b o→g0.S b o∨w0.heap.size≤b∨∃r',(h0 r').live∧g0.own r'=some b
 glob:We g w
def EO(g:Gh)(w:World)(g' : Gh)(w' : World):Prop :=
 ∀b o,g.S b o→g'.S b o∧w'.cell? ⟨b,o,none⟩=w.cell? ⟨b,o,none⟩∧∀es ck,w.heap[b]?=some (.map es ck)→w'.heap[b]?=some (.map es ck)
def Ke(g g' : Gh)(U:Nat→Prop):Prop :=
 ∀i,U i→g'.tk i=g.tk i∧g.ln i≤g'.ln i∧(g.tk i=false→g'.ρ i=g.ρ i)∧(g'.ln i=g.ln i→g'.ρ i=g.ρ i)
structure Le(h:Nat→HO)(g:Gh)(w:World)(h' : Nat→HO)(g' : Gh)(w' : World):Prop where
 gh:Ke g g' (AT h)
 us:∀i,AT h i→AT h' i
 keeps:EO g w g' w'
def Gk (P : Program) (f : Nat) : Prop := ∃ fn, P.funcs[f]? = some fn ∧ (fn.name == "runtime.NumGoroutine") = false ∧ fn.body.isNone = false
def A6(P:Program)(f:Nat)(args:List AV)(h0:Nat→HO)(Q:AV→(Nat→HO)→Prop):Prop :=
 Gk P f∧∀(g:Gh) (w:World) (vals:Array Value),vals.size=args.length→(∀(i:Nat) (av:AV) (x:Value),args[i]?=some av→vals[i]?=some x→BH g w (AT h0) av x) →
  DK w g h0 h0 g w →
  Calls P f vals w fun e w'=>∃v r h' g',e=.returned v∧Q r h'∧BH g' w' (AT h') r v∧DK w g h0 h' g' w'∧Le h0 g w h' g' w'
def Jq(P:Program)(f:Nat)(args:List AV)(res:AV):Prop:=A6 P f args Aa fun r h'=>r=res∧h'=Aa
def I0(P:Program)(Y:Gh→World→Prop)(l:Nat)(args:List AV)(h0:Nat→HO)(Q:AV→(Nat→HO)→Prop):Prop :=
 ∀(g:Gh) (w:World) (vals:Array Value),vals.size=args.length→(∀(i:Nat) (av:AV) (x:Value),args[i]?=some av→vals[i]?=some x→BH g w (AT h0) av x) →
  DK w g h0 h0 g w→Y g w →
  YieldAt Fence.wide 0 P l vals w fun e w'=>∃v r h' g',e=.returned v∧Q r h'∧BH g' w' (AT h') r v∧DK w g h0 h' g' w'∧Le h0 g w h' g' w'
def mZ(P:Program)(Y:Gh→World→Prop)(f:Nat)(args:List AV)(h0:Nat→HO)(Q:AV→(Nat→HO)→Prop):Prop :=
 Gk P f∧∀(g:Gh) (w:World) (vals:Array Value),vals.size=args.length→(∀(i:Nat) (av:AV) (x:Value),args[i]?=some av→vals[i]?=some x→BH g w (AT h0) av x) →
  DK w g h0 h0 g w→Y g w →
  Calls P f vals w fun e w'=>∃v r h' g',e=.returned v∧Q r h'∧BH g' w' (AT h') r v∧DK w g h0 h' g' w'∧Le h0 g w h' g' w'
def Gj(P:Program)(Y:Nat→Gh→World→Prop)(F:AV)(args:List AV)(h:Nat→HO)(Q:AV→(Nat→HO)→Prop):Prop :=
 match F with
 |.v (.func (.func f) ⟨[]⟩ ⟨[]⟩)=>A6 P f args h Q
 |.clo f caps=>A6 P f (args++caps) h Q
 |.v (.func (.yield l) ⟨[]⟩ ⟨[]⟩)=>I0 P (Y l) l args h Q
 |_=>False
def PM(P:Program)(F:AV)(args:List AV)(res:AV):Prop :=
 match F with
 |.v (.func (.func f) ⟨[]⟩ ⟨[]⟩)=>Jq P f args res
 |.clo f caps=>Jq P f (args++caps) res
 |_=>False
structure Cx where
 P:Program
 T:GK
 pl:RE
 ext:Bool
 nid:Nat
 yp:Nat→List (Nat×Nat)→Gh→World→Prop
def KE(cx:Cx)(d:Nat):Nat:=bif IU cx.pl.dyn d then cx.nid else d
abbrev HK:=AV→(Nat→HO)→Prop
def Sz(T:GK)(d:Option Nat)(h:Nat→HO)(e:Nat)(K:HK):Prop :=
 match d with
 |none=>False
 |some d=>match h d with
  |.free=>match(T e).d with
   |.other=>False
   |_=>match Hb ((T e).zc.map .v)with
    |true=>K (.ref d 0) (A0 h d (.cells ((T e).zc.map .v)))
    |false=>False
  |_=>False
def Hc(n:Nat)(a:AV)(K:List AV→Prop):Prop :=
 match a with
 |.agg cs=>match Nat.beq cs.length n with
  |true=>K cs
  |false=>False
 |a=>match one a with
  |true=>match n with
   |1=>K [a]
   |_=>False
  |false=>False
def bW(cx:Cx)(d:Option Nat)(h:Nat→HO)(e:Nat)(x:AV)(K:HK):Prop :=
 match d with
 |none=>False
 |some d=>match h d with
  |.free=>match(cx.T e).d with
   |.other=>False
   |_=>Hc (cx.T e).size x fun cs=>match IU cx.pl.frz d with
    |true=>K (.ref d 0) (A0 h d (.ro (cs.map (str h))))
    |false=>K (.ref d 0) (A0 h d (.cells cs))
  |_=>False
def Og(cx:Cx)(h:Nat→HO)(t:Nat)(p x:AV)(K:HK):Prop :=
 match(cx.T t).d with
 |.other=>False
 |_=>Hc (cx.T t).size x fun vs=>match p with
  |.ref r off=>match h r with
   |.cells cs=>off+vs.length≤cs.length∧(match IU cx.pl.frz r with
    |true=>K (.v undef) (A0 h r (.ro ((over cs off vs).map (str h))))
    |false=>K (.v undef) (A0 h r (.cells (over cs off vs))))
   |_=>False
  |.eref r n sz i off=>match h r with
   |.arr GI es=>match Nat.beq sz GI with
    |true=>n=es.length∧∃cs,es[i]?=some cs∧off+vs.length≤sz∧(match vs with
     | [.msl j m]=>K (.v undef) (A0 h r (.hol sz (es.set i (over cs off [.junk])) i off (.msl j m)))
     |_=>K (.v undef) (A0 h r (.arr sz (es.set i (over cs off (vs.map (str h)))))))
    |false=>False
   |_=>False
  |_=>False
def Iq(T:GK)(h:Nat→HO)(t:Nat)(p:AV)(K:AV→Prop):Prop :=
 match p with
 |.cptr cs=>LG T t cs K
 |.ref r off=>match h r with
  |.cells cs=>LG T t (cs.drop off) K
  |.ro cs=>LG T t (cs.drop off) K
  |_=>False
 |.eref r n sz i off=>match h r with
  |.arr GI es=>match Nat.beq sz GI with
   |true=>n=es.length∧∃cs,es[i]?=some cs∧LG T t (cs.drop off) K
   |false=>False
  |.hol GI es i' c a=>match Nat.beq sz GI with
   |true=>(n=es.length∧i=i'∧off=c)∧LG T t [a] K
   |false=>False
  |_=>False
 |_=>False
def KG(pl:Nat→Option (Nat×Nat))(cs:List AV)(t:Nat→AV)(ps:List (Nat×Operand))(K:List AV→Prop):Prop :=
 match ps with
 | []=>K cs
 |(i,x)::r=>match pl i with
  |none=>False
  |some (o,n)=>Hc n (ev t x) fun vs=>match Nat.ble (o+n) cs.length with
   |true=>KG pl (over cs o vs) t r K
   |false=>False
def Ow(T:GK):List (Nat×Nat)→Bool
 | []=>true
 |(t,_)::r=>match(T t).size with |0=>false |_+1=>Ow T r
def PR(T:GK)(ty:Nat)(t:Nat→AV)(ps:List (Nat×Operand))(K:AV→Prop):Prop :=
 match Hb ((T ty).zc.map .v)with
 |false=>False
 |true=>match(T ty).d with
  |.struct fs=>match Ow T fs with
   |false=>False
   |true=>KG (fun i=>match WD fs i with |some (t,o)=>some (o,(T t).size) |none=>none) ((T ty).zc.map .v) t ps fun cs=>K (.agg cs)
  |.array _ e=>match(T e).size with
   |0=>False
   |_+1=>KG (fun i=>some (i*(T e).size,(T e).size)) ((T ty).zc.map .v) t ps fun cs=>K (.agg cs)
  |_=>False
def Ra(n sz:Nat)(h:Nat→HO)(es:List (List AV))(t:Nat→AV)(ps:List (Nat×Operand))(K:List (List AV)→Prop):Prop :=
 match ps with
 | []=>K es
 |(i,x)::r=>match Nat.blt i n with
  |true=>Hc sz (ev t x) fun vs=>Ra n sz h (es.set i (vs.map (str h))) t r K
  |false=>False
def EJ(cx:Cx)(d:Option Nat)(h:Nat→HO)(sz:Nat)(es:List (List AV))(K:HK):Prop :=
 match d with
 |none=>False
 |some d=>match h (KE cx d)with
  |.free=>match GR cx.pl.arr d with
   |some _=>K (.msl (KE cx d) es.length) (A0 h (KE cx d) (.arr sz es))
   |none=>K (.slice (.id (KE cx d) sz) es) (A0 h (KE cx d) (.tok sz es.length))
  |_=>False
def ID(cx:Cx)(d:Option Nat)(h:Nat→HO)(ty n:Nat)(t:Nat→AV)(ps:List (Nat×Operand))(K:HK):Prop :=
 match(cx.T ty).d with
 |.slice e=>match Hb ((cx.T e).zc.map .v),Nat.beq (cx.T e).zc.length (cx.T e).size with
  |true,true=>match(cx.T e).size with
   |0=>False
   |_+1=>match Nat.ble (n*(cx.T e).size) 16777216 with
    |true=>Ra n (cx.T e).size h (List.replicate n ((cx.T e).zc.map .v)) t ps fun es=>EJ cx d h (cx.T e).size es K
    |false=>False
  |_,_=>False
 |_=>False
def KK(t:Nat→AV)(h:Nat→HO)(fn:Fn)(first captured:List Operand)(K:AV→Prop):Prop :=
 match fn,first with
 |.func f,[]=>K (.clo f (captured.map fun x=>rsv h (ev t x)))
 |_,_=>False
def CQ(sz:Nat):List (List AV)→Prop
 | []=>True
 |c::r=>c.length=sz∧CQ sz r
def Lh(h:Nat→HO)(x:AV)(K:List (List AV)→Prop):Prop :=
 match x with
 |.slice _ es=>K es
 |.v (.slice none 0 0)=>K []
 |.msl r n=>match h r with
  |.arr _ es=>n=es.length∧K es
  |_=>False
 |_=>False
def Iv(cx:Cx)(d:Option Nat)(h:Nat→HO)(ty:Nat)(s x:AV)(K:HK):Prop :=
 match(cx.T ty).d with
 |.slice e=>match Nat.beq (cx.T e).zc.length (cx.T e).size with
  |false=>False
  |true=>match(cx.T e).size with
   |0=>False
   |_+1=>Lh h x fun es2=>match s with
    |.v (.slice none 0 0)=>(CQ (cx.T e).size es2∧es2.length*(cx.T e).bytes≤140737488355328∧es2.length≤9223372036854775807)∧EJ cx d h (cx.T e).size es2 K
    |.slice (.full GI) es=>match Nat.beq GI (cx.T e).size with
     |true=>(CQ (cx.T e).size es2∧0<es2.length∧(es.length+es2.length)*(cx.T e).bytes≤140737488355328∧es.length+es2.length≤9223372036854775807)∧EJ cx d h (cx.T e).size (es++es2) K
     |false=>False
    |.slice (.id r GI) es=>match h r with
     |.tok sz n=>match Nat.beq sz (cx.T e).size,Nat.beq GI sz with
      |true,true=>(CQ sz es2∧es.length=n∧(es.length+es2.length)*(cx.T e).bytes≤140737488355328∧es.length+es2.length≤9223372036854775807) ∧
        K (.slice (.id r sz) (es++es2)) (A0 h r (.tok sz (es.length+es2.length)))
      |_,_=>False
     |_=>False
    |.msl r n=>match h r with
     |.arr sz es=>match Nat.beq sz (cx.T e).size with
      |true=>(CQ sz es2∧es.length=n∧(es.length+es2.length)*(cx.T e).bytes≤140737488355328∧es.length+es2.length≤9223372036854775807) ∧
        K (.msl r (es.length+es2.length)) (A0 h r (.arr sz (es++es2)))
      |false=>False
     |_=>False
    |_=>False
 |_=>False
abbrev I7:=List (Nat×Nat)
inductive qj | pure | rel | gen (σ:I7) (nn:Nat) | geny (σ:I7) (nn:Nat)
def Cq(σ:I7)(n:Nat):Option Nat :=
 match σ with
 | []=>none
 |(i,j)::r=>bif Nat.beq i n then some j else Cq r n
def HZ(σ:I7)(n:Nat):Option Nat :=
 match σ with
 | []=>none
 |(i,j)::r=>bif Nat.beq j n then some i else HZ r n
def Ev:I7→Bool
 | []=>true
 |(i,j)::r=>(match Cq r i,HZ r j with |none,none=>true |_,_=>false)&&Nat.ble 1000 j&&Nat.blt j 2000&&Ev r
def GW:I7→Bool
 | []=>true
 |(i,j)::r=>(match Cq r i,HZ r j with |none,none=>true |_,_=>false)&&GW r
def ren0(f:Nat→Option Nat)(h:Nat→HO):AV→AV
 |.slice (.id r sz) es=>match f r with |some r'=>.slice (.id r' sz) es |none=>.slice .none es
 |.slice (.ver r sz v) es=>match f r with |some r'=>.slice (.ver r' sz v) es |none=>.slice .none es
 |.msl r n=>match f r with |some r'=>.msl r' n |none=>.junk
 |.ref r off=>match f r with |some r'=>.ref r' off |none=>str0 h (.ref r off)
 |.eref r n sz i off=>match f r with |some r'=>.eref r' n sz i off |none=>.junk
 |.mref r=>match f r with |some r'=>.mref r' |none=>str0 h (.mref r)
 |a=>str0 h a
def ren1(f:Nat→Option Nat)(h:Nat→HO):AV→AV
 |.agg cs=>.agg (cs.map (ren0 f h))
 |.clo g cs=>.clo g (cs.map (ren0 f h))
 |a=>ren0 f h a
def ren(f:Nat→Option Nat)(h:Nat→HO):AV→AV
 |.tup cs=>.tup (cs.map (ren1 f h))
 |a=>ren1 f h a
def HO.ren(f:Nat→Option Nat)(h:Nat→HO):HO→HO
 |.cells cs=>.cells (cs.map (ren1 f h))
 |.mapU sh B2=>.mapU sh (B2.map fun p=>(p.1,ren1 f h p.2))
 |.hol sz es i c a=>.hol sz es i c (ren1 f h a)
 |o=>o
def Ak(l:List (Nat×HO))(hb:Nat→HO)(i:Nat):HO:=match l with | []=>hb i | (j,v)::r=>bif Nat.beq i j then v else Ak r hb i
def W4(f:Nat→Option Nat)(h:Nat→HO):I7→List (Nat×HO)
 | []=>[]
 |(i,j)::r=>(j,(h i).ren f h)::W4 f h r
def FM(σ:I7)(h:Nat→HO):Nat→HO:=Ak (W4 (Cq σ) h σ) Aa
def By(d k:Nat):Nat:=10000+100*d+k
def Fj(σ:I7)(d nn:Nat)(j:Nat):Option Nat :=
 match HZ σ j with
 |some i=>some i
 |none=>match Nat.ble 2000 j&&Nat.blt j (2000+nn)with |true=>some (By d (j-2000)) |false=>none
def Ef(σ:I7)(d nn:Nat)(h h' : Nat→HO):Nat→HO:=fun i =>
 match Cq σ i with
 |some j=>(h' j).ren (Fj σ d nn) h'
 |none=>match Nat.ble (By d 0) i&&Nat.blt i (By d nn)with |true=>(h' (2000+(i-By d 0))).ren (Fj σ d nn) h' |false=>h i
def DI(h:Nat→HO)(d:Nat):Nat→Bool
 |0=>true
 |k+1=>(match h (By d k)with |.free=>true |_=>false)&&DI h d k
def Dv(σ:I7)(d nn:Nat):Bool :=
 match σ with
 | []=>true
 |(i,_)::r=>!(Nat.ble (By d 0) i&&Nat.blt i (By d nn))&&Dv r d nn
def NG(l:List (Nat×Nat))(d:Option Nat):Option Nat:=match d with | none=>none | some d=>GR l d
def bi:AV→Bool | .tup _=>false | _=>true
def TW:List AV→Bool
 | []=>true
 |a::r=>match bi a with |true=>TW r |false=>false
def VY:List AV→Option (List Value)
 | []=>some []
 |.v x::r=>match VY r with |some l=>some (x::l) |none=>none
 |_=>none
def RD(cx:Cx)(k:Nat)(d:Option Nat)(h:Nat→HO)(F:AV)(args:List AV)(K:HK):Prop :=
 match d,F,args with
 |some d,.v (.func (.func f) ⟨[]⟩ ⟨[]⟩),.msl r n::l=>match VY l with
  |some vs=>match h r with
   |.arr sz es=>match k with
    |0=>∃n' FO,A6 cx.P f (.msl 1000 n::vs.map .v) (Ak [(1000,.arr sz es)] Aa) (fun r' h'=>r'=.msl 1000 n'∧h'=Ak [(1000,.arr sz FO)] Aa)∧K (.msl r n') (A0 h r (.arr sz FO))
    |_+1=>∃n' FO,(DI h d 1&&Nat.blt r 10000000&&!Nat.beq r (By d 0))=true∧A6 cx.P f (.msl 1000 n::vs.map .v) (Ak [(1000,.arr sz es)] Aa) (fun r' h'=>r'=.msl 2000 n'∧h'=Ak [(1000,.dead),(2000,.arr sz FO)] Aa) ∧
      K (.msl (By d 0) n') (A0 (A0 h r .dead) (By d 0) (.arr sz FO))
   |_=>False
  |none=>False
 |_,_,_=>False
def Up(cx:Cx)(d:Option Nat)(st:St)(F:AV)(args:List AV)(K:HK):Prop :=
 match d with
 |none=>False
 |some d=>∃sz es,(DI st.h d 1&&bi F&&TW args)=true∧Gj cx.P (fun l=>cx.yp l []) (str st.h F) (args.map (str st.h)) Aa (fun r h'=>r=.slice (.id 2000 sz) es∧h'=Ak [(2000,.tok sz es.length)] Aa) ∧
   K (.slice (.id (By d 0) sz) es) (A0 st.h (By d 0) (.tok sz es.length))
def QO(cx:Cx)(d:Option Nat)(st:St)(F:AV)(args:List AV)(K:HK):Prop :=
  match d,F,VY args with
  |some _,.v (.func (.yield l) ⟨[]⟩ ⟨[]⟩),some vs=>match st.h 1000,st.h 1001 with
    |.cells [.slice (.id r sz) es],.tok bE n=>(r=1001∧bE=sz)∧∃v FO n',I0 cx.P (cx.yp l [(1000,1000),(1001,1001)]) l (vs.map .v) (Ak [(1000,.cells [.slice (.id 1001 sz) es]),(1001,.tok sz n)] Aa)
          (fun r h'=>r=.v v∧h'=Ak [(1000,.cells [.slice (.id 1001 sz) FO]),(1001,.tok sz n')] Aa) ∧
        K (.v v) (A0 (A0 st.h 1001 (.tok sz n')) 1000 (.cells [.slice (.id 1001 sz) FO]))
    |_,_=>False
  |_,_,_=>False
def ko:List Nat:=[1000,1001,1002,1003,1004,1005,1006,1007]
def X0(cx:Cx)(d:Option Nat)(st:St)(F:AV)(args:List AV)(K:HK):Prop :=
 match d,F with
 |some d,.v (.func (.func f) ⟨[]⟩ ⟨[]⟩)=>∃(σ:I7) (H0 Hn:List (Nat×HO)) (args' : List AV) (res:AV),
   (∀h2:Nat→HO,(∀r∈ko,h2 r=st.h r)→FM σ h2=Ak H0 Aa∧args.map (ren (Cq σ) h2)=args')∧(Ev σ&&Dv σ d 0&&σ.all fun p=>IU ko p.1)=true ∧
   A6 cx.P f args' (Ak H0 Aa) (fun r h'=>r=res∧h'=Ak Hn Aa)∧K (ren (Fj σ d 0) (Ak Hn Aa) res) (Ef σ d 0 st.h (Ak Hn Aa))
 |_,_=>False
def Pw(cx:Cx)(k:Nat)(d:Option Nat)(st:St)(F:AV)(args:List AV)(K:HK):Prop :=
 match Nat.beq k 4 with
 |true=>X0 cx d st F args K
 |false=>RD cx k d st.h F args K
def GC(cx:Cx)(dr:Bool)(d:Option Nat)(st:St)(F:AV)(args:List AV)(K:HK):Prop :=
 match dr with
 |true=>match NG cx.pl.dc d with
  |none=>∃res,PM cx.P (str st.h F) (args.map (str st.h)) res∧K res st.h
  |some 0=>match d with
   |none=>False
   |some d=>∃n sz es,(DI st.h d 1&&bi F&&TW args)=true∧Gj cx.P (fun l=>cx.yp l []) (str st.h F) (args.map (str st.h)) Aa (fun r h'=>r=.msl 2000 n∧h'=Ak [(2000,.arr sz es)] Aa) ∧
     K (.msl (By d 0) n) (A0 st.h (By d 0) (.arr sz es))
  |some (k+1)=>match Nat.beq k 2 with
   |true=>Up cx d st F args K
   |false=>match Nat.beq k 3 with
    |true=>QO cx d st F args K
    |false=>Pw cx k d st F args K
 |false=>∃m:qj,match m with
  |.pure=>∃res,PM cx.P (str st.h F) (args.map (str st.h)) res∧K res st.h
  |.rel=>Gj cx.P (fun _ _ _=>True) (str st.h F) (args.map (str st.h)) Aa fun r h'=>h'=Aa∧K r st.h
  |.gen σ nn=>match d with
   |none=>False
   |some d=>(Ev σ&&DI st.h d nn&&Dv σ d nn)=true ∧
     Gj cx.P (fun l=>cx.yp l σ) (ren (Cq σ) st.h F) (args.map (ren (Cq σ) st.h)) (FM σ st.h) fun r h'=>K (ren (Fj σ d nn) h' r) (Ef σ d nn st.h h')
  |.geny σ nn=>match d with
   |none=>False
   |some d=>(Ev σ&&DI st.h d nn&&Dv σ d nn)=true ∧
     match ren (Cq σ) st.h F with
     |.clo f caps=>mZ cx.P (fun g w=>∀l,cx.yp l σ g w) f (args.map (ren (Cq σ) st.h)++caps) (FM σ st.h) fun r h'=>K (ren (Fj σ d nn) h' r) (Ef σ d nn st.h h')
     |_=>False
def Xb:List AV→Option (List Value)
 | []=>some []
 |.v x::r=>match Xb r with |some l=>some (x::l) |none=>none
 |_=>none
def oR:AV→Option Value
 |.v x=>some x
 |.agg cs=>match Xb cs with |some l=>some (.agg l.toArray) |none=>none
 |_=>none
def H5(T:GK)(t:Nat):Option ET :=
 match(T t).d with
 |.struct _=>match HL T 8 t with |some l=>some ⟨true,l⟩ |none=>none
 |_=>match HL T 1 t with |some l=>some ⟨false,l⟩ |none=>none
def lf:KS→KS→Bool
 |.int k,.int k'=>qf k k'
 |.str,.str=>true
 |.bool,.bool=>true
 |_,_=>false
def TK:List KS→List KS→Bool
 | [],[]=>true
 |a::r,b::s=>match lf a b with |true=>TK r s |false=>false
 |_,_=>false
def pp(a b:ET):Bool :=
 match a.agg,b.agg with
 |true,true=>TK a.l b.l
 |false,false=>TK a.l b.l
 |_,_=>false
def Kk(T:GK)(ty:Nat)(sh:ET)(k:AV)(K:Value→Prop):Prop :=
 match(T ty).d with
 |.map kt _=>match H5 T kt with
  |some uC=>match pp sh uC with
   |true=>match oR k with
    |some kx=>match VN sh kx with
     |true=>K kx
     |false=>False
    |none=>False
   |false=>False
  |none=>False
 |_=>False
open Classical in
noncomputable def E7(B2:List (Value×AV))(k:Value)(a:AV):List (Value×AV) :=
 if ∃a',(k,a')∈B2 then B2.map fun p=>if p.1=k then(k,a)else p else B2++[(k,a)]
def KL(T:GK)(mku:List Nat)(d:Option Nat)(h:Nat→HO)(ty:Nat)(K:HK):Prop :=
 match d with
 |none=>False
 |some d=>match h d with
  |.free=>match(T ty).d with
   |.map kt _=>match H5 T kt with
    |some sh=>match IU mku d with
     |true=>K (.mref d) (A0 h d (.mapU sh []))
     |false=>K (.mref d) (A0 h d (.map sh []))
    |none=>False
   |_=>False
  |_=>False
def Hf(T:GK)(h:Nat→HO)(ty:Nat)(m k x:AV)(K:HK):Prop :=
 match m with
 |.mref r=>match h r with
  |.map sh B2=>Kk T ty sh k fun kx=>K (.v undef) (A0 h r (.map sh (E7 B2 kx (str h x))))
  |.mapU sh B2=>Kk T ty sh k fun kx=>K (.v undef) (A0 h r (.mapU sh (E7 B2 kx x)))
  |_=>False
 |_=>False
def Kq(T:GK)(t:Nat)(K:AV→Prop):Prop :=
 match(T t).d with
 |.other=>False
 |_=>match(T t).zero with
  |.agg cs=>match Hb (cs.toList.map .v)with |true=>K (.agg (cs.toList.map .v)) |false=>False
  |z=>K (.v z)
def L8(T:GK)(ty:Nat)(ok:Bool)(B2:List (Value×AV))(kx:Value)(K:AV→Prop):Prop :=
 match(T ty).d with
 |.map _ e=>match ok with
  |true=>(∀a,(kx,a)∈B2→K (.tup [a,.v (.bool true)]))∧((∀a,(kx,a)∉B2)→Kq T e fun z=>K (.tup [z,.v (.bool false)]))
  |false=>(∀a,(kx,a)∈B2→K a)∧((∀a,(kx,a)∉B2)→Kq T e K)
 |_=>False
def L7(T:GK)(ty:Nat)(ok:Bool)(B2:List (Value×AV))(kx:Value)(K:AV→Prop):Prop :=
 match(T ty).d with
 |.map _ e=>match ok with
  |true=>(∃a,((kx,a)∈B2∧∀b,(kx,b)∈B2→b=a)∧K (.tup [a,.v (.bool true)]))∨((∀a,(kx,a)∉B2)∧Kq T e fun z=>K (.tup [z,.v (.bool false)]))
  |false=>(∃a,((kx,a)∈B2∧∀b,(kx,b)∈B2→b=a)∧K a)∨((∀a,(kx,a)∉B2)∧Kq T e K)
 |_=>False
def MS(T:GK)(h:Nat→HO)(ty:Nat)(m k:AV)(ok:Bool)(K:AV→Prop):Prop :=
 match m with
 |.cmap sh B2=>Kk T ty sh k fun kx=>L7 T ty ok B2 kx K
 |.mref r=>match h r with
  |.map sh B2=>Kk T ty sh k fun kx=>L7 T ty ok B2 kx K
  |.mapU sh B2=>Kk T ty sh k fun kx=>L7 T ty ok B2 kx K
  |.rom sh B2=>Kk T ty sh k fun kx=>L7 T ty ok B2 kx K
  |_=>False
 |_=>False
def MT(T:GK)(h:Nat→HO)(ty:Nat)(m k:AV)(ok:Bool)(K:AV→Prop):Prop :=
 match m with
 |.cmap sh B2=>Kk T ty sh k fun kx=>L8 T ty ok B2 kx K
 |.mref r=>match h r with
  |.map sh B2=>Kk T ty sh k fun kx=>L8 T ty ok B2 kx K
  |.mapU sh B2=>Kk T ty sh k fun kx=>L8 T ty ok B2 kx K
  |.rom sh B2=>Kk T ty sh k fun kx=>L8 T ty ok B2 kx K
  |_=>False
 |_=>False
def ai(d:Option Nat)(h:Nat→HO)(x:AV)(K:HK):Prop :=
 match d with
 |none=>False
 |some d=>match h d with
  |.free=>match x with
   |.cmap _ B2=>K (.ref d 0) (A0 h d (.iter B2 B2 none))
   |.mref r=>match h r with
    |.rom _ B2=>K (.ref d 0) (A0 h d (.iter B2 B2 none))
    |.map sh B2=>K (.ref d 0) (A0 (A0 h r (.rom sh B2)) d (.iter B2 B2 none))
    |_=>False
   |_=>False
  |_=>False
def iv(h:Nat→HO)(x:AV)(K:HK):Prop :=
 match x with
 |.ref r 0=>match h r with
  |.iter all rem _=>(rem=[]→K (.tup [.v (.bool false)]) h) ∧
    (∀kv Oa,rem.Perm (kv::Oa)→K (.tup [.v (.bool true),.v kv.1,kv.2]) (A0 h r (.iter all Oa (some kv))))
  |_=>False
 |_=>False
def Zt(h:Nat→HO)(x:AV)(K:AV→Prop):Prop :=
 match x with
 |.ref r 0=>match h r with
  |.iter _ _ (some kv)=>K (.tup [.v kv.1,kv.2])
  |_=>False
 |_=>False
def Ro(T:GK)(t:Nat)(h:Nat→HO)(x:AV)(K:AV→Prop):Prop :=
 match(T t).d with
 |.slice _=>match x with
  |.slice _ es=>K (.v (.int .i64 es.length))
  |.msl _ n=>K (.v (.int .i64 n))
  |.v (.slice none 0 0)=>K (.v (.int .i64 0))
  |_=>False
 |.string=>match x with
  |.v (.string s)=>K (.v (.int .i64 s.size))
  |_=>False
 |.map _ _=>match x with
  |.cmap _ B2=>K (.v (.int .i64 B2.length))
  |.mref r=>match h r with
   |.map _ B2=>K (.v (.int .i64 B2.length))
   |.mapU _ B2=>K (.v (.int .i64 B2.length))
   |.rom _ B2=>K (.v (.int .i64 B2.length))
   |_=>False
  |_=>False
 |_=>False
def GH(cx:Cx)(d:Option Nat)(h:Nat→HO)(ty:Nat)(x:AV)(lo hi mx:Option (Option Int))(K:HK):Prop :=
 match lo,hi,mx with
 |some lo,some hi,some mx=>match(cx.T ty).d with
  |.string=>match mx,x with
   |none,.v (.string s)=>(0≤lo.getD 0∧lo.getD 0≤hi.getD s.size∧hi.getD s.size≤s.size)∧K (.v (.string (s.extract (lo.getD 0).toNat (hi.getD s.size).toNat))) h
   |_,_=>False
  |.slice e=>match(cx.T e).size with
   |0=>False
   |_+1=>match x with
    |.slice _ es=>match mx with
     |none=>(0≤lo.getD 0∧lo.getD 0≤hi.getD es.length∧hi.getD es.length≤es.length) ∧
       (∀cs∈es,cs.length=(cx.T e).size)∧K (.slice .none ((es.take (hi.getD es.length).toNat).drop (lo.getD 0).toNat)) h
     |some m=>match d,hi with
      |some d,some hi=>match GR cx.pl.arr d with
       |some _=>(0≤lo.getD 0∧lo.getD 0≤hi∧m=hi∧hi≤es.length)∧(∀cs∈es,cs.length=(cx.T e).size) ∧
         K (.slice (.full (cx.T e).size) ((es.take hi.toNat).drop (lo.getD 0).toNat)) h
       |none=>match h d with
        |.free=>(0≤lo.getD 0∧lo.getD 0≤hi∧m=hi∧hi≤es.length)∧(∀cs∈es,cs.length=(cx.T e).size) ∧
          K (.slice (.id d (cx.T e).size) ((es.take hi.toNat).drop (lo.getD 0).toNat)) (A0 h d (.tok (cx.T e).size (hi.toNat-(lo.getD 0).toNat)))
        |_=>False
      |_,_=>False
    |.v (.slice none 0 0)=>(lo.getD 0=0∧hi.getD 0=0∧mx.getD 0=0)∧(mx=none∨hi≠none)∧K (.v (.slice none 0 0)) h
    |.msl r n=>match h r with
     |.arr sz es=>match Nat.beq sz (cx.T e).size with
      |true=>(n=es.length∧0≤lo.getD 0∧lo.getD 0≤hi.getD es.length∧hi.getD es.length≤es.length∧(mx=none∨(mx=hi∧hi≠none))) ∧
        K (.slice .none ((es.take (hi.getD es.length).toNat).drop (lo.getD 0).toNat)) (A0 h r .dead)
      |false=>False
     |_=>False
    |_=>False
  |_=>False
 |_,_,_=>False
def Ua(cx:Cx)(d:Option Nat)(h:Nat→HO)(ty:Nat)(x:AV)(lo:Option (Option Int))(hi mx:Option Operand)(K:HK):Prop :=
 match d,lo,hi,mx with
 |some d,some (some lo),none,none=>match(cx.T ty).d with
  |.slice e=>match(cx.T e).size with
   |0=>False
   |_+1=>match x with
    |.slice (.id r sz) es=>match h r with
     |.tok GI n=>match h (KE cx d)with
      |.free=>match Nat.beq GI sz,Nat.beq sz (cx.T e).size with
       |true,true=>(es.length=n∧0≤lo∧lo≤es.length)∧K (.slice (.id (KE cx d) sz) (es.drop lo.toNat)) (A0 (A0 h r .dead) (KE cx d) (.tok sz (es.drop lo.toNat).length))
       |_,_=>False
      |_=>False
     |_=>False
    |_=>False
  |_=>False
 |_,_,_,_=>False
def iT(cx:Cx)(d:Option Nat)(h:Nat→HO)(ty:Nat)(x:AV)(hi:Option (Option Int))(K:HK):Prop :=
 match d,hi with
 |some d,some (some hi)=>match(cx.T ty).d with
  |.slice e=>match(cx.T e).size with
   |0=>False
   |_+1=>match x with
    |.msl r n=>match h r with
     |.arr sz es=>match h (KE cx d)with
      |.free=>match Nat.beq sz (cx.T e).size,Nat.blt r 10000000&&Nat.blt 0 (KE cx d)with
       |true,true=>(n=es.length∧0≤hi∧hi≤es.length)∧K (.msl (KE cx d) hi.toNat) (A0 (A0 h r .dead) (KE cx d) (.arr sz (es.take hi.toNat)))
       |_,_=>False
      |_=>False
     |_=>False
    |_=>False
  |_=>False
 |_,_=>False
def Nx(cx:Cx)(d:Option Nat)(h:Nat→HO)(ty:Nat)(x:AV)(lo:Option Operand)(hi:Option (Option Int))(mx:Option Operand)(K:HK):Prop :=
 match lo,mx with
 |none,none=>iT cx d h ty x hi K
 |_,_=>False
def bx(cx:Cx)(d:Option Nat)(h:Nat→HO)(ty:Nat)(x:AV)(t:Nat→AV)(lo hi mx:Option Operand)(K:HK):Prop :=
 match lo with
 |none=>Nx cx d h ty x none (B5 t hi) mx K
 |some lo=>Ua cx d h ty x (B5 t (some lo)) hi mx K
def unT:AV→AV
 |.slice _ es=>.slice .none es
 |a=>a
def Oz(cx:Cx)(d:Option Nat)(h:Nat→HO)(x:AV)(K:HK):Prop :=
 match d with
 |none=>K x h
 |some d=>match GR cx.pl.tok d with
  |some sz=>match Nat.beq sz 0 with
   |true=>K (unT x) h
   |false=>match x with
    |.v (.slice none 0 0)=>match h d with
     |.free=>K (.slice (.id d sz) []) (A0 h d (.tok sz 0))
     |_=>False
    |x=>K x h
  |none=>match GR cx.pl.arr d with
   |some sz=>match x with
    |.v (.slice none 0 0)=>match h d with
     |.free=>K (.msl d 0) (A0 h d (.arr sz []))
     |_=>False
    |x=>K x h
   |none=>K x h
def lx(l:List AV)(n:Nat):Option AV :=
 match l with
 | []=>none
 |x::r=>match n with |0=>some x |n+1=>lx r n
def L3(x:AV)(i:Nat)(K:AV→Prop):Prop :=
 match x with
 |.tup vs=>match lx vs i with
  |some a=>K a
  |none=>False
 |_=>False
def KO(x:AV)(K:AV→Prop):Prop :=
 match x with
 |.ref r o=>K (.ref r o)
 |.eref r n z i o=>K (.eref r n z i o)
 |.cptr cs=>K (.cptr cs)
 |.clo f cs=>K (.clo f cs)
 |.v (.func (.func f) a b)=>K (.v (.func (.func f) a b))
 |_=>False
def YM(c a b:AV)(K:AV→Prop):Prop :=
 match c with
 |.v (.bool true)=>K a
 |.v (.bool false)=>K b
 |_=>False
def lm(f:Int→Int→Int)(x y:AV)(K:AV→Prop):Prop :=
 match x,y with
 |.v (.int k a),.v (.int k' b)=>match qf k k' with
  |true=>K (.v (.int k (f a b)))
  |false=>False
 |_,_=>False
def JC(cx:Cx)(d:Option Nat)(h:Nat→HO)(ty:Nat)(len cap:AV)(K:HK):Prop :=
 match(cx.T ty).d,len,cap with
 |.slice e,.v (.int .i64 n),.v (.int .i64 c)=>match Hb ((cx.T e).zc.map .v)with
  |true=>match Nat.beq (cx.T e).zc.length (cx.T e).size with
   |true=>match(cx.T e).size with
    |0=>False
    |_+1=>(0≤n∧n≤c∧c*(cx.T e).bytes≤140737488355328∧c≤9223372036854775807)∧EJ cx d h (cx.T e).size (List.replicate n.toNat ((cx.T e).zc.map .v)) K
   |false=>False
  |false=>False
 |_,_,_=>False
def YY(op:UnOp)(x:AV)(K:AV→Prop):Prop :=
 match op,x with
 |.not,x=>di K x
 |.neg,.v (.int .i64 a)=>Bi (-a)∧K (.v (.int .i64 (-a)))
 |.xor,.v (.int k a)=>K (.v (.int k (U3 .xor k (if k.signed then -1 else k.max) a)))
 |_,_=>False
def Ga(cx:Cx)(d:Option Nat)(h:Nat→HO)(b:Builtin)(GZ:List Nat)(args:List AV)(K:HK):Prop :=
 match b,args,GZ with
 |.len,[x],[t]=>Ro cx.T t h x fun v=>K v h
 |.append,[s,x],[t,t']=>match Nat.beq t t' with
  |true=>Iv cx d h t s x K
  |false=>False
 |.max,[x,y],_=>lm max x y fun v=>K v h
 |.min,[x,y],_=>lm min x y fun v=>K v h
 |_,_,_=>False
def F2(cx:Cx)(dr:Bool)(o:Oper)(st:St)(K:HK):Prop :=
 match o.op with
 |.move x=>K (ev st.t x) st.h
 |.assign x=>Oz cx o.dst st.h (ev st.t x) K
 |.pick c a b=>YM (ev st.t c) (ev st.t a) (ev st.t b) fun v=>K v st.h
 |.alloc e=>Sz cx.T o.dst st.h e K
 |.box e x=>bW cx o.dst st.h e (ev st.t x) K
 |.build ty ps=>PR cx.T ty st.t ps.toList fun v=>K v st.h
 |.buildSlice ty n ps=>ID cx o.dst st.h ty n st.t ps.toList K
 |.insert ty m k x=>Hf cx.T st.h ty (ev st.t m) (ev st.t k) (ev st.t x) K
 |.load ty x=>Iq cx.T st.h ty (ev st.t x) fun v=>K v st.h
 |.store ty p x=>Og cx st.h ty (ev st.t p) (ev st.t x) K
 |.nilCheck x=>KO (ev st.t x) fun v=>K v st.h
 |.binOp op ty x y _=>Xx cx.T op ty y (ev st.t x) (ev st.t y) fun v=>K v st.h
 |.unOp op _ x=>YY op (ev st.t x) fun v=>K v st.h
 |.convert s ty x=>XE cx.T s ty (ev st.t x) fun v=>K v st.h
 |.makeFunc fn first cap=>KK st.t st.h fn first.toList cap.toList fun v=>K v st.h
 |.makeMap ty none=>KL cx.T cx.pl.mku o.dst st.h ty K
 |.makeSlice ty n c=>JC cx o.dst st.h ty (ev st.t n) (ev st.t c) K
 |.slice ty x lo hi mx=>match dr with
  |true=>match NG cx.pl.tok o.dst with
   |none=>GH cx o.dst st.h ty (ev st.t x) (B5 st.t lo) (B5 st.t hi) (B5 st.t mx) K
   |some _=>Nx cx o.dst st.h ty (ev st.t x) lo (B5 st.t hi) mx K
  |false=>match NG cx.pl.tok o.dst with
   |none=>GH cx o.dst st.h ty (ev st.t x) (B5 st.t lo) (B5 st.t hi) (B5 st.t mx) K
   |some _=>bx cx o.dst st.h ty (ev st.t x) st.t lo hi mx K
 |.fieldAddr s x f=>S8 cx.T s f (ev st.t x) fun v=>K v st.h
 |.field s x f=>OO cx.T s f (ev st.t x) fun v=>K v st.h
 |.indexAddr ty x ix=>JA cx.T ty (ev st.t x) (ev st.t ix) fun v=>K v st.h
 |.index ty x ix=>TA cx.T ty (ev st.t x) (ev st.t ix) fun v=>K v st.h
 |.lookup ty x ix ok=>match dr with
  |true=>MS cx.T st.h ty (ev st.t x) (ev st.t ix) ok fun v=>K v st.h
  |false=>MT cx.T st.h ty (ev st.t x) (ev st.t ix) ok fun v=>K v st.h
 |.mapUpdate ty m k x=>Hf cx.T st.h ty (ev st.t m) (ev st.t k) (ev st.t x) K
 |.range ty x=>match(cx.T ty).d with |.map _ _=>ai o.dst st.h (ev st.t x) K |_=>False
 |.next it false=>iv st.h (ev st.t it) K
 |.entry it=>Zt st.h (ev st.t it) fun v=>K v st.h
 |.extract x i=>L3 (ev st.t x) i fun v=>K v st.h
 |.call c=>match c.callee with
  |.builtin b=>Ga cx o.dst st.h b c.argTypes.toList (c.args.toList.map (ev st.t)) K
  |.value f=>GC cx dr o.dst st (ev st.t f) (c.args.toList.map (ev st.t)) K
  |_=>False
 |_=>False
def Km(ops:List Oper)(j:Nat):Option Nat:=match ops with | []=>none | o::r=>match j with | 0=>o.dst | j+1=>Km r j
def iU(cx:Cx)(o:Oper)(st:St):St :=
 match o.dst with
 |none=>st
 |some d=>match qr cx.pl.tz d with
  |some (r,k,j,sz)=>⟨st.t,uG st.h r k j sz⟩
  |none=>match np cx.pl.fz d with
   | []=>st
   |l=>⟨st.t,OY st.h l⟩
def uL(cx:Cx)(o:Oper)(st:St)(K:St→Prop):Prop :=
 match o.dst with
 |none=>K st
 |some d=>match GR cx.pl.ak d with
  |none=>K st
  |some s=>match st.t s with
   |.msl r n=>match st.h r with
    |.arr sz es=>n=es.length∧K ⟨Hh st.t s (.slice (.id r sz) es),A0 st.h r (.tok sz es.length)⟩
    |_=>K st
   |_=>K st
def eU(cx:Cx)(dr:Bool)(o:Oper)(st:St)(K:St→Prop):Prop :=
 match dr with
 |true=>F2 cx true o st fun v h=>K (st.put o.dst v h)
 |false=>uL cx o (iU cx o st) fun El=>F2 cx false o El fun v h=>K (El.put o.dst v h)
def Hl(cx:Cx)(dr:Bool)(all:List Oper)(o:Oper)(st:St)(K:St→Prop):Prop :=
 match o.guard with
 |none=>eU cx dr o st K
 |some (j,want)=>match Km all j with
  |none=>False
  |some d=>match st.t d,want with
   |.v (.bool true),true=>eU cx dr o st K
   |.v (.bool false),false=>eU cx dr o st K
   |.v (.bool true),false=>K (st.put o.dst (.v undef) st.h)
   |.v (.bool false),true=>K (st.put o.dst (.v undef) st.h)
   |.v (.tuple _),_=>K (st.put o.dst (.v undef) st.h)
   |_,_=>False
def TG(o o2:Oper):Bool :=
 match o2.op with
 |.call c=>match c.callee with
  |.builtin .clear=>match o.op with
   |.slice ty _ (some _) none none=>match o.dst,o2.dst,c.args.toList,c.argTypes.toList,o.guard,o2.guard with
    |some d,none,[.tmp d'],[ty'],none,none=>Nat.beq d d'&&Nat.beq ty ty'
    |_,_,_,_,_,_=>false
   |_=>false
  |_=>false
 |_=>false
def qQ(d:Nat)(st:St)(r i sz:Nat)(es:List (List AV))(z:List Value)(K:St→Prop):Prop :=
 match z.all Value.oneCell' with
 |true=>K ⟨Hh st.t d .junk,A0 st.h r (.arr sz (es.take i++List.replicate (es.length-i) (z.map AV.v)))⟩
 |false=>False
def cd(cx:Cx)(o:Oper)(st:St)(K:St→Prop):Prop :=
 match o.op with
 |.slice ty x (some lo) none none=>match o.dst with
  |some d=>match(cx.T ty).d with
   |.slice e=>match ev st.t x with
    |.msl r n=>match ev st.t lo with
     |.v (.int .i64 i)=>match st.h r with
      |.arr sz es=>match Nat.beq sz (cx.T e).size with
       |true=>match(cx.T e).size with
        |0=>False
        |_+1=>match Nat.beq (cx.T e).zc.length sz with
         |true=>(n=es.length∧0≤i∧i≤es.length)∧qQ d st r i.toNat sz es (cx.T e).zc K
         |false=>False
       |false=>False
      |_=>False
     |_=>False
    |_=>False
   |_=>False
  |none=>False
 |_=>False
def Uz(cx:Cx)(all l:List Oper)(st:St)(K:St→Prop):Prop :=
 match l with
 | []=>K st
 | [o]=>Hl cx false all o st K
 |o::o2::r=>match TG o o2 with
  |true=>cd cx o st fun El=>Uz cx all r El K
  |false=>Hl cx false all o st fun El=>Uz cx all (o2::r) El K
def UG:AV→List Nat
 |.ref r _=>[r]
 |.mref r=>[r]
 |_=>[]
def kW:List AV→List Nat
 | []=>[]
 |a::r=>UG a++kW r
def UH:AV→List Nat
 |.agg cs=>kW cs
 |.clo _ cs=>kW cs
 |a=>UG a
def oP:List AV→List Nat
 | []=>[]
 |a::r=>UH a++oP r
def Xm:AV→List Nat
 |.agg cs=>oP cs
 |a=>UH a
def Tx:List AV→List Nat
 | []=>[]
 |a::r=>Xm a++Tx r
abbrev FH:=List Nat×Option Nat
def IF(d:Option Nat)(l:List Nat):Option FH:=match d with | some d=>some (d::l,some d) | none=>none
def c8:AV→List Nat
 |.msl r _=>[r]
 |_=>[]
def WE(cx:Cx)(d:Option Nat)(s x:AV):Option FH :=
 match s with
 |.v (.slice none 0 0)=>IF (d.map (KE cx)) (c8 x)
 |.slice (.full _) _=>IF (d.map (KE cx)) (c8 x)
 |.slice (.id r _) _=>IF (some r) (c8 x)
 |.msl r _=>IF (some r) (c8 x)
 |_=>none
def aJ(d:Option Nat)(args:List AV):Option FH :=
 match d with
 |some d=>match args with
  |.msl r _::_=>some ([r,By d 0],some (r+10000000*By d 0))
  |_=>none
 |none=>none
theorem Zx{d:Option Nat}{args:List AV}{f:FH}(h:aJ d args=some f):∃d' r n l,d=some d'∧args=.msl r n::l∧f=([r,By d' 0],some (r+10000000*By d' 0)):=by
 unfold aJ at h;split at h
 ·split at h
  ·cases h;exact⟨_,_,_,_,rfl,rfl,rfl⟩
  ·cases h
 ·cases h
def fR(d:Option Nat)(x:AV):Option FH :=
 match d with
 |some d=>match x with
  |.msl r _=>some ([r,d],some (r+10000000*d))
  |_=>none
 |none=>none
theorem Zy{d:Option Nat}{x:AV}{f:FH}(h:fR d x=some f):∃d' r n,d=some d'∧x=.msl r n∧f=([r,d'],some (r+10000000*d')):=by
 unfold fR at h;split at h
 ·split at h
  ·cases h;exact⟨_,_,_,rfl,rfl,rfl⟩
  ·cases h
 ·cases h
def fS(args:List AV):Option FH:=match VY args with | some _=>some ([1000,1001],some 10010001000) | none=>none
def Wn:Nat:=99999999999999
def fQ(k:Nat)(d:Option Nat)(args:List AV):Option FH :=
 match Nat.beq k 3 with
 |true=>some (ko,some Wn)
 |false=>aJ d args
def G4(cx:Cx)(d:Option Nat)(c:Callee)(t:Nat→AV)(args:List AV):Option FH :=
 match c,args with
 |.builtin .len,[.mref r]=>some ([r],none)
 |.builtin .len,[_]=>some ([],none)
 |.builtin .max,_=>some ([],none)
 |.builtin .min,_=>some ([],none)
 |.builtin .append,[s,x]=>WE cx d s x
 |.value f,args=>match NG cx.pl.dc d with
  |none=>some (Xm (ev t f)++Tx args,none)
  |some 0=>IF (d.map fun d=>By d 0) (Xm (ev t f)++Tx args)
  |some 1=>match args with |.msl r _::_=>some ([r],some r) |_=>none
  |some (k+2)=>match Nat.beq k 1 with
   |true=>IF (d.map fun d=>By d 0) (Xm (ev t f)++Tx args)
   |false=>match Nat.beq k 2 with
    |true=>fS args
    |false=>fQ k d args
 |_,_=>none
def Fs(cx:Cx)(o:Oper)(st:St):Option FH :=
 match o.op with
 |.move _ |.pick .. |.nilCheck _ |.unOp .. |.convert .. |.fieldAddr .. |.field .. |.indexAddr .. |.index .. |.extract .. |.build ..=>some ([],none)
 |.binOp _ _ x _ _=>match ev st.t x with |.slice ..=>none |_=>some ([],none)
 |.assign x=>match ev st.t x with |.v (.slice ..)=>none |_=>some ([],none)
 |.load _ p=>match ev st.t p with |.cptr _=>some ([],none) |.ref r _=>some ([r],none) |.eref r ..=>some ([r],none) |_=>none
 |.call c=>G4 cx o.dst c.callee st.t (c.args.toList.map (ev st.t))
 |.alloc _=>IF o.dst []
 |.box _ x=>IF o.dst (Xm (ev st.t x))
 |.buildSlice _ _ ps=>IF (o.dst.map (KE cx)) (Tx (ps.toList.map fun p=>ev st.t p.2))
 |.store _ p x=>match ev st.t p with
  |.ref r _=>match IU cx.pl.frz r with |true=>none |false=>IF (some r) []
  |.eref r ..=>IF (some r) (Xm (ev st.t x))
  |_=>none
 |.slice _ x _ _ mx=>match NG cx.pl.tok o.dst with
  |some _=>fR (o.dst.map (KE cx)) (ev st.t x)
  |none=>match mx,ev st.t x with
   |none,.msl ..=>none
   |none,_=>some ([],none)
   |some _,.slice ..=>IF o.dst []
   |_,_=>none
 |.makeFunc _ _ cap=>some (Tx (cap.toList.map (ev st.t)),none)
 |.mapUpdate _ m _ x=>match ev st.t m with |.mref r=>IF (some r) (Xm (ev st.t x)) |_=>none
 |.makeSlice ..=>IF (o.dst.map (KE cx)) []
 |.lookup _ m _ _=>match ev st.t m with |.cmap ..=>some ([],none) |.mref r=>some ([r],none) |_=>none
 |.makeMap ..=>IF o.dst []
 |_=>none
def Nq(cx:Cx)(all:List Oper)(o:Oper)(st:St):Option FH :=
 match o.guard with
 |none=>Fs cx o st
 |some (j,want)=>match Km all j with
  |none=>none
  |some d=>match st.t d,want with
   |.v (.bool true),true=>Fs cx o st
   |.v (.bool false),false=>Fs cx o st
   |_,_=>some ([],none)
def sw(l:List Nat):Bool:=match l with | []=>true | _=>false
def YG(l:List Nat)(r:Nat):Bool:=bif Nat.beq r Wn then sw l else !IU l r&&(Nat.blt r 10000000||(!IU l (r % 10000000)&&!IU l (r / 10000000)))
def SW(a b:FH):Bool :=
 (match a.2 with | some r=>YG b.1 r | none=>true)&&(match b.2 with | some r=>YG a.1 r | none=>true)
def OZ(o:Oper)(i:Nat)(D:List Nat):Bool:=o.after.toList.any fun e=>Region.binds .any e&&(Nat.beq e.on i||IU D e.on)
def PV(i:Nat)(D:List Nat)(k:Nat):List Oper→List Nat
 | []=>D
 |o::r=>match OZ o i D with
  |true=>PV i (k::D) (k+1) r
  |false=>PV i D (k+1) r
def Uk(i:Nat)(D:List Nat)(k:Nat):List Oper→Bool
 | []=>true
 |o::r=>(OZ o i D||!IU D k)&&Uk i D (k+1) r
def IC(ops:Array Oper)(oi:Oper)(fi:FH)(D:List Nat)(k:Nat):List Oper→List FH→Bool
 |o::r,f::fs=>(IU D k||(oi.apart ops o&&SW fi f))&&IC ops oi fi D (k+1) r fs
 | [],[]=>true
 |_,_=>false
def L1(ops:Array Oper)(all:List Oper)(k:Nat):List Oper→List FH→Bool
 |o::r,f::fs =>
  let D:=PV k [] 0 all
  (o.after.toList.all fun e=>!Region.binds .any e||Nat.blt e.on k)&&Uk k D 0 all&&(D.all fun j=>Nat.blt k j&&Nat.blt j all.length)&&IC ops o f D (k+1) r fs&&L1 ops all (k+1) r fs
 | [],[]=>true
 |_,_=>false
def SX(ops:Array Oper)(fs:List FH):Bool:=Region.noSelect ops&&L1 ops ops.toList 0 ops.toList fs
def Xv(cx:Cx)(ops:Array Oper)(l:List Oper)(fs:List FH)(st:St)(K:St→Prop):Prop :=
 match l with
 | []=>SX ops fs.reverse=true∧K st
 |o::r=>match Nq cx ops.toList o st with
  |some f=>Hl cx true ops.toList o st fun El=>Xv cx ops r (f::fs) El K
  |none=>False
def S0(l:List (Nat×AV))(i:Nat):AV:=match l with | []=>.junk | (j,v)::r=>bif Nat.beq i j then v else S0 r i
structure LS where
 t:List (Nat×AV)
 h:List (Nat×HO)
 hb:Nat→HO
def LS.st(s:LS):St:=⟨S0 s.t,Ak s.h s.hb⟩
def RO(h:Nat→HO)(r:Nat):Bool:=match h r with | .free=>false | _=>true
def ids0(h:Nat→HO):AV→Bool
 |.slice (.id r _) _=>RO h r
 |.slice (.ver r _ _) _=>RO h r
 |.msl r _=>RO h r
 |.ref r _=>RO h r
 |.eref r _ _ _ _=>RO h r
 |.mref r=>RO h r
 |.agg _ |.tup _ |.clo ..=>false
 |_=>true
def Ye(h:Nat→HO):List AV→Bool
 | []=>true
 |a::r=>match ids0 h a with |true=>Ye h r |false=>false
def UI(h:Nat→HO):AV→Bool
 |.agg cs=>Ye h cs
 |.tup cs=>Ye h cs
 |.clo _ cs=>Ye h cs
 |a=>ids0 h a
def Ri(h:Nat→HO):List (Value×AV)→Bool
 | []=>true
 |p::r=>match UI h p.2 with |true=>Ri h r |false=>false
def kX(h:Nat→HO):List AV→Bool
 | []=>true
 |a::r=>match UI h a with |true=>kX h r |false=>false
def Yd(h:Nat→HO):HO→Bool
 |.cells cs=>kX h cs
 |.mapU _ B2=>Ri h B2
 |.hol _ _ _ _ a=>UI h a
 |_=>true
def xE(st:St)(h:Nat→HO):List (Nat×AV)→Prop
 | []=>True
 |(j,a)::r=>(st.t j=a∧UI h a=true)∧xE st h r
def xD(st:St)(h:Nat→HO):List (Nat×HO)→Prop
 | []=>True
 |(j,o)::r=>(st.h j=o∧Yd h o=true)∧xD st h r
def St.le(cx:Cx)(st:St)(s:LS):Prop :=
 xE st s.st.h s.t∧xD st s.st.h s.h∧(∀j,s.hb j=.free∨(st.h j=s.hb j∧Yd s.st.h (s.hb j)=true)) ∧
 match cx.ext with
 |false=>True
 |true=>∀j,1000≤j→j<2000→st.h j≠.free→s.st.h j≠.free
def ME(cx:Cx)(ops:Array Oper)(dr:Bool)(st:St)(K:St→Prop):Prop :=
 match dr with
 |false=>Uz cx ops.toList ops.toList st K
 |true=>Xv cx ops ops.toList [] st K
inductive Ex | normal | exit (id:Nat) | ret
def uO(h:Nat→HO)(o k:Nat)(K:(Nat→HO)→Prop):Prop :=
 match h o with
 |.cells cs=>match Jg cs k with
  |.msl r n=>match h r with
   |.arr sz es=>n=es.length∧K (A0 (A0 h r (.tok sz es.length)) o (.cells (EK cs k (.slice (.id r sz) es))))
   |_=>K h
  |_=>K h
 |_=>K h
def uM(h:Nat→HO)(o k j:Nat)(K:(Nat→HO)→Prop):Prop :=
 match h o with
 |.cells cs=>match Jg cs k with
  |.msl r n=>match h r with
   |.arr sz es=>match h j with
    |.free=>n=es.length∧K (A0 (A0 (A0 h r .dead) j (.arr sz es)) o (.cells (EK cs k (.msl j n))))
    |_=>False
   |_=>False
  |_=>False
 |_=>False
def yK(h:Nat→HO)(o k d:Nat)(K:(Nat→HO)→Prop):Prop :=
 match h o with
 |.cells cs=>match Jg cs k with
  |.slice (.ver r sz v) es=>match h r with
   |.var GI v' _=>match h d with
    |.free=>(v=v'∧sz=GI)∧K (A0 (A0 (A0 h r (.vox v)) d (.tok sz es.length)) o (.cells (EK cs k (.slice (.id d sz) es))))
    |_=>False
   |_=>False
  |_=>K h
 |_=>False
def uA(h:Nat→HO)(o k r:Nat)(K:(Nat→HO)→Prop):Prop :=
 match h o with
 |.cells cs=>match Jg cs k with
  |.slice (.id d sz) es=>match h d with
   |.tok GI n=>match h r with
    |.vox v=>(es.length=n∧sz=GI)∧K (A0 (A0 (A0 h d .dead) r (.var sz (v+1) n)) o (.cells (EK cs k (.slice (.ver r sz (v+1)) es))))
    |_=>False
   |_=>False
  |_=>K h
 |_=>False
def xF(h:Nat→HO)(r:Nat)(K:(Nat→HO)→Prop):Prop :=
 match h r with
 |.free=>K (A0 h r (.vox 0))
 |_=>False
def uz(h:Nat→HO)(o k:Nat)(K:(Nat→HO)→Prop):Prop :=
 match h o with
 |.cells cs=>match Jg cs k with
  |.mref r=>match h r with
   |.rom sh B2=>K (A0 h o (.cells (EK cs k (.cmap sh B2))))
   |_=>False
  |_=>False
 |_=>False
def y0(h:Nat→HO)(o k j sz:Nat)(K:(Nat→HO)→Prop):Prop :=
 match h o with
 |.cells cs=>match Jg cs k with
  |.v (.slice none 0 0)=>match h j with
   |.free=>K (A0 (A0 h j (.arr sz [])) o (.cells (EK cs k (.msl j 0))))
   |_=>False
  |_=>False
 |_=>False
def wd(cx:Cx)(id:Nat)(h:Nat→HO)(K:(Nat→HO)→Prop):Prop :=
 match GR cx.pl.ak (850000+id)with
 |some v=>K (fV h v)
 |none=>K h
def uy(cx:Cx)(id:Nat)(h:Nat→HO)(K:(Nat→HO)→Prop):Prop :=
 match GR cx.pl.ak (800000+id)with
 |some v=>uz h (v % 10000) (v / 10000 % 100) K
 |none=>K h
def sR(cx:Cx)(id:Nat)(h:Nat→HO)(K:(Nat→HO)→Prop):Prop :=
 match GR cx.pl.ak (810000+id)with
 |some v=>uz h (v % 10000) (v / 10000 % 100) K
 |none=>K h
def qi(cx:Cx)(id:Nat)(h:Nat→HO)(K:(Nat→HO)→Prop):Prop :=
 match GR cx.pl.ak (900000+id)with
 |some v=>y0 h (v % 10000) (v / 10000 % 100) (v / 1000000 % 10000) (v / 10000000000) K
 |none=>K h
def xc(h:Nat→HO)(r:Nat)(K:(Nat→HO)→Prop):Prop :=
 match h r with
 |.hol sz es i c (.msl j m)=>match Nat.beq r j with
  |true=>False
  |false=>match h j with
   |.arr bE qs=>m=qs.length∧∃cs,es[i]?=some cs∧c<sz∧K (A0 (A0 (A0 h j (.tok bE qs.length)) j .dead) r (.arr sz (es.set i (over cs c [.slice .none qs]))))
   |_=>False
 |_=>False
def py(cx:Cx)(id:Nat)(h:Nat→HO)(K:(Nat→HO)→Prop):Prop :=
 match GR cx.pl.ak (500000+id)with
 |some v=>yK h (v % 10000) (v / 10000 % 100) (v / 1000000) K
 |none=>match GR cx.pl.ak (600000+id)with
  |some v=>uA h (v % 10000) (v / 10000 % 100) (v / 1000000) K
  |none=>match GR cx.pl.ak (700000+id)with
   |some v=>xF h v K
   |none=>match GR cx.pl.ak (950000+id)with
    |some v=>xc h v K
    |none=>wd cx id h fun h=>uy cx id h fun h=>sR cx id h fun h=>qi cx id h K
def uN(st:St)(s k:Nat)(K:St→Prop):Prop :=
 match st.t s with
 |.msl r n=>match st.h r with
  |.arr sz es=>match k with
   |0=>n=es.length∧K ⟨Hh st.t s (.slice .none es),A0 (A0 st.h r (.tok sz es.length)) r .dead⟩
   |k+1=>match Nat.beq r (k+1)with
    |true=>K st
    |false=>match st.h (k+1)with
     |.free=>n=es.length∧K ⟨Hh st.t s (.msl (k+1) n),A0 (A0 st.h r .dead) (k+1) (.arr sz es)⟩
     |_=>False
  |_=>K st
 |_=>K st
def qR(cx:Cx)(id:Nat)(st:St)(K:St→Prop):Prop :=
 match IU cx.pl.cut id with
 |true=>match GR cx.pl.ak (100000+id)with
  |none=>match GR cx.pl.ak (200000+id)with
   |none=>match GR cx.pl.ak (300000+id)with
    |none=>py cx id st.h fun h'=>∃s:LS,St.le cx ⟨st.t,h'⟩ s∧K s.st
    |some v=>uM st.h (v % 10000) (v / 10000 % 100) (v / 1000000) fun h'=>∃s:LS,St.le cx ⟨st.t,h'⟩ s∧K s.st
   |some v=>uN st (v % 1000) (v / 1000) fun El=>∃s:LS,St.le cx El s∧K s.st
  |some v=>uO st.h (v % 1000) (v / 1000) fun h'=>∃s:LS,St.le cx ⟨st.t,h'⟩ s∧K s.st
 |false=>K st
def RF(cx:Cx)(c:Code)(Q:Ex→St→Prop)(st:St):Prop :=
 match c with
 |.skip=>Q .normal st
 |.label _=>Q .normal st
 |.region id ops dr=>qR cx id st fun st=>match cx.pl.dyn with
  | []=>ME cx ops dr st (Q .normal)
  |_=>∃n,ME { cx with nid:=n } ops dr st (Q .normal)
 |.seq a b=>RF cx a (fun e El=>match e with |.normal=>RF cx b Q El |e=>Q e El) st
 |.cond c a b=>match ev st.t c with
  |.v (.bool true)=>RF cx a Q st
  |.v (.bool false)=>RF cx b Q st
  |_=>False
 |.block id c=>RF cx c (fun e El=>match e with |.exit j=>(bif Nat.beq j id then Q .normal El else Q (.exit j) El) |e=>Q e El) st
 |.loop c=>∃(α:Type) (I:α→LS) (μ:α→Nat),(∃x,St.le cx st (I x)) ∧
   ∀x,RF cx c (fun e El=>match e with | .normal=>∃y,μ y<μ x∧St.le cx El (I y) | e=>Q e El) (I x).st
 |.exit id=>Q (.exit id) st
 |.ret=>Q .ret st
 |_=>False
def OK:List AV→Nat→AV
 | [],_=>.v undef
 |a::r,n=>match n with |0=>a |n+1=>OK r n
def lH(T:GK)(st:St):List ResultVar→(List AV→Prop)→Prop
 | [],K=>K []
 |.tmp i::r,K=>lH T st r fun l=>K (str st.h (st.t i)::l)
 |.cell a t::r,K=>Iq T st.h t (st.t a) fun v=>lH T st r fun l=>K (str st.h v::l)
def lE(cx:Cx)(st:St)(rs:List ResultVar)(K:AV→Prop):Prop :=
 lH cx.T ⟨st.t,OY st.h cx.pl.fin⟩ rs fun
  | [v]=>K v
  |vs=>K (.tup vs)
def nS(cx:Cx)(rs:List ResultVar)(K:AV→Prop)(e:Ex)(st:St):Prop :=
 match e with
 |.normal=>lE cx st rs K
 |.ret=>lE cx st rs K
 |.exit _=>False
def lI(T:GK)(st:St):List ResultVar→(List AV→Prop)→Prop
 | [],K=>K []
 |.tmp i::r,K=>lI T st r fun l=>K (st.t i::l)
 |.cell a t::r,K=>Iq T st.h t (st.t a) fun v=>lI T st r fun l=>K (v::l)
def du(cx:Cx)(st:St)(rs:List ResultVar)(σ:I7)(Q:AV→(Nat→HO)→Prop):Prop :=
 lI cx.T ⟨st.t,OY st.h cx.pl.fin⟩ rs fun
  | [v]=>Q (ren (Cq σ) (OY st.h cx.pl.fin) v) (FM σ (OY st.h cx.pl.fin))
  |vs=>Q (ren (Cq σ) (OY st.h cx.pl.fin) (.tup vs)) (FM σ (OY st.h cx.pl.fin))
def XL(cx:Cx)(rs:List ResultVar)(σ:I7)(Q:AV→(Nat→HO)→Prop)(e:Ex)(st:St):Prop :=
 match e with
 |.normal=>du cx st rs σ Q
 |.ret=>du cx st rs σ Q
 |.exit _=>False
def IE(σ:I7):List (Nat×HO)→Bool
 | []=>true
 |(i,_)::r=>Nat.ble 1000 i&&Nat.blt i 2000&&(match Cq σ i with |some j=>Nat.beq j i |none=>false)&&IE σ r
end Go.Eng
