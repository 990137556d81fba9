/- Lemmas 4. -/
import Derived.Test.YtkjhcikodmiceaaGreatDoorRA00
import Derived.WalkKit
import Derived.Still
import Derived.RangeFuncSeq
import Derived.OrdersIn
import Derived.TacticsIn
namespace Go.Eng
variable {vs:Array Value}{E:TypeId}(op:BinOp)(f:Nat->Option Nat)(o:Oper)
theorem aa3{p:Prop}(h:p:=by kernel_rfl):p:=h
theorem A0a{A:Type}{x:Option A}{a b:A}(h:x=some a)(k:a=b:=by kernel_rfl):x=some b:=h.trans (congrArg some k)
inductive Tk | none | full (sz:Nat) | id (r sz:Nat) | ver (r sz v:Nat)
inductive KS | int (k:IntKind) | str | bool
structure Er where
 agg:Bool
 l:List KS
variable (sh:Er)
inductive AV
 |v (x:Value)
 |slice (tk:Tk) (es:List (List AV))
 |msl (r n:Nat)
 |agg (cs:List AV)
 |tup (vs:List AV)
 |cptr (cs:List AV)
 |ref (r off:Nat)
 |eref (r n sz i off:Nat)
 |mref (r:Nat)
 |cmap (sh:Er) (BU:List (Value×AV))
 |clo (f:Nat) (caps:List AV)
 |junk
variable (x:AV)(K:AV->Prop)
inductive HO
 |free
 |dead
 |cells (cs:List AV)
 |ro (cs:List AV)
 |tok (sz n:Nat)
 |var (sz v n:Nat)
 |vox (v:Nat)
 |arr (sz:Nat) (es:List (List AV))
 |map (sh:Er) (BU:List (Value×AV))
 |mapU (sh:Er) (BU:List (Value×AV))
 |rom (sh:Er) (BU:List (Value×AV))
 |iter (all rem:List (Value×AV)) (Dn:Option (Value×AV))
 |raw (b:Nat) (ob:Obj)
 |hol (sz:Nat) (es:List (List AV)) (i c:Nat) (a:AV)
 |bld (x:AV)
 |bbf (n:Nat)
structure St where
 t:Nat->AV
 h:Nat->HO
def Ad:Nat->HO:=fun _=>.free
def AP(h:Nat->HO)(r:Nat)(o:HO):Nat->HO:=fun i=>bif Nat.beq i r then o else h i
def I9(t:Nat->AV)(d:Nat)(v:AV):Nat->AV:=fun i=>bif Nat.beq i d then v else t i
def St.put(st:St)(d:Option Nat)(v:AV)(h:Nat->HO):St:=
 match d with
 |none=>⟨st.t,h⟩
 |some d=>⟨I9 st.t d v,h⟩
def ev(t:Nat->AV):Operand->AV
 |.tmp i=>t i
 |.const v=>.v v
 |.global g=>.v (.pointer (some ⟨g,0,none⟩))
 |.func f=>.v (.func (.func f) #[] #[])
inductive TD
 |int (k:IntKind) |bool |string |slice (e:Nat) |array (n e:Nat) |struct (fs:List (Nat×Nat)) |ptr (e:Nat) |map (k e:Nat) |func |iface |other
structure TI where
 d:TD
 size:Nat
 bytes:Nat
 zero:Value
 eqok:Bool
def TI.zc(i:TI):List Value:=match i.zero with | .agg cs=>cs.toList | v=>[v]
abbrev Gf:=Nat->TI
structure Nm where
 frz:List Nat
 tok:List (Nat×Nat)
 arr:List (Nat×Nat)
 fz:List (Nat×List Nat)
 fin:List Nat
 mku:List Nat
 dyn:List Nat
 tz:List (Nat×(Nat×Nat×Nat×Nat))
 dc:List (Nat×Nat)
 ak:List (Nat×Nat)
 cut:List Nat
def In(l:List Nat)(n:Nat):Bool:=
 match l with
 | []=>false
 |x::r=>bif Nat.beq x n then true else In r n
def Gv(l:List (Nat×Nat))(n:Nat):Option Nat:=
 match l with
 | []=>none
 |(x,y)::r=>bif Nat.beq x n then some y else Gv r n
def str0(h:Nat->HO):AV->AV
 |.slice _ es=>.slice .none es
 |.ref r off=>match h r with |.ro cs=>.cptr (cs.drop off) |_=>.junk
 |.mref r=>match h r with |.rom sh BU=>.cmap sh BU |_=>.junk
 |.v x=>.v x
 |.cptr cs=>.cptr cs
 |.cmap s m=>.cmap s m
 |_=>.junk
def str(h:Nat->HO):AV->AV
 |.agg cs=>.agg (cs.map (str0 h))
 |.clo f cs=>.clo f (cs.map (str0 h))
 |a=>str0 h a
def Rx(h:Nat->HO)(BU:List (Value×AV)):List (Value×AV):=BU.map fun p=>(p.1,str h p.2)
def iB(h:Nat->HO)(r:Nat):Nat->HO:=
 match h r with
 |.cells cs=>AP h r (.ro (cs.map (str h)))
 |.map sh BU=>AP h r (.rom sh BU)
 |.mapU sh BU=>AP h r (.rom sh (Rx h BU))
 |_=>h
def Oy(h:Nat->HO):List Nat->Nat->HO
 | []=>h
 |r::l=>Oy (iB h r) l
def py(l:List (Nat×List Nat))(n:Nat):List Nat:=
 match l with
 | []=>[]
 |(x,y)::r=>bif Nat.beq x n then y else py r n
def sc(l:List (Nat×(Nat×Nat×Nat×Nat)))(n:Nat):Option (Nat×Nat×Nat×Nat):=
 match l with
 | []=>none
 |(x,y)::r=>bif Nat.beq x n then some y else sc r n
def IP(l:List AV)(n:Nat):AV:=
 match l with
 | []=>.junk
 |x::r=>match n with |0=>x |n+1=>IP r n
def Ei(cs:List AV)(o:Nat)(v:AV):List AV:=
 match cs with
 | []=>[]
 |c::cs=>match o with |0=>v::cs |o+1=>c::Ei cs o v
def wQ(h:Nat->HO)(r k j sz:Nat):Nat->HO:=
 match h r with
 |.cells cs=>match IP cs k with
  |.v (.slice none 0 0)=>match h j with
   |.free=>AP (AP h j (.tok sz 0)) r (.cells (Ei cs k (.slice (.id j sz) [])))
   |_=>h
  |_=>h
 |_=>h
def rsv(h:Nat->HO):AV->AV
 |.ref r off=>match h r with |.ro cs=>.cptr (cs.drop off) |_=>.ref r off
 |.mref r=>match h r with |.rom sh BU=>.cmap sh BU |_=>.mref r
 |a=>a
def one:AV->Bool
 |.v x=>x.oneCell'
 |.agg _ |.tup _ |.junk=>false
 |_=>true
def Gu:List AV->Bool
 | []=>true
 |a::r=>match one a with |true=>Gu r |false=>false
def vN:AV->List AV
 |.agg cs=>cs
 |a=>[a]
def A8(a:Int):Prop:=-9223372036854775808<=a/\a<9223372036854775808
def LJ(cs:List AV)(K:AV->Prop):Prop:=
 match cs with
 |a::_=>K a
 | []=>False
def Iv(p:Prop)(K:AV->Prop):Prop:=(p->K (.v (.bool true)))/\(¬p->K (.v (.bool false)))
def K4(T:Gf)(t:Nat)(cs:List AV)(K:AV->Prop):Prop:=
 match(T t).d with
 |.struct _=>(T t).size<=cs.length/\K (.agg (cs.take (T t).size))
 |.array _ _=>(T t).size<=cs.length/\K (.agg (cs.take (T t).size))
 |.bool=>LJ cs fun |.v (.bool b)=>(b=true->K (.v (.bool true)))/\(b=false->K (.v (.bool false))) |_=>False
 |.other=>False
 |_=>LJ cs K
def Zn:List AV->List AV->Prop
 | [],[]=>True
 |.v (.int _ a)::r,.v (.int _ b)::s=>a=b/\Zn r s
 |.v (.string a)::r,.v (.string b)::s=>a=b/\Zn r s
 |.v (.bool a)::r,.v (.bool b)::s=>a=b/\Zn r s
 |_,_=>False
def rX:IntKind->IntKind->Bool
 |.i64,.i64 |.u8,.u8 |.u32,.u32 |.i32,.i32 |.u64,.u64 |.u16,.u16 |.i16,.i16 |.i8,.i8=>true
 |_,_=>false
def Nx(f:Nat->Option (List KS)):Nat->List (Nat×Nat)->Option (List KS)
 |_,[]=>some []
 |n,(t,o)::r=>match Nat.beq o n with
  |true=>match f t with
   |some a=>match Nx f (n+a.length) r with
    |some b=>some (a++b)
    |none=>none
   |none=>none
  |false=>none
def Hf(T:Gf):Nat->Nat->Option (List KS)
 |0,_=>none
 |n+1,t=>match(T t).d with
  |.int k=>match(T t).size with |1=>some [.int k] |_=>none
  |.string=>match(T t).size with |1=>some [.str] |_=>none
  |.bool=>match(T t).size with |1=>some [.bool] |_=>none
  |.struct fs=>match(T t).eqok with
   |true=>match Nx (Hf T n) 0 fs with
    |some l=>match Nat.beq l.length (T t).size with |true=>some l |false=>none
    |none=>none
   |false=>none
  |_=>none
def M5:KS->Value->Bool
 |.int k,.int k' _=>rX k k'
 |.str,.string _=>true
 |.bool,.bool _=>true
 |_,_=>false
def X2:List KS->List AV->Bool
 | [],[]=>true
 |k::r,.v x::s=>match M5 k x with |true=>X2 r s |false=>false
 |_,_=>false
def rI(T:Gf)(t:Nat)(x y:AV)(K:AV->Prop):Prop:=
 match(T t).d with
 |.bool=>match x,y with
  |.v (.bool a),.v (.bool b)=>K (.v (.bool (a == b)))
  |_,_=>False
 |.struct _=>match x,y with
  |.agg xs,.agg ys=>match Hf T 8 t with
   |some l=>match X2 l xs with
    |true=>match X2 l ys with
     |true=>Iv (Zn xs ys) K
     |false=>False
    |false=>False
   |none=>False
  |_,_=>False
 |.slice _=>match x,y with
  |.slice _ es,.v (.slice none 0 0)=>(es≠[]->K (.v (.bool false)))/\(es=[]->K (.v (.bool true))/\K (.v (.bool false)))
  |.v (.slice none 0 0),.v (.slice none 0 0)=>K (.v (.bool true))
  |_,_=>False
 |.ptr _=>match x,y with
  |.v (.pointer none),.v (.pointer none)=>K (.v (.bool true))
  |.cptr _,.v (.pointer none)=>K (.v (.bool false))
  |.ref _ _,.v (.pointer none)=>K (.v (.bool false))
  |.eref _ _ _ _ _,.v (.pointer none)=>K (.v (.bool false))
  |_,_=>False
 |_=>False
def fy:AV->Prop
 |.v (.bool true)=>K (.v (.bool false))
 |.v (.bool false)=>K (.v (.bool true))
 |_=>False
def GV(k:IntKind)(a b:Int):Int:=
 match op with
 |.and=>k.wrap (BitVec.ofInt k.bits a &&& BitVec.ofInt k.bits b).toNat
 |.or=>k.wrap (BitVec.ofInt k.bits a |||BitVec.ofInt k.bits b).toNat
 |_=>k.wrap (BitVec.ofInt k.bits a ^^^ BitVec.ofInt k.bits b).toNat
def WH(k:IntKind)(a b:Int):Int:=
 match op with
 |.shl=>k.wrap (a*2 ^ min b.toNat k.bits)
 |_=>a.fdiv (2 ^ min b.toNat k.bits)
def TS(k:IntKind)(a b:Int)(K:AV->Prop):Prop:=
 match op with
 |.shl=>0<=b/\K (.v (.int k (WH .shl k a b)))
 |.shr=>0<=b/\K (.v (.int k (WH .shr k a b)))
 |_=>False
def VJ(k:IntKind)(a b:Int)(K:AV->Prop):Prop:=
 match op with
 |.quo=>(0<=a/\0<b/\k.wrap (a / b)=a / b)/\K (.v (.int k (a / b)))
 |.rem=>(0<=a/\0<b)/\K (.v (.int k (a % b)))
 |.and=>K (.v (.int k (GV .and k a b)))
 |.or=>K (.v (.int k (GV .or k a b)))
 |.xor=>K (.v (.int k (GV .xor k a b)))
 |.add=>K (.v (.int k (k.wrap (a+b))))
 |.sub=>K (.v (.int k (k.wrap (a-b))))
 |.mul=>K (.v (.int k (k.wrap (a*b))))
 |op=>TS op k a b K
def RY(k:IntKind)(a b:Int)(K:AV->Prop):Prop:=
 match k with
 |.i64=>match op with
  |.add=>A8 (a+b)/\K (.v (.int .i64 (a+b)))
  |.sub=>A8 (a-b)/\K (.v (.int .i64 (a-b)))
  |.mul=>A8 (a*b)/\K (.v (.int .i64 (a*b)))
  |.quo=>(0<=a/\0<b/\A8 a)/\K (.v (.int .i64 (a / b)))
  |.rem=>(0<=a/\0<b)/\K (.v (.int .i64 (a % b)))
  |op=>VJ op .i64 a b K
 |k=>VJ op k a b K
def Sb(T:Gf)(op:BinOp)(t:Nat)(x y:AV)(K:AV->Prop):Prop:=
 match x,y with
 |.v (.int k a),.v (.int k' b)=>match rX k k' with
  |false=>TS op k a b K
  |true=>match op with
   |.eql=>Iv (a=b) K
   |.neq=>Iv (a≠b) K
   |.lss=>Iv (a<b) K
   |.leq=>Iv (a<=b) K
   |.gtr=>Iv (b<a) K
   |.geq=>Iv (b<=a) K
   |op=>RY op k a b K
 |.v (.string a),.v (.string b)=>match op with
   |.eql=>Iv (a=b) K
   |.neq=>Iv (a≠b) K
   |.lss=>Iv (Op.bytesLess a.toList b.toList=true) K
   |.geq=>Iv (Op.bytesLess a.toList b.toList=false) K
   |.gtr=>Iv (Op.bytesLess b.toList a.toList=true) K
   |.leq=>Iv (Op.bytesLess b.toList a.toList=false) K
   |.add=>((a.size+b.size:Nat):Int)<=9223372036854775807/\K (.v (.string (a++b)))
   |_=>False
 |x,y=>match op with
  |.eql=>rI T t x y K
  |.neq=>rI T t x y (fy K)
  |_=>False
def W8(T:Gf)(op:BinOp)(t:Nat)(Y:Operand)(x y:AV)(K:AV->Prop):Prop:=
 match Y with
 |.const .nilIface=>match x with
  |.v .nilIface=>match(T t).d with
   |.iface=>match op with
    |.eql=>K (.v (.bool true))
    |.neq=>K (.v (.bool false))
    |_=>False
   |_=>False
  |_=>False
 |_=>Sb T op t x y K
def UM(T:Gf)(s t:Nat)(x:AV)(K:AV->Prop):Prop:=
 match(T s).d,(T t).d,x with
 |.int _,.int .i64,.v (.int _ n)=>A8 n/\K (.v (.int .i64 n))
 |.int _,.int k,.v (.int _ n)=>K (.v (.int k (k.wrap n)))
 |.string,.string,.v (.string s)=>K (.v (.string s))
 |.slice e,.string,.slice _ es=>match(T e).d with
  |.int .u8=>∃l:List UInt8,es=l.map (fun b=>[AV.v (.int .u8 b.toNat)])/\K (.v (.string ⟨l.toArray⟩))
  |_=>False
 |_,_,_=>False
def VY(fs:List (Nat×Nat))(n:Nat):Option (Nat×Nat):=
 match fs with
 | []=>none
 |x::r=>match n with |0=>some x |n+1=>VY r n
def Sx(T:Gf)(s f:Nat)(x:AV)(K:AV->Prop):Prop:=
 match(T s).d with
 |.struct fs=>match VY fs f with
  |some (t,o)=>match(T t).size with
   |0=>False
   |_+1=>match x with
    |.cptr cs=>K (.cptr (cs.drop o))
    |.ref r off=>K (.ref r (off+o))
    |.eref r n z i off=>K (.eref r n z i (off+o))
    |_=>False
  |none=>False
 |_=>False
def Yv(T:Gf)(t:Nat)(cs:List AV)(K:AV->Prop):Prop:=K4 T t cs K
def Oo(T:Gf)(s f:Nat)(x:AV)(K:AV->Prop):Prop:=
 match(T s).d,x with
 |.struct fs,.agg cs=>match VY fs f with
  |some (t,o)=>Yv T t (cs.drop o) K
  |none=>False
 |_,_=>False
def I2(T:Gf)(t:Nat)(x ix:AV)(K:AV->Prop):Prop:=
 match(T t).d,ix with
 |.slice e,.v (.int .i64 i)=>match(T e).size with
  |0=>False
  |_+1=>match x with
   |.slice _ es=>∃cs,(0<=i/\es[i.toNat]?=some cs)/\cs.length=(T e).size/\K (.cptr cs)
   |.msl r n=>(0<=i/\i<n)/\K (.eref r n (T e).size i.toNat 0)
   |_=>False
 |.array n e,.v (.int .i64 i)=>match(T e).size with
  |0=>False
  |_+1=>match x with
   |.cptr cs=>(0<=i/\i<n)/\K (.cptr (cs.drop (i.toNat*(T e).size)))
   |.ref r off=>(0<=i/\i<n)/\K (.ref r (off+i.toNat*(T e).size))
   |_=>False
 |_,_=>False
def S8(T:Gf)(t:Nat)(x ix:AV)(K:AV->Prop):Prop:=
 match(T t).d,x,ix with
 |.string,.v (.string s),.v (.int _ i)=>∃b:UInt8,(0<=i/\s.data[i.toNat]?=some b)/\K (.v (.int .u8 b.toNat))
 |.array n e,.agg cs,.v (.int .i64 i)=>(0<=i/\i<n)/\Yv T e (cs.drop (i.toNat*(T e).size)) K
 |_,_,_=>False
def Cw(t:Nat->AV):Option Operand->Option (Option Int)
 |none=>some none
 |some x=>match ev t x with |.v (.int .i64 i)=>some (some i) |_=>none
def over{α:Type}(cs:List α)(o:Nat)(vs:List α):List α:=
 match cs with
 | []=>[]
 |c::cs=>match o with
  |o+1=>c::over cs o vs
  |0=>match vs with
   | []=>c::cs
   |v::vs=>v::over cs 0 vs
structure Gh where
 ρ:Nat->Value
 ln:Nat->Nat
 tk:Nat->Bool
 own:Nat->Option Nat
 S:Nat->Nat->Prop
def Je:List KS->List Value->Bool
 | [],[]=>true
 |k::r,v::s=>match M5 k v with |true=>Je r s |false=>false
 |_,_=>false
def WE(v:Value):Bool:=
 match sh.agg,v with
 |true,.agg cs=>Je sh.l cs.toList
 |false,v=>Je sh.l [v]
 |_,_=>false
def GU(es:Array MapEntry)(ck:Nat)(BU:List (Value×AV)):Prop:=
 es.size=BU.length/\(∀(i:Nat) (kv:Value×AV) (e:MapEntry),BU[i]?=some kv->es[i]?=some e->e.key=kv.1) /\
 (∀kv∈BU,WE sh kv.1=true)/\(BU.map (·.1)).Nodup/\(∀(i:Nat) (e:MapEntry),es[i]?=some e->e.born<ck) /\
 ∀(i j:Nat) (e e' : MapEntry),es[i]?=some e->es[j]?=some e'->e.born=e'.born->i=j
inductive A3(g:Gh)(w:World):(Nat->Prop)->AV->Value->Prop
 |v (U:Nat->Prop) (x:Value):A3 g w U (.v x) x
 |junk (U:Nat->Prop) (x:Value):A3 g w U .junk x
 |snil (U:Nat->Prop) (a:Option Addr) (cap:Nat):A3 g w U (.slice .none []) (.slice a 0 cap)
 |slice (U:Nat->Prop) (es:List (List AV)) (b off sz cap:Nat) (val:Nat->Nat->Value) (hc:es.length<=cap)
   (hl:∀(i:Nat) (cs:List AV),es[i]?=some cs->cs.length=sz)
   (Dg:∀(i:Nat) (cs:List AV) (j:Nat) (av:AV),es[i]?=some cs->cs[j]?=some av ->
    g.S b (off+i*sz+j)/\w.cell? ⟨b,off+i*sz+j,none⟩=some (val i j)/\(val i j).oneCell'=true)
   (DH:∀(i:Nat) (cs:List AV) (j:Nat) (av:AV),es[i]?=some cs->cs[j]?=some av->A3 g w (fun _=>False) av (val i j)) :
   A3 g w U (.slice .none es) (.slice (some ⟨b,off,none⟩) es.length cap)
 |tok (U:Nat->Prop) (r sz:Nat) (es:List (List AV)) (x:Value) (h:A3 g w U (.slice .none es) x) (hl:∀c∈es,c.length=sz) (hu:U r) (ht:g.tk r=true) (hn:es.length<=g.ln r)
   (hx:es.length=g.ln r->x=g.ρ r):A3 g w U (.slice (.id r sz) es) x
 |ver (U:Nat->Prop) (r sz v:Nat) (es:List (List AV)) (x:Value) (h:A3 g w U (.slice .none es) x) (hl:∀c∈es,c.length=sz) (hu:U r) (ht:g.tk r=true) (hn:v<=g.ln r)
   (hx:v=g.ln r->x=g.ρ r):A3 g w U (.slice (.ver r sz v) es) x
 |full (U:Nat->Prop) (sz:Nat) (es:List (List AV)) (x:Value) (h:A3 g w U (.slice .none es) x) (hl:∀c∈es,c.length=sz) (hx:∃a,x=.slice a es.length es.length):A3 g w U (.slice (.full sz) es) x
 |msl (U:Nat->Prop) (r n:Nat) (a:Option Addr) (cap:Nat) (hu:U r) (ht:g.tk r=true) (hn:n<=g.ln r) (ha:n=0\/∃b,a=some ⟨b,0,none⟩) (hx:n=g.ln r->.slice a n cap=g.ρ r) :
   A3 g w U (.msl r n) (.slice a n cap)
 |agg (U:Nat->Prop) (cs:List AV) (vs:Array Value) (hs:vs.size=cs.length) (h1:∀(i:Nat) (x:Value),vs[i]?=some x->x.oneCell'=true)
   (h:∀(i:Nat) (av:AV) (x:Value),cs[i]?=some av->vs[i]?=some x->A3 g w U av x):A3 g w U (.agg cs) (.agg vs)
 |tup (U:Nat->Prop) (cs:List AV) (vs:Array Value) (hs:vs.size=cs.length)
   (h:∀(i:Nat) (av:AV) (x:Value),cs[i]?=some av->vs[i]?=some x->A3 g w U av x):A3 g w U (.tup cs) (.tuple vs)
 |cptr (U:Nat->Prop) (cs:List AV) (b off:Nat) (val:Nat->Value)
   (Dg:∀(j:Nat) (av:AV),cs[j]?=some av->g.S b (off+j)/\w.cell? ⟨b,off+j,none⟩=some (val j)/\(val j).oneCell'=true)
   (DH:∀(j:Nat) (av:AV),cs[j]?=some av->A3 g w (fun _=>False) av (val j)) :
   A3 g w U (.cptr cs) (.pointer (some ⟨b,off,none⟩))
 |ref (U:Nat->Prop) (r off b:Nat) (hu:U r) (ht:g.tk r=false) (hx:g.ρ r=.pointer (some ⟨b,0,none⟩)):A3 g w U (.ref r off) (.pointer (some ⟨b,off,none⟩))
 |eref (U:Nat->Prop) (r n sz i off b cap:Nat) (hu:U r) (ht:g.tk r=true) (hn:i<n/\n<=g.ln r) (hx:n=g.ln r->g.ρ r=.slice (some ⟨b,0,none⟩) n cap) :
   A3 g w U (.eref r n sz i off) (.pointer (some ⟨b,i*sz+off,none⟩))
 |mref (U:Nat->Prop) (r b:Nat) (hu:U r) (ht:g.tk r=false) (hx:g.ρ r=.map (some b)):A3 g w U (.mref r) (.map (some b))
 |cmap (U:Nat->Prop) (sh:Er) (BU:List (Value×AV)) (b:Nat) (es:Array MapEntry) (ck:Nat) (hS:g.S b 0) (hb:w.heap[b]?=some (.map es ck)) (hm:GU sh es ck BU)
   (h:∀(i:Nat) (kv:Value×AV) (e:MapEntry),BU[i]?=some kv->es[i]?=some e->A3 g w (fun _=>False) kv.2 e.val):A3 g w U (.cmap sh BU) (.map (some b))
 |clo (U:Nat->Prop) (f:Nat) (cs:List AV) (vs:Array Value) (hs:vs.size=cs.length)
   (h:∀(i:Nat) (av:AV) (x:Value),cs[i]?=some av->vs[i]?=some x->A3 g w U av x):A3 g w U (.clo f cs) (.func (.func f) #[] vs)
def HO.live:HO->Prop
 |.free |.dead |.vox _ |.ro _ |.rom _ _=>False
 |_=>True
def AI(h:Nat->HO)(r:Nat):Prop:=h r≠.free
def DR:Nat->Prop:=fun _=>False
def Cg(g:Gh)(w:World)(U:Nat->Prop)(cs:List AV)(vs:List Value):Prop:=
 vs.length=cs.length/\(∀x∈vs,x.oneCell'=true)/\∀(i:Nat) (av:AV) (x:Value),cs[i]?=some av->vs[i]?=some x->A3 g w U av x
def Ob:List Nat->Code->Bool
 |bs,.block id c=>Ob (id::bs) c
 |bs,.seq a b=>Ob bs a||Ob bs b
 |bs,.cond _ a b=>Ob bs a||Ob bs b
 |bs,.loop c=>Ob bs c
 |bs,.exit id=>!(bs.any fun i=>Nat.beq i id)
 |_,_=>false
def sf:Obj->Bool
 |.loop r=>Ob [] r.body
 |_=>false
def Qy(w:World)(b:Nat)(vs:Array Value)(E:TypeId):Prop:=∃f:Nat×Nat,w.heap[b]?=some (.cells vs E f)/\(f=(0,0)\/vs.size<=f.1)
theorem Qy.eq{w w' : World}{b:Nat}(h:Qy w b vs E)(e:w'.heap[b]?=w.heap[b]?):Qy w' b vs E:=by
 obtain⟨f,h1,h2⟩:=h;exact⟨f,e.trans h1,h2⟩
theorem Qy.of{w:World}{b:Nat}(h:w.heap[b]?=some (.cells vs E (0,0))):Qy w b vs E:=⟨_,h,.inl rfl⟩
def W9:Nat:=104
def u8T:Nat:=5
def DD(g:Gh)(w:World)(U:Nat->Prop)(r:Nat):HO->Prop
  |.free |.dead=>True
  |.cells cs=>g.tk r=false/\∃b E vs,g.own r=some b/\g.ρ r=.pointer (some ⟨b,0,none⟩)/\w.heap[b]?=some (.cells vs E (0,0))/\Cg g w U cs vs.toList/\∀o,¬g.S b o
  |.ro cs=>g.tk r=false/\∃b,g.ρ r=.pointer (some ⟨b,0,none⟩)/\A3 g w DR (.cptr cs) (.pointer (some ⟨b,0,none⟩))
  |.tok sz n=>g.tk r=true/\g.ln r=n/\∃a cap,g.ρ r=.slice a n cap/\(n=cap/\g.own r=none \/
      n<=cap/\∃b E vs off,a=some ⟨b,off,none⟩/\g.own r=some b/\Qy w b vs E/\vs.size=off+cap*sz/\∀o,g.S b o->o<off+n*sz)
  |.var sz v n=>g.tk r=true/\g.ln r=v/\∃a cap,g.ρ r=.slice a n cap/\(n=cap/\g.own r=none \/
      n<=cap/\∃b E vs off,a=some ⟨b,off,none⟩/\g.own r=some b/\Qy w b vs E/\vs.size=off+cap*sz/\∀o,g.S b o->o<off+n*sz)
  |.vox v=>g.tk r=true/\g.ln r=v
  |.arr sz es=>g.tk r=true/\g.ln r=es.length/\(∀cs∈es,cs.length=sz)/\(es=[]/\g.ρ r=.slice none 0 0/\g.own r=none \/
      ∃b cap E vs,g.ρ r=.slice (some ⟨b,0,none⟩) es.length cap/\g.own r=some b/\es.length<=cap/\w.heap[b]?=some (.cells vs E (0,0))/\vs.size=cap*sz /\
        Cg g w DR es.flatten (vs.toList.take (es.length*sz))/\∀o,¬g.S b o)
  |.map sh BU=>g.tk r=false/\∃b es ck,g.own r=some b/\g.ρ r=.map (some b)/\w.heap[b]?=some (.map es ck)/\GU sh es ck BU /\
      (∀(i:Nat) (kv:Value×AV) (e:MapEntry),BU[i]?=some kv->es[i]?=some e->A3 g w DR kv.2 e.val)/\∀o,¬g.S b o
  |.mapU sh BU=>g.tk r=false/\∃b es ck,g.own r=some b/\g.ρ r=.map (some b)/\w.heap[b]?=some (.map es ck)/\GU sh es ck BU /\
      (∀(i:Nat) (kv:Value×AV) (e:MapEntry),BU[i]?=some kv->es[i]?=some e->A3 g w U kv.2 e.val)/\∀o,¬g.S b o
  |.rom sh BU=>g.tk r=false/\∃b,g.ρ r=.map (some b)/\A3 g w DR (.cmap sh BU) (.map (some b))
  |.iter all rem Dn=>g.tk r=false/\∃b mb Jx seen st es ck,g.own r=some b/\g.ρ r=.pointer (some ⟨b,0,none⟩)/\w.heap[b]?=some (.mapIter (some mb) Jx seen st) /\
      g.S mb 0/\w.heap[mb]?=some (.map es ck)/\(∃sh,GU sh es ck all)/\Jx=ck/\st=ck /\
      (∀(i:Nat) (kv:Value×AV) (e:MapEntry),all[i]?=some kv->es[i]?=some e->A3 g w DR kv.2 e.val) /\
      (rem.Nodup/\∀kv∈rem,kv∈all)/\(∀(i:Nat) (kv:Value×AV) (e:MapEntry),all[i]?=some kv->es[i]?=some e->(kv∈rem↔e.born∉seen)) /\
      (match Dn with | none=>True | some kv=>∃(i:Nat) (e:MapEntry),all[i]?=some kv/\es[i]?=some e/\seen.back?=some e.born)/\∀o,¬g.S b o
  |.hol sz es i c a=>g.tk r=true/\g.ln r=es.length/\(∀cs∈es,cs.length=sz)/\∃b cap E vs,g.ρ r=.slice (some ⟨b,0,none⟩) es.length cap/\g.own r=some b/\es.length<=cap/\w.heap[b]?=some (.cells vs E (0,0))/\vs.size=cap*sz /\
        Cg g w DR es.flatten (vs.toList.take (es.length*sz))/\(∀o,¬g.S b o)/\i*sz+c<es.length*sz/\∃x,vs[i*sz+c]?=some x/\A3 g w U a x
  |.raw b ob=>g.tk r=false/\g.own r=some b/\w.heap[b]?=some ob/\sf ob=true/\∀o,¬g.S b o
  |.bld x=>g.tk r=false/\∃b p v,g.own r=some b/\g.ρ r=.pointer (some ⟨b,0,none⟩)/\w.heap[b]?=some (.cells #[p,v] W9 (0,0))/\(p=.pointer none\/p=.pointer (some ⟨b,0,none⟩))/\A3 g w U x v/\∀o,¬g.S b o
  |.bbf n=>g.tk r=true/\g.ln r=n/\(n=0/\g.ρ r=.slice none 0 0/\g.own r=none\/∃b cap Dn,g.ρ r=.slice (some ⟨b,0,none⟩) n cap/\g.own r=some b/\(0<n/\n<=cap)/\cap<=maxLen/\w.heap[b]?=some (.cells Dn u8T (0,0))/\Dn.size=cap/\∀o,g.S b o->o<n)
def gB:Nat:=0
def sX:List (Nat×Nat×Option Value):=[]
def VA(g:Gh)(w:World):Prop:=(g.S gB 0/\∃m,w.cell? ⟨gB,0,none⟩=some (.int .i64 m))/\∀x∈sX,g.S x.1 x.2.1/\w.cell? ⟨x.1,x.2.1,none⟩=x.2.2
structure CA(w0:World)(g0:Gh)(h0:Nat->HO)(h:Nat->HO)(g:Gh)(w:World):Prop where
 os:w.os=w0.os
 tape:w.tape=w0.tape
 output:w.output=w0.output
 size:w0.heap.size<=w.heap.size
 frame:∀b,b<w0.heap.size->(∀r,(h0 r).live->g0.own r≠some b)->w.heap[b]?=w0.heap[b]?
 slt:∀b o,g.S b o->b<w.heap.size
 objs:∀r,DD g w (AI h) r (h r)
 inj:∀r r' b,(h r).live->(h r').live->g.own r=some b->g.own r'=some b->r=r'
 loc:∀r b,(h r).live->g.own r=some b->b<w.heap.size/\(w0.heap.size<=b\/∃r',(h0 r').live/\g0.own r'=some b)
 sg:∀b o,g.S b o->g0.S b o\/w0.heap.size<=b\/∃r',(h0 r').live/\g0.own r'=some b
 glob:VA g w
def D2(g:Gh)(w:World)(g' : Gh)(w' : World):Prop:=
 ∀b o,g.S b o->g'.S b o/\w'.cell? ⟨b,o,none⟩=w.cell? ⟨b,o,none⟩/\∀es ck,w.heap[b]?=some (.map es ck)->w'.heap[b]?=some (.map es ck)
def JA(g g' : Gh)(U:Nat->Prop):Prop:=
 ∀i,U i->g'.tk i=g.tk i/\g.ln i<=g'.ln i/\(g.tk i=false->g'.ρ i=g.ρ i)/\(g'.ln i=g.ln i->g'.ρ i=g.ρ i)
structure Le(h:Nat->HO)(g:Gh)(w:World)(h' : Nat->HO)(g' : Gh)(w' : World):Prop where
 gh:JA g g' (AI h)
 us:∀i,AI h i->AI h' i
 keeps:D2 g w g' w'
def FN (P : Program) (f : Nat) : Prop := ∃ fn, P.funcs[f]? = some fn /\ (fn.name == "runtime.NumGoroutine") = false /\ fn.body.isNone = false
def Bd(P:Program)(f:Nat)(args:List AV)(h0:Nat->HO)(Q:AV->(Nat->HO)->Prop):Prop:=
 FN P f/\∀(g:Gh) (w:World) (vals:Array Value),vals.size=args.length->(∀(i:Nat) (av:AV) (x:Value),args[i]?=some av->vals[i]?=some x->A3 g w (AI h0) av x) ->
  CA w g h0 h0 g w ->
  Calls P f vals w fun e w'=>∃v r h' g',e=.returned v/\Q r h'/\A3 g' w' (AI h') r v/\CA w g h0 h' g' w'/\Le h0 g w h' g' w'
def Ls(P:Program)(f:Nat)(args:List AV)(res:AV):Prop:=Bd P f args Ad fun r h'=>r=res/\h'=Ad
def It(P:Program)(Y:Gh->World->Prop)(l:Nat)(args:List AV)(h0:Nat->HO)(Q:AV->(Nat->HO)->Prop):Prop:=
 ∀(g:Gh) (w:World) (vals:Array Value),vals.size=args.length->(∀(i:Nat) (av:AV) (x:Value),args[i]?=some av->vals[i]?=some x->A3 g w (AI h0) av x) ->
  CA w g h0 h0 g w->Y g w ->
  YieldAt Fence.wide 0 P l vals w fun e w'=>∃v r h' g',e=.returned v/\Q r h'/\A3 g' w' (AI h') r v/\CA w g h0 h' g' w'/\Le h0 g w h' g' w'
def pj(P:Program)(Y:Gh->World->Prop)(f:Nat)(args:List AV)(h0:Nat->HO)(Q:AV->(Nat->HO)->Prop):Prop:=
 FN P f/\∀(g:Gh) (w:World) (vals:Array Value),vals.size=args.length->(∀(i:Nat) (av:AV) (x:Value),args[i]?=some av->vals[i]?=some x->A3 g w (AI h0) av x) ->
  CA w g h0 h0 g w->Y g w ->
  Calls P f vals w fun e w'=>∃v r h' g',e=.returned v/\Q r h'/\A3 g' w' (AI h') r v/\CA w g h0 h' g' w'/\Le h0 g w h' g' w'
def FM(P:Program)(Y:Nat->Gh->World->Prop)(F:AV)(args:List AV)(h:Nat->HO)(Q:AV->(Nat->HO)->Prop):Prop:=
 match F with
 |.v (.func (.func f) ⟨[]⟩ ⟨[]⟩)=>Bd P f args h Q
 |.clo f caps=>Bd P f (args++caps) h Q
 |.v (.func (.yield l) ⟨[]⟩ ⟨[]⟩)=>It P (Y l) l args h Q
 |_=>False
def Pm(P:Program)(F:AV)(args:List AV)(res:AV):Prop:=
 match F with
 |.v (.func (.func f) ⟨[]⟩ ⟨[]⟩)=>Ls P f args res
 |.clo f caps=>Ls P f (args++caps) res
 |_=>False
structure Cx where
 P:Program
 T:Gf
 pl:Nm
 ext:Bool
 nid:Nat
 yp:Nat->List (Nat×Nat)->Gh->World->Prop
variable (cx:Cx)
def JD(d:Nat):Nat:=bif In cx.pl.dyn d then cx.nid else d
abbrev HK:=AV->(Nat->HO)->Prop
def RV(T:Gf)(d:Option Nat)(h:Nat->HO)(e:Nat)(K:HK):Prop:=
 match d with
 |none=>False
 |some d=>match h d with
  |.free=>match(T e).d with
   |.other=>False
   |_=>match Nat.beq e W9 with
    |true=>match h 1001,Nat.beq d 1001,(T e).zc with
     |.free,false,[.pointer none,.slice none 0 0]=>K (.ref d 0) (AP (AP h 1001 (.bbf 0)) d (.bld (.slice (.id 1001 1) [])))
     |_,_,_=>False
    |false=>match Gu ((T e).zc.map .v)with
     |true=>K (.ref d 0) (AP h d (.cells ((T e).zc.map .v)))
     |false=>False
  |_=>False
def GO(n:Nat)(a:AV)(K:List AV->Prop):Prop:=
 match a with
 |.agg cs=>match Nat.beq cs.length n with
  |true=>K cs
  |false=>False
 |a=>match one a with
  |true=>match n with
   |1=>K [a]
   |_=>False
  |false=>False
def dv(d:Option Nat)(h:Nat->HO)(e:Nat)(x:AV)(K:HK):Prop:=
 match d with
 |none=>False
 |some d=>match h d with
  |.free=>match(cx.T e).d with
   |.other=>False
   |_=>GO (cx.T e).size x fun cs=>match In cx.pl.frz d with
    |true=>K (.ref d 0) (AP h d (.ro (cs.map (str h))))
    |false=>K (.ref d 0) (AP h d (.cells cs))
  |_=>False
def NU(h:Nat->HO)(t:Nat)(p x:AV)(K:HK):Prop:=
 match(cx.T t).d with
 |.other=>False
 |_=>GO (cx.T t).size x fun vs=>match p with
  |.ref r off=>match h r with
   |.cells cs=>off+vs.length<=cs.length/\(match In cx.pl.frz r with
    |true=>K (.v undef) (AP h r (.ro ((over cs off vs).map (str h))))
    |false=>K (.v undef) (AP h r (.cells (over cs off vs))))
   |_=>False
  |.eref r n sz i off=>match h r with
   |.arr GS es=>match Nat.beq sz GS with
    |true=>n=es.length/\∃cs,es[i]?=some cs/\off+vs.length<=sz/\(match vs with
     | [.msl j m]=>K (.v undef) (AP h r (.hol sz (es.set i (over cs off [.junk])) i off (.msl j m)))
     |_=>K (.v undef) (AP h r (.arr sz (es.set i (over cs off (vs.map (str h)))))))
    |false=>False
   |_=>False
  |_=>False
def I4(T:Gf)(h:Nat->HO)(t:Nat)(p:AV)(K:AV->Prop):Prop:=
 match p with
 |.cptr cs=>K4 T t cs K
 |.ref r off=>match h r with
  |.cells cs=>K4 T t (cs.drop off) K
  |.ro cs=>K4 T t (cs.drop off) K
  |_=>False
 |.eref r n sz i off=>match h r with
  |.arr GS es=>match Nat.beq sz GS with
   |true=>n=es.length/\∃cs,es[i]?=some cs/\K4 T t (cs.drop off) K
   |false=>False
  |.hol GS es i' c a=>match Nat.beq sz GS with
   |true=>(n=es.length/\i=i'/\off=c)/\K4 T t [a] K
   |false=>False
  |_=>False
 |_=>False
def JV(pl:Nat->Option (Nat×Nat))(cs:List AV)(t:Nat->AV)(ps:List (Nat×Operand))(K:List AV->Prop):Prop:=
 match ps with
 | []=>K cs
 |(i,x)::r=>match pl i with
  |none=>False
  |some (o,n)=>GO n (ev t x) fun vs=>match Nat.ble (o+n) cs.length with
   |true=>JV pl (over cs o vs) t r K
   |false=>False
def N4(T:Gf):List (Nat×Nat)->Bool
 | []=>true
 |(t,_)::r=>match(T t).size with |0=>false |_+1=>N4 T r
def Pq(T:Gf)(ty:Nat)(t:Nat->AV)(ps:List (Nat×Operand))(K:AV->Prop):Prop:=
 match Gu ((T ty).zc.map .v)with
 |false=>False
 |true=>match(T ty).d with
  |.struct fs=>match N4 T fs with
   |false=>False
   |true=>JV (fun i=>match VY fs i with |some (t,o)=>some (o,(T t).size) |none=>none) ((T ty).zc.map .v) t ps fun cs=>K (.agg cs)
  |.array _ e=>match(T e).size with
   |0=>False
   |_+1=>JV (fun i=>some (i*(T e).size,(T e).size)) ((T ty).zc.map .v) t ps fun cs=>K (.agg cs)
  |_=>False
def QI(n sz:Nat)(h:Nat->HO)(es:List (List AV))(t:Nat->AV)(ps:List (Nat×Operand))(K:List (List AV)->Prop):Prop:=
 match ps with
 | []=>K es
 |(i,x)::r=>match Nat.blt i n with
  |true=>GO sz (ev t x) fun vs=>QI n sz h (es.set i (vs.map (str h))) t r K
  |false=>False
abbrev Kk(b:ByteArray):List (List AV):=b.data.toList.map fun c=>[AV.v (.int .u8 c.toNat)]
def ZR(d:Option Nat)(h:Nat->HO)(s t:Nat)(x:AV)(K:HK):Prop:=
 match(cx.T s).d,(cx.T t).d,x with
 |.string,.slice e,.v (.string b)=>match(cx.T e).d,d with
  |.int .u8,some d=>match h (JD cx d)with
   |.free=>K (.slice (.id (JD cx d) 1) (Kk b)) (AP h (JD cx d) (.tok 1 (Kk b).length))
   |_=>False
  |_,_=>False
 |_,_,_=>UM cx.T s t x fun v=>K v h
def EG(d:Option Nat)(h:Nat->HO)(sz:Nat)(es:List (List AV))(K:HK):Prop:=
 match d with
 |none=>False
 |some d=>match h (JD cx d)with
  |.free=>match Gv cx.pl.arr d with
   |some _=>K (.msl (JD cx d) es.length) (AP h (JD cx d) (.arr sz es))
   |none=>K (.slice (.id (JD cx d) sz) es) (AP h (JD cx d) (.tok sz es.length))
  |_=>False
def H5(d:Option Nat)(h:Nat->HO)(ty n:Nat)(t:Nat->AV)(ps:List (Nat×Operand))(K:HK):Prop:=
 match(cx.T ty).d with
 |.slice e=>match Gu ((cx.T e).zc.map .v),Nat.beq (cx.T e).zc.length (cx.T e).size with
  |true,true=>match(cx.T e).size with
   |0=>False
   |_+1=>match Nat.ble (n*(cx.T e).size) 16777216 with
    |true=>QI n (cx.T e).size h (List.replicate n ((cx.T e).zc.map .v)) t ps fun es=>EG cx d h (cx.T e).size es K
    |false=>False
  |_,_=>False
 |_=>False
def J4(t:Nat->AV)(h:Nat->HO)(fn:Fn)(first captured:List Operand)(K:AV->Prop):Prop:=
 match fn,first with
 |.func f,[]=>K (.clo f (captured.map fun x=>rsv h (ev t x)))
 |_,_=>False
def BX(sz:Nat):List (List AV)->Prop
 | []=>True
 |c::r=>c.length=sz/\BX sz r
def Kt(h:Nat->HO)(x:AV)(K:List (List AV)->Prop):Prop:=
 match x with
 |.slice _ es=>K es
 |.v (.slice none 0 0)=>K []
 |.msl r n=>match h r with
  |.arr _ es=>n=es.length/\K es
  |_=>False
 |_=>False
def HS(d:Option Nat)(h:Nat->HO)(ty:Nat)(s x:AV)(K:HK):Prop:=
 match(cx.T ty).d with
 |.slice e=>match Nat.beq (cx.T e).zc.length (cx.T e).size with
  |false=>False
  |true=>match(cx.T e).size with
   |0=>False
   |_+1=>Kt h x fun es2=>match s with
    |.v (.slice none 0 0)=>(BX (cx.T e).size es2/\es2.length*(cx.T e).bytes<=140737488355328/\es2.length<=9223372036854775807)/\EG cx d h (cx.T e).size es2 K
    |.slice (.full GS) es=>match Nat.beq GS (cx.T e).size with
     |true=>(BX (cx.T e).size es2/\0<es2.length/\(es.length+es2.length)*(cx.T e).bytes<=140737488355328/\es.length+es2.length<=9223372036854775807)/\EG cx d h (cx.T e).size (es++es2) K
     |false=>False
    |.slice (.id r GS) es=>match h r with
     |.tok sz n=>match Nat.beq sz (cx.T e).size,Nat.beq GS sz with
      |true,true=>(BX sz es2/\es.length=n/\(es.length+es2.length)*(cx.T e).bytes<=140737488355328/\es.length+es2.length<=9223372036854775807) /\
        K (.slice (.id r sz) (es++es2)) (AP h r (.tok sz (es.length+es2.length)))
      |_,_=>False
     |_=>False
    |.msl r n=>match h r with
     |.arr sz es=>match Nat.beq sz (cx.T e).size with
      |true=>(BX sz es2/\es.length=n/\(es.length+es2.length)*(cx.T e).bytes<=140737488355328/\es.length+es2.length<=9223372036854775807) /\
        K (.msl r (es.length+es2.length)) (AP h r (.arr sz (es++es2)))
      |false=>False
     |_=>False
    |_=>False
 |_=>False
abbrev IC:=List (Nat×Nat)
variable (σ:IC)
inductive r6 | pure | rel | gen (σ:IC) (nn:Nat) | geny (σ:IC) (nn:Nat)
def Cn(σ:IC)(n:Nat):Option Nat:=
 match σ with
 | []=>none
 |(i,j)::r=>bif Nat.beq i n then some j else Cn r n
def HD(σ:IC)(n:Nat):Option Nat:=
 match σ with
 | []=>none
 |(i,j)::r=>bif Nat.beq j n then some i else HD r n
def D4:IC->Bool
 | []=>true
 |(i,j)::r=>(match Cn r i,HD r j with |none,none=>true |_,_=>false)&&Nat.ble 1000 j&&Nat.blt j 2000&&D4 r
def Gy:IC->Bool
 | []=>true
 |(i,j)::r=>(match Cn r i,HD r j with |none,none=>true |_,_=>false)&&Gy r
def ren0(h:Nat->HO):AV->AV
 |.slice (.id r sz) es=>match f r with |some r'=>.slice (.id r' sz) es |none=>.slice .none es
 |.slice (.ver r sz v) es=>match f r with |some r'=>.slice (.ver r' sz v) es |none=>.slice .none es
 |.msl r n=>match f r with |some r'=>.msl r' n |none=>.junk
 |.ref r off=>match f r with |some r'=>.ref r' off |none=>str0 h (.ref r off)
 |.eref r n sz i off=>match f r with |some r'=>.eref r' n sz i off |none=>.junk
 |.mref r=>match f r with |some r'=>.mref r' |none=>str0 h (.mref r)
 |a=>str0 h a
def ren1(h:Nat->HO):AV->AV
 |.agg cs=>.agg (cs.map (ren0 f h))
 |.clo g cs=>.clo g (cs.map (ren0 f h))
 |a=>ren0 f h a
def ren(h:Nat->HO):AV->AV
 |.tup cs=>.tup (cs.map (ren1 f h))
 |a=>ren1 f h a
def HO.ren(h:Nat->HO):HO->HO
 |.cells cs=>.cells (cs.map (ren1 f h))
 |.mapU sh BU=>.mapU sh (BU.map fun p=>(p.1,ren1 f h p.2))
 |.hol sz es i c a=>.hol sz es i c (ren1 f h a)
 |.bld x=>.bld (ren1 f h x)
 |o=>o
def Ag(l:List (Nat×HO))(hb:Nat->HO)(i:Nat):HO:=match l with | []=>hb i | (j,v)::r=>bif Nat.beq i j then v else Ag r hb i
def WA(f:Nat->Option Nat)(h:Nat->HO):IC->List (Nat×HO)
 | []=>[]
 |(i,j)::r=>(j,(h i).ren f h)::WA f h r
def Ff(h:Nat->HO):Nat->HO:=Ag (WA (Cn σ) h σ) Ad
def BM(d k:Nat):Nat:=10000+100*d+k
def EV(d nn:Nat)(j:Nat):Option Nat:=
 match HD σ j with
 |some i=>some i
 |none=>match Nat.ble 2000 j&&Nat.blt j (2000+nn)with |true=>some (BM d (j-2000)) |false=>none
def DS(d nn:Nat)(h h' : Nat->HO):Nat->HO:=fun i=>
 match Cn σ i with
 |some j=>(h' j).ren (EV σ d nn) h'
 |none=>match Nat.ble (BM d 0) i&&Nat.blt i (BM d nn)with |true=>(h' (2000+(i-BM d 0))).ren (EV σ d nn) h' |false=>h i
def DN(h:Nat->HO)(d:Nat):Nat->Bool
 |0=>true
 |k+1=>(match h (BM d k)with |.free=>true |_=>false)&&DN h d k
def CI(σ:IC)(d nn:Nat):Bool:=
 match σ with
 | []=>true
 |(i,_)::r=>!(Nat.ble (BM d 0) i&&Nat.blt i (BM d nn))&&CI r d nn
def RZ(l:List (Nat×Nat))(d:Option Nat):Option Nat:=match d with | none=>none | some d=>Gv l d
def cp:AV->Bool | .tup _=>false | _=>true
def Tr:List AV->Bool
 | []=>true
 |a::r=>match cp a with |true=>Tr r |false=>false
def Vu:List AV->Option (List Value)
 | []=>some []
 |.v x::r=>match Vu r with |some l=>some (x::l) |none=>none
 |_=>none
def Rf(k:Nat)(d:Option Nat)(h:Nat->HO)(F:AV)(args:List AV)(K:HK):Prop:=
 match d,F,args with
 |some d,.v (.func (.func f) ⟨[]⟩ ⟨[]⟩),.msl r n::l=>match Vu l with
  |some vs=>match h r with
   |.arr sz es=>match k with
    |0=>∃n' Fp,Bd cx.P f (.msl 1000 n::vs.map .v) (Ag [(1000,.arr sz es)] Ad) (fun r' h'=>r'=.msl 1000 n'/\h'=Ag [(1000,.arr sz Fp)] Ad)/\K (.msl r n') (AP h r (.arr sz Fp))
    |_+1=>∃n' Fp,(DN h d 1&&Nat.blt r 10000000&&!Nat.beq r (BM d 0))=true/\Bd cx.P f (.msl 1000 n::vs.map .v) (Ag [(1000,.arr sz es)] Ad) (fun r' h'=>r'=.msl 2000 n'/\h'=Ag [(1000,.dead),(2000,.arr sz Fp)] Ad) /\
      K (.msl (BM d 0) n') (AP (AP h r .dead) (BM d 0) (.arr sz Fp))
   |_=>False
  |none=>False
 |_,_,_=>False
def WK(d:Option Nat)(st:St)(F:AV)(args:List AV)(K:HK):Prop:=
 match d with
 |none=>False
 |some d=>∃sz es,(DN st.h d 1&&cp F&&Tr args)=true/\FM cx.P (fun l=>cx.yp l []) (str st.h F) (args.map (str st.h)) Ad (fun r h'=>r=.slice (.id 2000 sz) es/\h'=Ag [(2000,.tok sz es.length)] Ad) /\
   K (.slice (.id (BM d 0) sz) es) (AP st.h (BM d 0) (.tok sz es.length))
def T2(d:Option Nat)(st:St)(F:AV)(args:List AV)(K:HK):Prop:=
  match d,F,Vu args with
  |some _,.v (.func (.yield l) ⟨[]⟩ ⟨[]⟩),some vs=>match st.h 1000,st.h 1001 with
    |.cells [.slice (.id r sz) es],.tok cP n=>(r=1001/\cP=sz)/\∃v Fp n',It cx.P (cx.yp l [(1000,1000),(1001,1001)]) l (vs.map .v) (Ag [(1000,.cells [.slice (.id 1001 sz) es]),(1001,.tok sz n)] Ad)
          (fun r h'=>r=.v v/\h'=Ag [(1000,.cells [.slice (.id 1001 sz) Fp]),(1001,.tok sz n')] Ad) /\
        K (.v v) (AP (AP st.h 1001 (.tok sz n')) 1000 (.cells [.slice (.id 1001 sz) Fp]))
    |_,_=>False
  |_,_,_=>False
def l5:List Nat:=[1000,1001,1002,1003,1004,1005,1006,1007,10900,5]
def iC:AV->Option (Nat×List AV)
 |.v (.func (.func f) ⟨[]⟩ ⟨[]⟩)=>some (f,[])
 |.clo f caps=>some (f,caps)
 |_=>none
def XF(d:Option Nat)(st:St)(F:AV)(args:List AV)(K:HK):Prop:=
 match d,iC F with
 |some d,some (f,caps)=>∃(σ:IC) (H0 Hn:List (Nat×HO)) (args' : List AV) (res:AV),
   (∀h2:Nat->HO,(∀r∈l5,h2 r=st.h r)->Ff σ h2=Ag H0 Ad/\args.map (ren (Cn σ) h2)++caps.map (ren0 (Cn σ) h2)=args')/\(D4 σ&&CI σ d 0&&σ.all fun p=>In l5 p.1)=true /\
   Bd cx.P f args' (Ag H0 Ad) (fun r h'=>r=res/\h'=Ag Hn Ad)/\K (ren (EV σ d 0) (Ag Hn Ad) res) (DS σ d 0 st.h (Ag Hn Ad))
 |_,_=>False
def Rc(k:Nat)(d:Option Nat)(st:St)(F:AV)(args:List AV)(K:HK):Prop:=
 match Nat.beq k 4 with
 |true=>XF cx d st F args K
 |false=>Rf cx k d st.h F args K
def F2(dr:Bool)(d:Option Nat)(st:St)(F:AV)(args:List AV)(K:HK):Prop:=
 match dr with
 |true=>match RZ cx.pl.dc d with
  |none=>∃res,Pm cx.P (str st.h F) (args.map (str st.h)) res/\K res st.h
  |some 0=>match d with
   |none=>False
   |some d=>∃n sz es,(DN st.h d 1&&cp F&&Tr args)=true/\FM cx.P (fun l=>cx.yp l []) (str st.h F) (args.map (str st.h)) Ad (fun r h'=>r=.msl 2000 n/\h'=Ag [(2000,.arr sz es)] Ad) /\
     K (.msl (BM d 0) n) (AP st.h (BM d 0) (.arr sz es))
  |some (k+1)=>match Nat.beq k 2 with
   |true=>WK cx d st F args K
   |false=>match Nat.beq k 3 with
    |true=>T2 cx d st F args K
    |false=>Rc cx k d st F args K
 |false=>∃m:r6,match m with
  |.pure=>∃res,Pm cx.P (str st.h F) (args.map (str st.h)) res/\K res st.h
  |.rel=>FM cx.P (fun _ _ _=>True) (str st.h F) (args.map (str st.h)) Ad fun r h'=>h'=Ad/\K r st.h
  |.gen σ nn=>match d with
   |none=>False
   |some d=>(D4 σ&&DN st.h d nn&&CI σ d nn)=true /\
     FM cx.P (fun l=>cx.yp l σ) (ren (Cn σ) st.h F) (args.map (ren (Cn σ) st.h)) (Ff σ st.h) fun r h'=>K (ren (EV σ d nn) h' r) (DS σ d nn st.h h')
  |.geny σ nn=>match d with
   |none=>False
   |some d=>(D4 σ&&DN st.h d nn&&CI σ d nn)=true /\
     match ren (Cn σ) st.h F with
     |.clo f caps=>pj cx.P (fun g w=>∀l,cx.yp l σ g w) f (args.map (ren (Cn σ) st.h)++caps) (Ff σ st.h) fun r h'=>K (ren (EV σ d nn) h' r) (DS σ d nn st.h h')
     |_=>False
def WM:List AV->Option (List Value)
 | []=>some []
 |.v x::r=>match WM r with |some l=>some (x::l) |none=>none
 |_=>none
def qI:AV->Option Value
 |.v x=>some x
 |.agg cs=>match WM cs with |some l=>some (.agg l.toArray) |none=>none
 |_=>none
def Hy(T:Gf)(t:Nat):Option Er:=
 match(T t).d with
 |.struct _=>match Hf T 8 t with |some l=>some ⟨true,l⟩ |none=>none
 |_=>match Hf T 1 t with |some l=>some ⟨false,l⟩ |none=>none
def mR:KS->KS->Bool
 |.int k,.int k'=>rX k k'
 |.str,.str=>true
 |.bool,.bool=>true
 |_,_=>false
def Td:List KS->List KS->Bool
 | [],[]=>true
 |a::r,b::s=>match mR a b with |true=>Td r s |false=>false
 |_,_=>false
def rj(a b:Er):Bool:=
 match a.agg,b.agg with
 |true,true=>Td a.l b.l
 |false,false=>Td a.l b.l
 |_,_=>false
def JF(T:Gf)(ty:Nat)(sh:Er)(k:AV)(K:Value->Prop):Prop:=
 match(T ty).d with
 |.map kt _=>match Hy T kt with
  |some sh'=>match rj sh sh' with
   |true=>match qI k with
    |some kx=>match WE sh kx with
     |true=>K kx
     |false=>False
    |none=>False
   |false=>False
  |none=>False
 |_=>False
open Classical in
noncomputable def EF(BU:List (Value×AV))(k:Value)(a:AV):List (Value×AV):=
 if ∃a',(k,a')∈BU then BU.map fun p=>if p.1=k then(k,a)else p else BU++[(k,a)]
def J5(T:Gf)(mku:List Nat)(d:Option Nat)(h:Nat->HO)(ty:Nat)(K:HK):Prop:=
 match d with
 |none=>False
 |some d=>match h d with
  |.free=>match(T ty).d with
   |.map kt _=>match Hy T kt with
    |some sh=>match In mku d with
     |true=>K (.mref d) (AP h d (.mapU sh []))
     |false=>K (.mref d) (AP h d (.map sh []))
    |none=>False
   |_=>False
  |_=>False
def GQ(T:Gf)(h:Nat->HO)(ty:Nat)(m k x:AV)(K:HK):Prop:=
 match m with
 |.mref r=>match h r with
  |.map sh BU=>JF T ty sh k fun kx=>K (.v undef) (AP h r (.map sh (EF BU kx (str h x))))
  |.mapU sh BU=>JF T ty sh k fun kx=>K (.v undef) (AP h r (.mapU sh (EF BU kx x)))
  |_=>False
 |_=>False
def JH(T:Gf)(t:Nat)(K:AV->Prop):Prop:=
 match(T t).d with
 |.other=>False
 |_=>match(T t).zero with
  |.agg cs=>match Gu (cs.toList.map .v)with |true=>K (.agg (cs.toList.map .v)) |false=>False
  |z=>K (.v z)
def LF(T:Gf)(ty:Nat)(ok:Bool)(BU:List (Value×AV))(kx:Value)(K:AV->Prop):Prop:=
 match(T ty).d with
 |.map _ e=>match ok with
  |true=>(∀a,(kx,a)∈BU->K (.tup [a,.v (.bool true)]))/\((∀a,(kx,a)∉BU)->JH T e fun z=>K (.tup [z,.v (.bool false)]))
  |false=>(∀a,(kx,a)∈BU->K a)/\((∀a,(kx,a)∉BU)->JH T e K)
 |_=>False
def LD(T:Gf)(ty:Nat)(ok:Bool)(BU:List (Value×AV))(kx:Value)(K:AV->Prop):Prop:=
 match(T ty).d with
 |.map _ e=>match ok with
  |true=>(∃a,((kx,a)∈BU/\∀b,(kx,b)∈BU->b=a)/\K (.tup [a,.v (.bool true)]))\/((∀a,(kx,a)∉BU)/\JH T e fun z=>K (.tup [z,.v (.bool false)]))
  |false=>(∃a,((kx,a)∈BU/\∀b,(kx,b)∈BU->b=a)/\K a)\/((∀a,(kx,a)∉BU)/\JH T e K)
 |_=>False
def Mz(T:Gf)(h:Nat->HO)(ty:Nat)(m k:AV)(ok:Bool)(K:AV->Prop):Prop:=
 match m with
 |.cmap sh BU=>JF T ty sh k fun kx=>LD T ty ok BU kx K
 |.mref r=>match h r with
  |.map sh BU=>JF T ty sh k fun kx=>LD T ty ok BU kx K
  |.mapU sh BU=>JF T ty sh k fun kx=>LD T ty ok BU kx K
  |.rom sh BU=>JF T ty sh k fun kx=>LD T ty ok BU kx K
  |_=>False
 |_=>False
def MA(T:Gf)(h:Nat->HO)(ty:Nat)(m k:AV)(ok:Bool)(K:AV->Prop):Prop:=
 match m with
 |.cmap sh BU=>JF T ty sh k fun kx=>LF T ty ok BU kx K
 |.mref r=>match h r with
  |.map sh BU=>JF T ty sh k fun kx=>LF T ty ok BU kx K
  |.mapU sh BU=>JF T ty sh k fun kx=>LF T ty ok BU kx K
  |.rom sh BU=>JF T ty sh k fun kx=>LF T ty ok BU kx K
  |_=>False
 |_=>False
def aQ(d:Option Nat)(h:Nat->HO)(x:AV)(K:HK):Prop:=
 match d with
 |none=>False
 |some d=>match h d with
  |.free=>match x with
   |.cmap _ BU=>K (.ref d 0) (AP h d (.iter BU BU none))
   |.mref r=>match h r with
    |.rom _ BU=>K (.ref d 0) (AP h d (.iter BU BU none))
    |.map sh BU=>K (.ref d 0) (AP (AP h r (.rom sh BU)) d (.iter BU BU none))
    |_=>False
   |_=>False
  |_=>False
def jz(h:Nat->HO)(x:AV)(K:HK):Prop:=
 match x with
 |.ref r 0=>match h r with
  |.iter all rem _=>(rem=[]->K (.tup [.v (.bool false)]) h) /\
    (∀kv O0,rem.Perm (kv::O0)->K (.tup [.v (.bool true),.v kv.1,kv.2]) (AP h r (.iter all O0 (some kv))))
  |_=>False
 |_=>False
def ZU(h:Nat->HO)(x:AV)(K:AV->Prop):Prop:=
 match x with
 |.ref r 0=>match h r with
  |.iter _ _ (some kv)=>K (.tup [.v kv.1,kv.2])
  |_=>False
 |_=>False
def QR(T:Gf)(t:Nat)(h:Nat->HO)(x:AV)(K:AV->Prop):Prop:=
 match(T t).d with
 |.slice _=>match x with
  |.slice _ es=>K (.v (.int .i64 es.length))
  |.msl _ n=>K (.v (.int .i64 n))
  |.v (.slice none 0 0)=>K (.v (.int .i64 0))
  |_=>False
 |.string=>match x with
  |.v (.string s)=>K (.v (.int .i64 s.size))
  |_=>False
 |.map _ _=>match x with
  |.cmap _ BU=>K (.v (.int .i64 BU.length))
  |.mref r=>match h r with
   |.map _ BU=>K (.v (.int .i64 BU.length))
   |.mapU _ BU=>K (.v (.int .i64 BU.length))
   |.rom _ BU=>K (.v (.int .i64 BU.length))
   |_=>False
  |_=>False
 |_=>False
def HQ(d:Option Nat)(h:Nat->HO)(ty:Nat)(x:AV)(lo hi mx:Option (Option Int))(K:HK):Prop:=
 match lo,hi,mx with
 |some lo,some hi,some mx=>match(cx.T ty).d with
  |.string=>match mx,x with
   |none,.v (.string s)=>(0<=lo.getD 0/\lo.getD 0<=hi.getD s.size/\hi.getD s.size<=s.size)/\K (.v (.string (s.extract (lo.getD 0).toNat (hi.getD s.size).toNat))) h
   |_,_=>False
  |.slice e=>match(cx.T e).size with
   |0=>False
   |_+1=>match x with
    |.slice _ es=>match mx with
     |none=>(0<=lo.getD 0/\lo.getD 0<=hi.getD es.length/\hi.getD es.length<=es.length) /\
       (∀cs∈es,cs.length=(cx.T e).size)/\K (.slice .none ((es.take (hi.getD es.length).toNat).drop (lo.getD 0).toNat)) h
     |some m=>match d,hi with
      |some d,some hi=>match Gv cx.pl.arr d with
       |some _=>(0<=lo.getD 0/\lo.getD 0<=hi/\m=hi/\hi<=es.length)/\(∀cs∈es,cs.length=(cx.T e).size) /\
         K (.slice (.full (cx.T e).size) ((es.take hi.toNat).drop (lo.getD 0).toNat)) h
       |none=>match h d with
        |.free=>(0<=lo.getD 0/\lo.getD 0<=hi/\m=hi/\hi<=es.length)/\(∀cs∈es,cs.length=(cx.T e).size) /\
          K (.slice (.id d (cx.T e).size) ((es.take hi.toNat).drop (lo.getD 0).toNat)) (AP h d (.tok (cx.T e).size (hi.toNat-(lo.getD 0).toNat)))
        |_=>False
      |_,_=>False
    |.v (.slice none 0 0)=>(lo.getD 0=0/\hi.getD 0=0/\mx.getD 0=0)/\(mx=none\/hi≠none)/\K (.v (.slice none 0 0)) h
    |.msl r n=>match h r with
     |.arr sz es=>match Nat.beq sz (cx.T e).size with
      |true=>(n=es.length/\0<=lo.getD 0/\lo.getD 0<=hi.getD es.length/\hi.getD es.length<=es.length/\(mx=none\/(mx=hi/\hi≠none))) /\
        K (.slice .none ((es.take (hi.getD es.length).toNat).drop (lo.getD 0).toNat)) (AP h r .dead)
      |false=>False
     |_=>False
    |_=>False
  |_=>False
 |_,_,_=>False
def TM(d:Option Nat)(h:Nat->HO)(ty:Nat)(x:AV)(lo:Option (Option Int))(hi mx:Option Operand)(K:HK):Prop:=
 match d,lo,hi,mx with
 |some d,some (some lo),none,none=>match(cx.T ty).d with
  |.slice e=>match(cx.T e).size with
   |0=>False
   |_+1=>match x with
    |.slice (.id r sz) es=>match h r with
     |.tok GS n=>match h (JD cx d)with
      |.free=>match Nat.beq GS sz,Nat.beq sz (cx.T e).size with
       |true,true=>(es.length=n/\0<=lo/\lo<=es.length)/\K (.slice (.id (JD cx d) sz) (es.drop lo.toNat)) (AP (AP h r .dead) (JD cx d) (.tok sz (es.drop lo.toNat).length))
       |_,_=>False
      |_=>False
     |_=>False
    |_=>False
  |_=>False
 |_,_,_,_=>False
def jW(d:Option Nat)(h:Nat->HO)(ty:Nat)(x:AV)(hi:Option (Option Int))(K:HK):Prop:=
 match d,hi with
 |some d,some (some hi)=>match(cx.T ty).d with
  |.slice e=>match(cx.T e).size with
   |0=>False
   |_+1=>match x with
    |.msl r n=>match h r with
     |.arr sz es=>match h (JD cx d)with
      |.free=>match Nat.beq sz (cx.T e).size,Nat.blt r 10000000&&Nat.blt 0 (JD cx d)with
       |true,true=>(n=es.length/\0<=hi/\hi<=es.length)/\K (.msl (JD cx d) hi.toNat) (AP (AP h r .dead) (JD cx d) (.arr sz (es.take hi.toNat)))
       |_,_=>False
      |_=>False
     |_=>False
    |_=>False
  |_=>False
 |_,_=>False
def TE(d:Option Nat)(h:Nat->HO)(ty:Nat)(x:AV)(lo:Option Operand)(hi:Option (Option Int))(mx:Option Operand)(K:HK):Prop:=
 match lo,mx with
 |none,none=>jW cx d h ty x hi K
 |_,_=>False
def ZD(T:Gf)(h:Nat->HO)(ty:Nat)(x:AV)(hi mx:Option Operand)(K:AV->Prop):Prop:=
 match hi,mx,(T ty).d,x with
 |none,none,.array n e,.ref r 0=>match(T e).size,h r with
  |1,.ro cs=>n=cs.length/\K (.slice .none (cs.map fun c=>[c]))
  |_,_=>False
 |_,_,_,_=>False
def kh(d:Option Nat)(h:Nat->HO)(ty:Nat)(x:AV)(t:Nat->AV)(lo hi mx:Option Operand)(K:HK):Prop:=
 match lo with
 |none=>match(cx.T ty).d with
  |.array _ _=>ZD cx.T h ty x hi mx fun v=>K v h
  |_=>TE cx d h ty x none (Cw t hi) mx K
 |some lo=>TM cx d h ty x (Cw t (some lo)) hi mx K
def unT:AV->AV
 |.slice _ es=>.slice .none es
 |a=>a
def N9(d:Option Nat)(h:Nat->HO)(x:AV)(K:HK):Prop:=
 match d with
 |none=>K x h
 |some d=>match Gv cx.pl.tok d with
  |some sz=>match Nat.beq sz 0 with
   |true=>K (unT x) h
   |false=>match x with
    |.v (.slice none 0 0)=>match h d with
     |.free=>K (.slice (.id d sz) []) (AP h d (.tok sz 0))
     |_=>False
    |x=>K x h
  |none=>match Gv cx.pl.arr d with
   |some sz=>match x with
    |.v (.slice none 0 0)=>match h d with
     |.free=>K (.msl d 0) (AP h d (.arr sz []))
     |_=>False
    |x=>K x h
   |none=>K x h
def nj(l:List AV)(n:Nat):Option AV:=
 match l with
 | []=>none
 |x::r=>match n with |0=>some x |n+1=>nj r n
def LB(i:Nat)(K:AV->Prop):Prop:=
 match x with
 |.tup vs=>match nj vs i with
  |some a=>K a
  |none=>False
 |_=>False
def J7:Prop:=
 match x with
 |.ref r o=>K (.ref r o)
 |.eref r n z i o=>K (.eref r n z i o)
 |.cptr cs=>K (.cptr cs)
 |.clo f cs=>K (.clo f cs)
 |.v (.func (.func f) a b)=>K (.v (.func (.func f) a b))
 |_=>False
def Yx(c a b:AV)(K:AV->Prop):Prop:=
 match c with
 |.v (.bool true)=>K a
 |.v (.bool false)=>K b
 |_=>False
def m6(f:Int->Int->Int)(x y:AV)(K:AV->Prop):Prop:=
 match x,y with
 |.v (.int k a),.v (.int k' b)=>match rX k k' with
  |true=>K (.v (.int k (f a b)))
  |false=>False
 |_,_=>False
def I5(d:Option Nat)(h:Nat->HO)(ty:Nat)(len cap:AV)(K:HK):Prop:=
 match(cx.T ty).d,len,cap with
 |.slice e,.v (.int .i64 n),.v (.int .i64 c)=>match Gu ((cx.T e).zc.map .v)with
  |true=>match Nat.beq (cx.T e).zc.length (cx.T e).size with
   |true=>match(cx.T e).size with
    |0=>False
    |_+1=>(0<=n/\n<=c/\c*(cx.T e).bytes<=140737488355328/\c<=9223372036854775807)/\EG cx d h (cx.T e).size (List.replicate n.toNat ((cx.T e).zc.map .v)) K
   |false=>False
  |false=>False
 |_,_,_=>False
def Zf(op:UnOp)(x:AV)(K:AV->Prop):Prop:=
 match op,x with
 |.not,x=>fy K x
 |.neg,.v (.int .i64 a)=>A8 (-a)/\K (.v (.int .i64 (-a)))
 |.xor,.v (.int k a)=>K (.v (.int k (GV .xor k (if k.signed then -1 else k.max) a)))
 |_,_=>False
def FF(d:Option Nat)(h:Nat->HO)(b:Builtin)(GI:List Nat)(args:List AV)(K:HK):Prop:=
 match b,args,GI with
 |.len,[x],[t]=>QR cx.T t h x fun v=>K v h
 |.append,[s,x],[t,t']=>match Nat.beq t t' with
  |true=>HS cx d h t s x K
  |false=>False
 |.max,[x,y],_=>m6 max x y fun v=>K v h
 |.min,[x,y],_=>m6 min x y fun v=>K v h
 |_,_,_=>False
def FB(dr:Bool)(o:Oper)(st:St)(K:HK):Prop:=
 match o.op with
 |.move x=>K (ev st.t x) st.h
 |.assign x=>N9 cx o.dst st.h (ev st.t x) K
 |.pick c a b=>Yx (ev st.t c) (ev st.t a) (ev st.t b) fun v=>K v st.h
 |.alloc e=>RV cx.T o.dst st.h e K
 |.box e x=>dv cx o.dst st.h e (ev st.t x) K
 |.build ty ps=>Pq cx.T ty st.t ps.toList fun v=>K v st.h
 |.buildSlice ty n ps=>H5 cx o.dst st.h ty n st.t ps.toList K
 |.insert ty m k x=>GQ cx.T st.h ty (ev st.t m) (ev st.t k) (ev st.t x) K
 |.load ty x=>I4 cx.T st.h ty (ev st.t x) fun v=>K v st.h
 |.store ty p x=>NU cx st.h ty (ev st.t p) (ev st.t x) K
 |.nilCheck x=>J7 (ev st.t x) fun v=>K v st.h
 |.binOp op ty x y _=>W8 cx.T op ty y (ev st.t x) (ev st.t y) fun v=>K v st.h
 |.unOp op _ x=>Zf op (ev st.t x) fun v=>K v st.h
 |.convert s ty x=>match dr with
  |true=>UM cx.T s ty (ev st.t x) fun v=>K v st.h
  |false=>ZR cx o.dst st.h s ty (ev st.t x) K
 |.makeFunc fn first cap=>J4 st.t st.h fn first.toList cap.toList fun v=>K v st.h
 |.makeMap ty none=>J5 cx.T cx.pl.mku o.dst st.h ty K
 |.makeSlice ty n c=>I5 cx o.dst st.h ty (ev st.t n) (ev st.t c) K
 |.slice ty x lo hi mx=>match dr with
  |true=>match RZ cx.pl.tok o.dst with
   |none=>HQ cx o.dst st.h ty (ev st.t x) (Cw st.t lo) (Cw st.t hi) (Cw st.t mx) K
   |some _=>TE cx o.dst st.h ty (ev st.t x) lo (Cw st.t hi) mx K
  |false=>match RZ cx.pl.tok o.dst with
   |none=>HQ cx o.dst st.h ty (ev st.t x) (Cw st.t lo) (Cw st.t hi) (Cw st.t mx) K
   |some _=>kh cx o.dst st.h ty (ev st.t x) st.t lo hi mx K
 |.fieldAddr s x f=>Sx cx.T s f (ev st.t x) fun v=>K v st.h
 |.field s x f=>Oo cx.T s f (ev st.t x) fun v=>K v st.h
 |.indexAddr ty x ix=>I2 cx.T ty (ev st.t x) (ev st.t ix) fun v=>K v st.h
 |.index ty x ix=>S8 cx.T ty (ev st.t x) (ev st.t ix) fun v=>K v st.h
 |.lookup ty x ix ok=>match dr with
  |true=>Mz cx.T st.h ty (ev st.t x) (ev st.t ix) ok fun v=>K v st.h
  |false=>MA cx.T st.h ty (ev st.t x) (ev st.t ix) ok fun v=>K v st.h
 |.mapUpdate ty m k x=>GQ cx.T st.h ty (ev st.t m) (ev st.t k) (ev st.t x) K
 |.range ty x=>match(cx.T ty).d with |.map _ _=>aQ o.dst st.h (ev st.t x) K |_=>False
 |.next it false=>jz st.h (ev st.t it) K
 |.entry it=>ZU st.h (ev st.t it) fun v=>K v st.h
 |.extract x i=>LB (ev st.t x) i fun v=>K v st.h
 |.call c=>match c.callee with
  |.builtin b=>FF cx o.dst st.h b c.argTypes.toList (c.args.toList.map (ev st.t)) K
  |.value f=>F2 cx dr o.dst st (ev st.t f) (c.args.toList.map (ev st.t)) K
  |_=>False
 |_=>False
def KI(ops:List Oper)(j:Nat):Option Nat:=match ops with | []=>none | o::r=>match j with | 0=>o.dst | j+1=>KI r j
def jX(o:Oper)(st:St):St:=
 match o.dst with
 |none=>st
 |some d=>match sc cx.pl.tz d with
  |some (r,k,j,sz)=>⟨st.t,wQ st.h r k j sz⟩
  |none=>match py cx.pl.fz d with
   | []=>st
   |l=>⟨st.t,Oy st.h l⟩
def wV(o:Oper)(st:St)(K:St->Prop):Prop:=
 match o.dst with
 |none=>K st
 |some d=>match Gv cx.pl.ak d with
  |none=>K st
  |some s=>match st.t s with
   |.msl r n=>match st.h r with
    |.arr sz es=>n=es.length/\K ⟨I9 st.t s (.slice (.id r sz) es),AP st.h r (.tok sz es.length)⟩
    |_=>K st
   |_=>K st
def gJ(dr:Bool)(o:Oper)(st:St)(K:St->Prop):Prop:=
 match dr with
 |true=>FB cx true o st fun v h=>K (st.put o.dst v h)
 |false=>wV cx o (jX cx o st) fun Ef=>FB cx false o Ef fun v h=>K (Ef.put o.dst v h)
def Iu(dr:Bool)(all:List Oper)(o:Oper)(st:St)(K:St->Prop):Prop:=
 match o.guard with
 |none=>gJ cx dr o st K
 |some (j,want)=>match KI all j with
  |none=>False
  |some d=>match st.t d,want with
   |.v (.bool true),true=>gJ cx dr o st K
   |.v (.bool false),false=>gJ cx dr o st K
   |.v (.bool true),false=>K (st.put o.dst (.v undef) st.h)
   |.v (.bool false),true=>K (st.put o.dst (.v undef) st.h)
   |.v (.tuple _),_=>K (st.put o.dst (.v undef) st.h)
   |_,_=>False
def X1(o2:Oper):Bool:=
 match o2.op with
 |.call c=>match c.callee with
  |.builtin .clear=>match o.op with
   |.slice ty _ (some _) none none=>match o.dst,o2.dst,c.args.toList,c.argTypes.toList,o.guard,o2.guard with
    |some d,none,[.tmp d'],[ty'],none,none=>Nat.beq d d'&&Nat.beq ty ty'
    |_,_,_,_,_,_=>false
   |_=>false
  |_=>false
 |_=>false
def sM(d:Nat)(st:St)(r i sz:Nat)(es:List (List AV))(z:List Value)(K:St->Prop):Prop:=
 match z.all Value.oneCell' with
 |true=>K ⟨I9 st.t d .junk,AP st.h r (.arr sz (es.take i++List.replicate (es.length-i) (z.map AV.v)))⟩
 |false=>False
def lP(o:Oper)(st:St)(K:St->Prop):Prop:=
 match o.op with
 |.slice ty x (some lo) none none=>match o.dst with
  |some d=>match(cx.T ty).d with
   |.slice e=>match ev st.t x with
    |.msl r n=>match ev st.t lo with
     |.v (.int .i64 i)=>match st.h r with
      |.arr sz es=>match Nat.beq sz (cx.T e).size with
       |true=>match(cx.T e).size with
        |0=>False
        |_+1=>match Nat.beq (cx.T e).zc.length sz with
         |true=>(n=es.length/\0<=i/\i<=es.length)/\sM d st r i.toNat sz es (cx.T e).zc K
         |false=>False
       |false=>False
      |_=>False
     |_=>False
    |_=>False
   |_=>False
  |none=>False
 |_=>False
def W7(cx:Cx)(all l:List Oper)(st:St)(K:St->Prop):Prop:=
 match l with
 | []=>K st
 | [o]=>Iu cx false all o st K
 |o::o2::r=>match X1 o o2 with
  |true=>lP cx o st fun Ef=>W7 cx all r Ef K
  |false=>Iu cx false all o st fun Ef=>W7 cx all (o2::r) Ef K
def XV:AV->List Nat
 |.ref r _=>[r]
 |.mref r=>[r]
 |_=>[]
def mM:List AV->List Nat
 | []=>[]
 |a::r=>XV a++mM r
def Wi:AV->List Nat
 |.agg cs=>mM cs
 |.clo _ cs=>mM cs
 |a=>XV a
def qF:List AV->List Nat
 | []=>[]
 |a::r=>Wi a++qF r
def XU:AV->List Nat
 |.agg cs=>qF cs
 |a=>Wi a
def SX:List AV->List Nat
 | []=>[]
 |a::r=>XU a++SX r
abbrev Fa:=List Nat×Option Nat
def H8(d:Option Nat)(l:List Nat):Option Fa:=match d with | some d=>some (d::l,some d) | none=>none
def fj:AV->List Nat
 |.msl r _=>[r]
 |_=>[]
def VZ(d:Option Nat)(s x:AV):Option Fa:=
 match s with
 |.v (.slice none 0 0)=>H8 (d.map (JD cx)) (fj x)
 |.slice (.full _) _=>H8 (d.map (JD cx)) (fj x)
 |.slice (.id r _) _=>H8 (some r) (fj x)
 |.msl r _=>H8 (some r) (fj x)
 |_=>none
def bE(d:Option Nat)(args:List AV):Option Fa:=
 match d with
 |some d=>match args with
  |.msl r _::_=>some ([r,BM d 0],some (r+10000000*BM d 0))
  |_=>none
 |none=>none
theorem ZY{d:Option Nat}{args:List AV}{f:Fa}(h:bE d args=some f):∃d' r n l,d=some d'/\args=.msl r n::l/\f=([r,BM d' 0],some (r+10000000*BM d' 0)):=by
 unfold bE at h;split at h
 .split at h
  .cases h;exact⟨_,_,_,_,rfl,rfl,rfl⟩
  .cases h
 .cases h
def iw(d:Option Nat)(x:AV):Option Fa:=
 match d with
 |some d=>match x with
  |.msl r _=>some ([r,d],some (r+10000000*d))
  |_=>none
 |none=>none
theorem ZZ{d:Option Nat}{x:AV}{f:Fa}(h:iw d x=some f):∃d' r n,d=some d'/\x=.msl r n/\f=([r,d'],some (r+10000000*d')):=by
 unfold iw at h;split at h
 .split at h
  .cases h;exact⟨_,_,_,rfl,rfl,rfl⟩
  .cases h
 .cases h
def iy(args:List AV):Option Fa:=match Vu args with | some _=>some ([1000,1001],some 10010001000) | none=>none
def VG:Nat:=99999999999999
def iv(k:Nat)(d:Option Nat)(args:List AV):Option Fa:=
 match Nat.beq k 3 with
 |true=>some (l5,some VG)
 |false=>bE d args
def GD(d:Option Nat)(c:Callee)(t:Nat->AV)(args:List AV):Option Fa:=
 match c,args with
 |.builtin .len,[.mref r]=>some ([r],none)
 |.builtin .len,[_]=>some ([],none)
 |.builtin .max,_=>some ([],none)
 |.builtin .min,_=>some ([],none)
 |.builtin .append,[s,x]=>VZ cx d s x
 |.value f,args=>match RZ cx.pl.dc d with
  |none=>some (XU (ev t f)++SX args,none)
  |some 0=>H8 (d.map fun d=>BM d 0) (XU (ev t f)++SX args)
  |some 1=>match args with |.msl r _::_=>some ([r],some r) |_=>none
  |some (k+2)=>match Nat.beq k 1 with
   |true=>H8 (d.map fun d=>BM d 0) (XU (ev t f)++SX args)
   |false=>match Nat.beq k 2 with
    |true=>iy args
    |false=>iv k d args
 |_,_=>none
def ET(o:Oper)(st:St):Option Fa:=
 match o.op with
 |.move _ |.pick .. |.nilCheck _ |.unOp .. |.convert .. |.fieldAddr .. |.field .. |.indexAddr .. |.index .. |.extract .. |.build ..=>some ([],none)
 |.binOp _ _ x _ _=>match ev st.t x with |.slice ..=>none |_=>some ([],none)
 |.assign x=>match ev st.t x with |.v (.slice ..)=>none |_=>some ([],none)
 |.load _ p=>match ev st.t p with |.cptr _=>some ([],none) |.ref r _=>some ([r],none) |.eref r ..=>some ([r],none) |_=>none
 |.call c=>GD cx o.dst c.callee st.t (c.args.toList.map (ev st.t))
 |.alloc e=>match Nat.beq e W9 with |true=>none |false=>H8 o.dst []
 |.box _ x=>H8 o.dst (XU (ev st.t x))
 |.buildSlice _ _ ps=>H8 (o.dst.map (JD cx)) (SX (ps.toList.map fun p=>ev st.t p.2))
 |.store _ p x=>match ev st.t p with
  |.ref r _=>match In cx.pl.frz r with |true=>none |false=>H8 (some r) []
  |.eref r ..=>H8 (some r) (XU (ev st.t x))
  |_=>none
 |.slice _ x _ _ mx=>match RZ cx.pl.tok o.dst with
  |some _=>iw (o.dst.map (JD cx)) (ev st.t x)
  |none=>match mx,ev st.t x with
   |none,.msl ..=>none
   |none,_=>some ([],none)
   |some _,.slice ..=>H8 o.dst []
   |_,_=>none
 |.makeFunc _ _ cap=>some (SX (cap.toList.map (ev st.t)),none)
 |.mapUpdate _ m _ x=>match ev st.t m with |.mref r=>H8 (some r) (XU (ev st.t x)) |_=>none
 |.makeSlice ..=>H8 (o.dst.map (JD cx)) []
 |.lookup _ m _ _=>match ev st.t m with |.cmap ..=>some ([],none) |.mref r=>some ([r],none) |_=>none
 |.makeMap ..=>H8 o.dst []
 |_=>none
def M3(all:List Oper)(o:Oper)(st:St):Option Fa:=
 match o.guard with
 |none=>ET cx o st
 |some (j,want)=>match KI all j with
  |none=>none
  |some d=>match st.t d,want with
   |.v (.bool true),true=>ET cx o st
   |.v (.bool false),false=>ET cx o st
   |_,_=>some ([],none)
def ui(l:List Nat):Bool:=match l with | []=>true | _=>false
def Ys(l:List Nat)(r:Nat):Bool:=bif Nat.beq r VG then ui l else !In l r&&(Nat.blt r 10000000||(!In l (r % 10000000)&&!In l (r / 10000000)))
def Sq(a b:Fa):Bool:=
 (match a.2 with | some r=>Ys b.1 r | none=>true)&&(match b.2 with | some r=>Ys a.1 r | none=>true)
def OB(i:Nat)(D:List Nat):Bool:=o.after.toList.any fun e=>Region.binds .any e&&(Nat.beq e.on i||In D e.on)
def Pv(i:Nat)(D:List Nat)(k:Nat):List Oper->List Nat
 | []=>D
 |o::r=>match OB o i D with
  |true=>Pv i (k::D) (k+1) r
  |false=>Pv i D (k+1) r
def TW(i:Nat)(D:List Nat)(k:Nat):List Oper->Bool
 | []=>true
 |o::r=>(OB o i D||!In D k)&&TW i D (k+1) r
def H4(ops:Array Oper)(oi:Oper)(fi:Fa)(D:List Nat)(k:Nat):List Oper->List Fa->Bool
 |o::r,f::fs=>(In D k||(oi.apart ops o&&Sq fi f))&&H4 ops oi fi D (k+1) r fs
 | [],[]=>true
 |_,_=>false
def Lz(ops:Array Oper)(all:List Oper)(k:Nat):List Oper->List Fa->Bool
 |o::r,f::fs=>
  let D:=Pv k [] 0 all
  (o.after.toList.all fun e=>!Region.binds .any e||Nat.blt e.on k)&&TW k D 0 all&&(D.all fun j=>Nat.blt k j&&Nat.blt j all.length)&&H4 ops o f D (k+1) r fs&&Lz ops all (k+1) r fs
 | [],[]=>true
 |_,_=>false
def Sr(ops:Array Oper)(fs:List Fa):Bool:=Region.noSelect ops&&Lz ops ops.toList 0 ops.toList fs
def W6(cx:Cx)(ops:Array Oper)(l:List Oper)(fs:List Fa)(st:St)(K:St->Prop):Prop:=
 match l with
 | []=>Sr ops fs.reverse=true/\K st
 |o::r=>match M3 cx ops.toList o st with
  |some f=>Iu cx true ops.toList o st fun Ef=>W6 cx ops r (f::fs) Ef K
  |none=>False
def Sv(l:List (Nat×AV))(i:Nat):AV:=match l with | []=>.junk | (j,v)::r=>bif Nat.beq i j then v else Sv r i
structure LS where
 t:List (Nat×AV)
 h:List (Nat×HO)
 hb:Nat->HO
def LS.st(s:LS):St:=⟨Sv s.t,Ag s.h s.hb⟩
def Rt(h:Nat->HO)(r:Nat):Bool:=match h r with | .free=>false | _=>true
def ids0(h:Nat->HO):AV->Bool
 |.slice (.id r _) _=>Rt h r
 |.slice (.ver r _ _) _=>Rt h r
 |.msl r _=>Rt h r
 |.ref r _=>Rt h r
 |.eref r _ _ _ _=>Rt h r
 |.mref r=>Rt h r
 |.agg _ |.tup _ |.clo ..=>false
 |_=>true
def XX(h:Nat->HO):List AV->Bool
 | []=>true
 |a::r=>match ids0 h a with |true=>XX h r |false=>false
def SY(h:Nat->HO):AV->Bool
 |.agg cs=>XX h cs
 |.tup cs=>XX h cs
 |.clo _ cs=>XX h cs
 |a=>ids0 h a
def QP(h:Nat->HO):List (Value×AV)->Bool
 | []=>true
 |p::r=>match SY h p.2 with |true=>QP h r |false=>false
def mN(h:Nat->HO):List AV->Bool
 | []=>true
 |a::r=>match SY h a with |true=>mN h r |false=>false
def XW(h:Nat->HO):HO->Bool
 |.cells cs=>mN h cs
 |.mapU _ BU=>QP h BU
 |.hol _ _ _ _ a=>SY h a
 |.bld x=>SY h x
 |_=>true
def wF(st:St)(h:Nat->HO):List (Nat×AV)->Prop
 | []=>True
 |(j,a)::r=>(st.t j=a/\SY h a=true)/\wF st h r
def wE(st:St)(h:Nat->HO):List (Nat×HO)->Prop
 | []=>True
 |(j,o)::r=>(st.h j=o/\XW h o=true)/\wE st h r
def St.le(st:St)(s:LS):Prop:=
 wF st s.st.h s.t/\wE st s.st.h s.h/\(∀j,s.hb j=.free\/(st.h j=s.hb j/\XW s.st.h (s.hb j)=true)) /\
 match cx.ext with
 |false=>True
 |true=>∀j,1000<=j->j<2000->st.h j≠.free->s.st.h j≠.free
def Mn(ops:Array Oper)(dr:Bool)(st:St)(K:St->Prop):Prop:=
 match dr with
 |false=>W7 cx ops.toList ops.toList st K
 |true=>W6 cx ops ops.toList [] st K
inductive Ex | normal | exit (id:Nat) | ret
def w7(h:Nat->HO)(o k:Nat)(K:(Nat->HO)->Prop):Prop:=
 match h o with
 |.cells cs=>match IP cs k with
  |.msl r n=>match h r with
   |.arr sz es=>n=es.length/\K (AP (AP h r (.tok sz es.length)) o (.cells (Ei cs k (.slice (.id r sz) es))))
   |_=>K h
  |_=>K h
 |_=>K h
def wX(h:Nat->HO)(o k j:Nat)(K:(Nat->HO)->Prop):Prop:=
 match h o with
 |.cells cs=>match IP cs k with
  |.msl r n=>match h r with
   |.arr sz es=>match h j with
    |.free=>n=es.length/\K (AP (AP (AP h r .dead) j (.arr sz es)) o (.cells (Ei cs k (.msl j n))))
    |_=>False
   |_=>False
  |_=>False
 |_=>False
def uvK(h:Nat->HO)(o k d:Nat)(K:(Nat->HO)->Prop):Prop:=
 match h o with
 |.cells cs=>match IP cs k with
  |.slice (.ver r sz v) es=>match h r with
   |.var GS v' _=>match h d with
    |.free=>(v=v'/\sz=GS)/\K (AP (AP (AP h r (.vox v)) d (.tok sz es.length)) o (.cells (Ei cs k (.slice (.id d sz) es))))
    |_=>False
   |_=>False
  |_=>K h
 |_=>False
def wM(h:Nat->HO)(o k r:Nat)(K:(Nat->HO)->Prop):Prop:=
 match h o with
 |.cells cs=>match IP cs k with
  |.slice (.id d sz) es=>match h d with
   |.tok GS n=>match h r with
    |.vox v=>(es.length=n/\sz=GS)/\K (AP (AP (AP h d .dead) r (.var sz (v+1) n)) o (.cells (Ei cs k (.slice (.ver r sz (v+1)) es))))
    |_=>False
   |_=>False
  |_=>K h
 |_=>False
def zH(h:Nat->HO)(r:Nat)(K:(Nat->HO)->Prop):Prop:=
 match h r with
 |.free=>K (AP h r (.vox 0))
 |_=>False
def wL(h:Nat->HO)(o k:Nat)(K:(Nat->HO)->Prop):Prop:=
 match h o with
 |.cells cs=>match IP cs k with
  |.mref r=>match h r with
   |.rom sh BU=>K (AP h o (.cells (Ei cs k (.cmap sh BU))))
   |_=>False
  |_=>False
 |_=>False
def zaK(h:Nat->HO)(o k j sz:Nat)(K:(Nat->HO)->Prop):Prop:=
 match h o with
 |.cells cs=>match IP cs k with
  |.v (.slice none 0 0)=>match h j with
   |.free=>K (AP (AP h j (.arr sz [])) o (.cells (Ei cs k (.msl j 0))))
   |_=>False
  |_=>False
 |_=>False
def x8(id:Nat)(h:Nat->HO)(K:(Nat->HO)->Prop):Prop:=
 match Gv cx.pl.ak (850000+id)with
 |some v=>K (iB h v)
 |none=>K h
def wK(id:Nat)(h:Nat->HO)(K:(Nat->HO)->Prop):Prop:=
 match Gv cx.pl.ak (800000+id)with
 |some v=>wL h (v % 10000) (v / 10000 % 100) K
 |none=>K h
def uH(id:Nat)(h:Nat->HO)(K:(Nat->HO)->Prop):Prop:=
 match Gv cx.pl.ak (810000+id)with
 |some v=>wL h (v % 10000) (v / 10000 % 100) K
 |none=>K h
def r5(id:Nat)(h:Nat->HO)(K:(Nat->HO)->Prop):Prop:=
 match Gv cx.pl.ak (900000+id)with
 |some v=>zaK h (v % 10000) (v / 10000 % 100) (v / 1000000 % 10000) (v / 10000000000) K
 |none=>K h
def zi(h:Nat->HO)(r:Nat)(K:(Nat->HO)->Prop):Prop:=
 match h r with
 |.hol sz es i c (.msl j m)=>match Nat.beq r j with
  |true=>False
  |false=>match h j with
   |.arr cP qs=>m=qs.length/\∃cs,es[i]?=some cs/\c<sz/\K (AP (AP (AP h j (.tok cP qs.length)) j .dead) r (.arr sz (es.set i (over cs c [.slice .none qs]))))
   |_=>False
 |_=>False
def rx(id:Nat)(h:Nat->HO)(K:(Nat->HO)->Prop):Prop:=
 match Gv cx.pl.ak (500000+id)with
 |some v=>uvK h (v % 10000) (v / 10000 % 100) (v / 1000000) K
 |none=>match Gv cx.pl.ak (600000+id)with
  |some v=>wM h (v % 10000) (v / 10000 % 100) (v / 1000000) K
  |none=>match Gv cx.pl.ak (700000+id)with
   |some v=>zH h v K
   |none=>match Gv cx.pl.ak (950000+id)with
    |some v=>zi h v K
    |none=>x8 cx id h fun h=>wK cx id h fun h=>uH cx id h fun h=>r5 cx id h K
def wY(st:St)(s k:Nat)(K:St->Prop):Prop:=
 match st.t s with
 |.msl r n=>match st.h r with
  |.arr sz es=>match k with
   |0=>n=es.length/\K ⟨I9 st.t s (.slice .none es),AP (AP st.h r (.tok sz es.length)) r .dead⟩
   |k+1=>match Nat.beq r (k+1)with
    |true=>K st
    |false=>match st.h (k+1)with
     |.free=>n=es.length/\K ⟨I9 st.t s (.msl (k+1) n),AP (AP st.h r .dead) (k+1) (.arr sz es)⟩
     |_=>False
  |_=>K st
 |_=>K st
def sN(id:Nat)(st:St)(K:St->Prop):Prop:=
 match In cx.pl.cut id with
 |true=>match Gv cx.pl.ak (100000+id)with
  |none=>match Gv cx.pl.ak (200000+id)with
   |none=>match Gv cx.pl.ak (300000+id)with
    |none=>rx cx id st.h fun h'=>∃s:LS,St.le cx ⟨st.t,h'⟩ s/\K s.st
    |some v=>wX st.h (v % 10000) (v / 10000 % 100) (v / 1000000) fun h'=>∃s:LS,St.le cx ⟨st.t,h'⟩ s/\K s.st
   |some v=>wY st (v % 1000) (v / 1000) fun Ef=>∃s:LS,St.le cx Ef s/\K s.st
  |some v=>w7 st.h (v % 1000) (v / 1000) fun h'=>∃s:LS,St.le cx ⟨st.t,h'⟩ s/\K s.st
 |false=>K st
def Rj(cx:Cx)(c:Code)(Q:Ex->St->Prop)(st:St):Prop:=
 match c with
 |.skip=>Q .normal st
 |.label _=>Q .normal st
 |.region id ops dr=>sN cx id st fun st=>match cx.pl.dyn with
  | []=>Mn cx ops dr st (Q .normal)
  |_=>∃n,Mn { cx with nid:=n } ops dr st (Q .normal)
 |.seq a b=>Rj cx a (fun e Ef=>match e with |.normal=>Rj cx b Q Ef |e=>Q e Ef) st
 |.cond c a b=>match ev st.t c with
  |.v (.bool true)=>Rj cx a Q st
  |.v (.bool false)=>Rj cx b Q st
  |_=>False
 |.block id c=>Rj cx c (fun e Ef=>match e with |.exit j=>(bif Nat.beq j id then Q .normal Ef else Q (.exit j) Ef) |e=>Q e Ef) st
 |.loop c=>∃(α:Type) (I:α->LS) (μ:α->Nat),(∃x,St.le cx st (I x)) /\
   ∀x,Rj cx c (fun e Ef=>match e with | .normal=>∃y,μ y<μ x/\St.le cx Ef (I y) | e=>Q e Ef) (I x).st
 |.exit id=>Q (.exit id) st
 |.ret=>Q .ret st
 |_=>False
def Ol:List AV->Nat->AV
 | [],_=>.v undef
 |a::r,n=>match n with |0=>a |n+1=>Ol r n
def nx(T:Gf)(st:St):List ResultVar->(List AV->Prop)->Prop
 | [],K=>K []
 |.tmp i::r,K=>nx T st r fun l=>K (str st.h (st.t i)::l)
 |.cell a t::r,K=>I4 T st.h t (st.t a) fun v=>nx T st r fun l=>K (str st.h v::l)
def nv(st:St)(rs:List ResultVar)(K:AV->Prop):Prop:=
 nx cx.T ⟨st.t,Oy st.h cx.pl.fin⟩ rs fun
  | [v]=>K v
  |vs=>K (.tup vs)
def qa(rs:List ResultVar)(K:AV->Prop)(e:Ex)(st:St):Prop:=
 match e with
 |.normal=>nv cx st rs K
 |.ret=>nv cx st rs K
 |.exit _=>False
def ny(T:Gf)(st:St):List ResultVar->(List AV->Prop)->Prop
 | [],K=>K []
 |.tmp i::r,K=>ny T st r fun l=>K (st.t i::l)
 |.cell a t::r,K=>I4 T st.h t (st.t a) fun v=>ny T st r fun l=>K (v::l)
def fG(st:St)(rs:List ResultVar)(σ:IC)(Q:AV->(Nat->HO)->Prop):Prop:=
 ny cx.T ⟨st.t,Oy st.h cx.pl.fin⟩ rs fun
  | [v]=>Q (ren (Cn σ) (Oy st.h cx.pl.fin) v) (Ff σ (Oy st.h cx.pl.fin))
  |vs=>Q (ren (Cn σ) (Oy st.h cx.pl.fin) (.tup vs)) (Ff σ (Oy st.h cx.pl.fin))
def Xq(rs:List ResultVar)(σ:IC)(Q:AV->(Nat->HO)->Prop)(e:Ex)(st:St):Prop:=
 match e with
 |.normal=>fG cx st rs σ Q
 |.ret=>fG cx st rs σ Q
 |.exit _=>False
def H7(σ:IC):List (Nat×HO)->Bool
 | []=>true
 |(i,_)::r=>Nat.ble 1000 i&&Nat.blt i 2000&&(match Cn σ i with |some j=>Nat.beq j i |none=>false)&&H7 σ r
theorem yN{n m:Nat}{b:Prop}(k:b)(h:n <= m := by exact Ak rfl):n <= m /\ b := ⟨h,k⟩
abbrev nzA:AV := .v (.slice none 0 0)
abbrev pC(a c:List Nat):Nm := ⟨a,[],[],[],[],[],[],[],[],[],c⟩
abbrev pT(a:List Nat)(b:List (Nat×Nat))(c:List Nat):Nm := ⟨a,b,[],[],[],[],[],[],[],[],c⟩
end Go.Eng
