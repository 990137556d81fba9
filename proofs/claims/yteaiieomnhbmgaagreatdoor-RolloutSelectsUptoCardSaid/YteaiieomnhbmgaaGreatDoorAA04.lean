/- Lemmas 4. -/
import Derived.Test.YteaiieomnhbmgaaGreatDoorAA00
import Derived.WalkKit
import Derived.Still
import Derived.RangeFuncSeq
import Derived.OrdersIn
import Derived.TacticsIn
namespace Go.Eng
variable {vs:Array Value}{E:TypeId}(op:BinOp)(f:Nat->Option Nat)(o:Oper)
theorem aa1{p:Prop}(h:p:=by kernel_rfl):p:=h
abbrev CS:=ByteArray
theorem A0a{A:Type}{x:Option A}{a b:A}(h:x=some a)(k:a=b:=by kernel_rfl):x=some b:=h.trans (congrArg some k)
inductive Tk | none | full (sz:Nat) | id (r sz:Nat) | ver (r sz v:Nat)
inductive KS | int (k:IntKind) | str | bool
structure E1 where
 agg:Bool
 l:List KS
variable (sh:E1)
inductive AV
 |v (x:Value)
 |slice (tk:Tk) (es:List (List AV))
 |msl (r n:Nat)
 |agg (cs:List AV)
 |tup (vs:List AV)
 |cptr (cs:List AV)
 |ref (r off:Nat)
 |eref (r n sz i off:Nat)
 |mref (r:Nat)
 |cmap (sh:E1) (BU:List (Value×AV))
 |clo (f:Nat) (caps:List AV)
 |junk
abbrev C0:=List (List AV)
variable (x:AV)(K:AV->Prop)
inductive HO
 |free
 |dead
 |cells (cs:List AV)
 |ro (cs:List AV)
 |tok (sz n:Nat)
 |var (sz v n:Nat)
 |vox (v:Nat)
 |arr (sz:Nat) (es:C0)
 |map (sh:E1) (BU:List (Value×AV))
 |mapU (sh:E1) (BU:List (Value×AV))
 |rom (sh:E1) (BU:List (Value×AV))
 |iter (all rem:List (Value×AV)) (Ep:Option (Value×AV))
 |raw (b:Nat) (ob:Obj)
 |hol (sz:Nat) (es:C0) (i c:Nat) (a:AV)
 |bld (x:AV)
 |bbf (n:Nat)
structure St where
 t:Nat->AV
 h:Nat->HO
def Ae:Nat->HO:=fun _=>.free
def AO(h:Nat->HO)(r:Nat)(o:HO):Nat->HO:=fun i=>bif Nat.beq i r then o else h i
def JU(t:Nat->AV)(d:Nat)(v:AV):Nat->AV:=fun i=>bif Nat.beq i d then v else t i
def St.put(st:St)(d:Option Nat)(v:AV)(h:Nat->HO):St:=
 match d with
 |none=>⟨st.t,h⟩
 |some d=>⟨JU st.t d v,h⟩
def ev(t:Nat->AV):Operand->AV
 |.tmp i=>t i
 |.const v=>.v v
 |.global g=>.v (.pointer (some ⟨g,0,none⟩))
 |.func f=>.v (.func (.func f) #[] #[])
inductive TD
 |int (k:IntKind) |bool |string |slice (e:Nat) |array (n e:Nat) |struct (fs:List (Nat×Nat)) |ptr (e:Nat) |map (k e:Nat) |func |iface |other
structure TI where
 d:TD
 size:Nat
 bytes:Nat
 zero:Value
 eqok:Bool
def TI.zc(i:TI):List Value:=match i.zero with | .agg cs=>cs.toList | v=>[v]
abbrev GK:=Nat->TI
structure Qx where
 frz:List Nat
 tok:List (Nat×Nat)
 arr:List (Nat×Nat)
 fz:List (Nat×List Nat)
 fin:List Nat
 mku:List Nat
 dyn:List Nat
 tz:List (Nat×(Nat×Nat×Nat×Nat))
 dc:List (Nat×Nat)
 ak:List (Nat×Nat)
 cut:List Nat
def IV(l:List Nat)(n:Nat):Bool:=
 match l with
 | []=>false
 |x::r=>bif Nat.beq x n then true else IV r n
def GU(l:List (Nat×Nat))(n:Nat):Option Nat:=
 match l with
 | []=>none
 |(x,y)::r=>bif Nat.beq x n then some y else GU r n
def str0(h:Nat->HO):AV->AV
 |.slice _ es=>.slice .none es
 |.ref r off=>match h r with |.ro cs=>.cptr (cs.drop off) |_=>.junk
 |.mref r=>match h r with |.rom sh BU=>.cmap sh BU |_=>.junk
 |.v x=>.v x
 |.cptr cs=>.cptr cs
 |.cmap s m=>.cmap s m
 |_=>.junk
def str(h:Nat->HO):AV->AV
 |.agg cs=>.agg (cs.map (str0 h))
 |.clo f cs=>.clo f (cs.map (str0 h))
 |a=>str0 h a
def SG(h:Nat->HO)(BU:List (Value×AV)):List (Value×AV):=BU.map fun p=>(p.1,str h p.2)
def m6(h:Nat->HO)(r:Nat):Nat->HO:=
 match h r with
 |.cells cs=>AO h r (.ro (cs.map (str h)))
 |.map sh BU=>AO h r (.rom sh BU)
 |.mapU sh BU=>AO h r (.rom sh (SG h BU))
 |_=>h
def Pw(h:Nat->HO):List Nat->Nat->HO
 | []=>h
 |r::l=>Pw (m6 h r) l
def vY(l:List (Nat×List Nat))(n:Nat):List Nat:=
 match l with
 | []=>[]
 |(x,y)::r=>bif Nat.beq x n then y else vY r n
def zS(l:List (Nat×(Nat×Nat×Nat×Nat)))(n:Nat):Option (Nat×Nat×Nat×Nat):=
 match l with
 | []=>none
 |(x,y)::r=>bif Nat.beq x n then some y else zS r n
def JM(l:List AV)(n:Nat):AV:=
 match l with
 | []=>.junk
 |x::r=>match n with |0=>x |n+1=>JM r n
def E2(cs:List AV)(o:Nat)(v:AV):List AV:=
 match cs with
 | []=>[]
 |c::cs=>match o with |0=>v::cs |o+1=>c::E2 cs o v
def tz1(h:Nat->HO)(r k j sz:Nat):Nat->HO:=
 match h r with
 |.cells cs=>match JM cs k with
  |.v (.slice none 0 0)=>match h j with
   |.free=>AO (AO h j (.tok sz 0)) r (.cells (E2 cs k (.slice (.id j sz) [])))
   |_=>h
  |_=>h
 |_=>h
def rsv(h:Nat->HO):AV->AV
 |.ref r off=>match h r with |.ro cs=>.cptr (cs.drop off) |_=>.ref r off
 |.mref r=>match h r with |.rom sh BU=>.cmap sh BU |_=>.mref r
 |a=>a
def one:AV->Bool
 |.v x=>x.oneCell'
 |.agg _ |.tup _ |.junk=>false
 |_=>true
def GT:List AV->Bool
 | []=>true
 |a::r=>match one a with |true=>GT r |false=>false
def Ad1:AV->List AV
 |.agg cs=>cs
 |a=>[a]
def Az(a:Int):Prop:=-9223372036854775808<=a/\a<9223372036854775808
def LX(cs:List AV)(K:AV->Prop):Prop:=
 match cs with
 |a::_=>K a
 | []=>False
def I2(p:Prop)(K:AV->Prop):Prop:=(p->K (.v (.bool true)))/\(¬p->K (.v (.bool false)))
def L0(T:GK)(t:Nat)(cs:List AV)(K:AV->Prop):Prop:=
 match(T t).d with
 |.struct _=>(T t).size<=cs.length/\K (.agg (cs.take (T t).size))
 |.array _ _=>(T t).size<=cs.length/\K (.agg (cs.take (T t).size))
 |.bool=>LX cs fun |.v (.bool b)=>(b=true->K (.v (.bool true)))/\(b=false->K (.v (.bool false))) |_=>False
 |.other=>False
 |_=>LX cs K
def qD:List AV->List AV->Prop
 | [],[]=>True
 |.v (.int _ a)::r,.v (.int _ b)::s=>a=b/\qD r s
 |.v (.string a)::r,.v (.string b)::s=>a=b/\qD r s
 |.v (.bool a)::r,.v (.bool b)::s=>a=b/\qD r s
 |_,_=>False
def zF:IntKind->IntKind->Bool
 |.i64,.i64 |.u8,.u8 |.u32,.u32 |.i32,.i32 |.u64,.u64 |.u16,.u16 |.i16,.i16 |.i8,.i8=>true
 |_,_=>false
def Ob(f:Nat->Option (List KS)):Nat->List (Nat×Nat)->Option (List KS)
 |_,[]=>some []
 |n,(t,o)::r=>match Nat.beq o n with
  |true=>match f t with
   |some a=>match Ob f (n+a.length) r with
    |some b=>some (a++b)
    |none=>none
   |none=>none
  |false=>none
def HT(T:GK):Nat->Nat->Option (List KS)
 |0,_=>none
 |n+1,t=>match(T t).d with
  |.int k=>match(T t).size with |1=>some [.int k] |_=>none
  |.string=>match(T t).size with |1=>some [.str] |_=>none
  |.bool=>match(T t).size with |1=>some [.bool] |_=>none
  |.struct fs=>match(T t).eqok with
   |true=>match Ob (HT T n) 0 fs with
    |some l=>match Nat.beq l.length (T t).size with |true=>some l |false=>none
    |none=>none
   |false=>none
  |_=>none
def NR:KS->Value->Bool
 |.int k,.int k' _=>zF k k'
 |.str,.string _=>true
 |.bool,.bool _=>true
 |_,_=>false
def aR:List KS->List AV->Bool
 | [],[]=>true
 |k::r,.v x::s=>match NR k x with |true=>aR r s |false=>false
 |_,_=>false
def zj(T:GK)(t:Nat)(x y:AV)(K:AV->Prop):Prop:=
 match(T t).d with
 |.bool=>match x,y with
  |.v (.bool a),.v (.bool b)=>K (.v (.bool (a == b)))
  |_,_=>False
 |.struct _=>match x,y with
  |.agg xs,.agg ys=>match HT T 8 t with
   |some l=>match aR l xs with
    |true=>match aR l ys with
     |true=>I2 (qD xs ys) K
     |false=>False
    |false=>False
   |none=>False
  |_,_=>False
 |.slice _=>match x,y with
  |.slice _ es,.v (.slice none 0 0)=>(es≠[]->K (.v (.bool false)))/\(es=[]->K (.v (.bool true))/\K (.v (.bool false)))
  |.v (.slice none 0 0),.v (.slice none 0 0)=>K (.v (.bool true))
  |_,_=>False
 |.ptr _=>match x,y with
  |.v (.pointer none),.v (.pointer none)=>K (.v (.bool true))
  |.cptr _,.v (.pointer none)=>K (.v (.bool false))
  |.ref _ _,.v (.pointer none)=>K (.v (.bool false))
  |.eref _ _ _ _ _,.v (.pointer none)=>K (.v (.bool false))
  |_,_=>False
 |_=>False
def kd:AV->Prop
 |.v (.bool true)=>K (.v (.bool false))
 |.v (.bool false)=>K (.v (.bool true))
 |_=>False
def Cq(k:IntKind)(a b:Int):Int:=
 match op with
 |.and=>k.wrap (BitVec.ofInt k.bits a &&& BitVec.ofInt k.bits b).toNat
 |.or=>k.wrap (BitVec.ofInt k.bits a |||BitVec.ofInt k.bits b).toNat
 |_=>k.wrap (BitVec.ofInt k.bits a ^^^ BitVec.ofInt k.bits b).toNat
def Cr(k:IntKind)(a b:Int):Int:=
 match op with
 |.shl=>k.wrap (a*2 ^ min b.toNat k.bits)
 |_=>a.fdiv (2 ^ min b.toNat k.bits)
def Vd(k:IntKind)(a b:Int)(K:AV->Prop):Prop:=
 match op with
 |.shl=>0<=b/\K (.v (.int k (Cr .shl k a b)))
 |.shr=>0<=b/\K (.v (.int k (Cr .shr k a b)))
 |_=>False
def XP(k:IntKind)(a b:Int)(K:AV->Prop):Prop:=
 match op with
 |.quo=>(0<=a/\0<b/\k.wrap (a / b)=a / b)/\K (.v (.int k (a / b)))
 |.rem=>(0<=a/\0<b)/\K (.v (.int k (a % b)))
 |.and=>K (.v (.int k (Cq .and k a b)))
 |.or=>K (.v (.int k (Cq .or k a b)))
 |.xor=>K (.v (.int k (Cq .xor k a b)))
 |.add=>K (.v (.int k (k.wrap (a+b))))
 |.sub=>K (.v (.int k (k.wrap (a-b))))
 |.mul=>K (.v (.int k (k.wrap (a*b))))
 |op=>Vd op k a b K
def Tr(k:IntKind)(a b:Int)(K:AV->Prop):Prop:=
 match k with
 |.i64=>match op with
  |.add=>Az (a+b)/\K (.v (.int .i64 (a+b)))
  |.sub=>Az (a-b)/\K (.v (.int .i64 (a-b)))
  |.mul=>Az (a*b)/\K (.v (.int .i64 (a*b)))
  |.quo=>(0<=a/\0<b/\Az a)/\K (.v (.int .i64 (a / b)))
  |.rem=>(0<=a/\0<b)/\K (.v (.int .i64 (a % b)))
  |op=>XP op .i64 a b K
 |k=>XP op k a b K
def Tx(T:GK)(op:BinOp)(t:Nat)(x y:AV)(K:AV->Prop):Prop:=
 match x,y with
 |.v (.int k a),.v (.int k' b)=>match zF k k' with
  |false=>Vd op k a b K
  |true=>match op with
   |.eql=>I2 (a=b) K
   |.neq=>I2 (a≠b) K
   |.lss=>I2 (a<b) K
   |.leq=>I2 (a<=b) K
   |.gtr=>I2 (b<a) K
   |.geq=>I2 (b<=a) K
   |op=>Tr op k a b K
 |.v (.string a),.v (.string b)=>match op with
   |.eql=>I2 (a=b) K
   |.neq=>I2 (a≠b) K
   |.lss=>I2 (Op.bytesLess a.toList b.toList=true) K
   |.geq=>I2 (Op.bytesLess a.toList b.toList=false) K
   |.gtr=>I2 (Op.bytesLess b.toList a.toList=true) K
   |.leq=>I2 (Op.bytesLess b.toList a.toList=false) K
   |.add=>((a.size+b.size:Nat):Int)<=9223372036854775807/\K (.v (.string (a++b)))
   |_=>False
 |x,y=>match op with
  |.eql=>zj T t x y K
  |.neq=>zj T t x y (kd K)
  |_=>False
def ZD(T:GK)(op:BinOp)(t:Nat)(Y:Operand)(x y:AV)(K:AV->Prop):Prop:=
 match Y with
 |.const .nilIface=>match x with
  |.v .nilIface=>match(T t).d with
   |.iface=>match op with
    |.eql=>K (.v (.bool true))
    |.neq=>K (.v (.bool false))
    |_=>False
   |_=>False
  |_=>False
 |_=>Tx T op t x y K
def Wx(T:GK)(s t:Nat)(x:AV)(K:AV->Prop):Prop:=
 match(T s).d,(T t).d,x with
 |.int _,.int .i64,.v (.int _ n)=>Az n/\K (.v (.int .i64 n))
 |.int _,.int k,.v (.int _ n)=>K (.v (.int k (k.wrap n)))
 |.string,.string,.v (.string s)=>K (.v (.string s))
 |.slice e,.string,.slice _ es=>match(T e).d with
  |.int .u8=>∃l:List UInt8,es=l.map (fun b=>[AV.v (.int .u8 b.toNat)])/\K (.v (.string ⟨l.toArray⟩))
  |_=>False
 |_,_,_=>False
def Yf(fs:List (Nat×Nat))(n:Nat):Option (Nat×Nat):=
 match fs with
 | []=>none
 |x::r=>match n with |0=>some x |n+1=>Yf r n
def TZ(T:GK)(s f:Nat)(x:AV)(K:AV->Prop):Prop:=
 match(T s).d with
 |.struct fs=>match Yf fs f with
  |some (t,o)=>match(T t).size with
   |0=>False
   |_+1=>match x with
    |.cptr cs=>K (.cptr (cs.drop o))
    |.ref r off=>K (.ref r (off+o))
    |.eref r n z i off=>K (.eref r n z i (off+o))
    |_=>False
  |none=>False
 |_=>False
def bH(T:GK)(t:Nat)(cs:List AV)(K:AV->Prop):Prop:=L0 T t cs K
def Pl(T:GK)(s f:Nat)(x:AV)(K:AV->Prop):Prop:=
 match(T s).d,x with
 |.struct fs,.agg cs=>match Yf fs f with
  |some (t,o)=>bH T t (cs.drop o) K
  |none=>False
 |_,_=>False
def JG(T:GK)(t:Nat)(x ix:AV)(K:AV->Prop):Prop:=
 match(T t).d,ix with
 |.slice e,.v (.int .i64 i)=>match(T e).size with
  |0=>False
  |_+1=>match x with
   |.slice _ es=>∃cs,(0<=i/\es[i.toNat]?=some cs)/\cs.length=(T e).size/\K (.cptr cs)
   |.msl r n=>(0<=i/\i<n)/\K (.eref r n (T e).size i.toNat 0)
   |_=>False
 |.array n e,.v (.int .i64 i)=>match(T e).size with
  |0=>False
  |_+1=>match x with
   |.cptr cs=>(0<=i/\i<n)/\K (.cptr (cs.drop (i.toNat*(T e).size)))
   |.ref r off=>(0<=i/\i<n)/\K (.ref r (off+i.toNat*(T e).size))
   |_=>False
 |_,_=>False
def Ut(T:GK)(t:Nat)(x ix:AV)(K:AV->Prop):Prop:=
 match(T t).d,x,ix with
 |.string,.v (.string s),.v (.int _ i)=>∃b:UInt8,(0<=i/\s.data[i.toNat]?=some b)/\K (.v (.int .u8 b.toNat))
 |.array n e,.agg cs,.v (.int .i64 i)=>(0<=i/\i<n)/\bH T e (cs.drop (i.toNat*(T e).size)) K
 |_,_,_=>False
def CT(t:Nat->AV):Option Operand->Option (Option Int)
 |none=>some none
 |some x=>match ev t x with |.v (.int .i64 i)=>some (some i) |_=>none
def over{α:Type}(cs:List α)(o:Nat)(vs:List α):List α:=
 match cs with
 | []=>[]
 |c::cs=>match o with
  |o+1=>c::over cs o vs
  |0=>match vs with
   | []=>c::cs
   |v::vs=>v::over cs 0 vs
structure Gh where
 ρ:Nat->Value
 ln:Nat->Nat
 tk:Nat->Bool
 own:Nat->Option Nat
 S:Nat->Nat->Prop
def JZ:List KS->List Value->Bool
 | [],[]=>true
 |k::r,v::s=>match NR k v with |true=>JZ r s |false=>false
 |_,_=>false
def YV(v:Value):Bool:=
 match sh.agg,v with
 |true,.agg cs=>JZ sh.l cs.toList
 |false,v=>JZ sh.l [v]
 |_,_=>false
def Hq(es:Array MapEntry)(ck:Nat)(BU:List (Value×AV)):Prop:=
 es.size=BU.length/\(∀(i:Nat) (kv:Value×AV) (e:MapEntry),BU[i]?=some kv->es[i]?=some e->e.key=kv.1) /\
 (∀kv∈BU,YV sh kv.1=true)/\(BU.map (·.1)).Nodup/\(∀(i:Nat) (e:MapEntry),es[i]?=some e->e.born<ck) /\
 ∀(i j:Nat) (e e' : MapEntry),es[i]?=some e->es[j]?=some e'->e.born=e'.born->i=j
inductive Ba(g:Gh)(w:World):(Nat->Prop)->AV->Value->Prop
 |v (U:Nat->Prop) (x:Value):Ba g w U (.v x) x
 |junk (U:Nat->Prop) (x:Value):Ba g w U .junk x
 |snil (U:Nat->Prop) (a:Option Addr) (cap:Nat):Ba g w U (.slice .none []) (.slice a 0 cap)
 |slice (U:Nat->Prop) (es:C0) (b off sz cap:Nat) (val:Nat->Nat->Value) (hc:es.length<=cap)
   (hl:∀(i:Nat) (cs:List AV),es[i]?=some cs->cs.length=sz)
   (DM:∀(i:Nat) (cs:List AV) (j:Nat) (av:AV),es[i]?=some cs->cs[j]?=some av ->
    g.S b (off+i*sz+j)/\w.cell? ⟨b,off+i*sz+j,none⟩=some (val i j)/\(val i j).oneCell'=true)
   (Ey:∀(i:Nat) (cs:List AV) (j:Nat) (av:AV),es[i]?=some cs->cs[j]?=some av->Ba g w (fun _=>False) av (val i j)) :
   Ba g w U (.slice .none es) (.slice (some ⟨b,off,none⟩) es.length cap)
 |tok (U:Nat->Prop) (r sz:Nat) (es:C0) (x:Value) (h:Ba g w U (.slice .none es) x) (hl:∀c∈es,c.length=sz) (hu:U r) (ht:g.tk r=true) (hn:es.length<=g.ln r)
   (hx:es.length=g.ln r->x=g.ρ r):Ba g w U (.slice (.id r sz) es) x
 |ver (U:Nat->Prop) (r sz v:Nat) (es:C0) (x:Value) (h:Ba g w U (.slice .none es) x) (hl:∀c∈es,c.length=sz) (hu:U r) (ht:g.tk r=true) (hn:v<=g.ln r)
   (hx:v=g.ln r->x=g.ρ r):Ba g w U (.slice (.ver r sz v) es) x
 |full (U:Nat->Prop) (sz:Nat) (es:C0) (x:Value) (h:Ba g w U (.slice .none es) x) (hl:∀c∈es,c.length=sz) (hx:∃a,x=.slice a es.length es.length):Ba g w U (.slice (.full sz) es) x
 |msl (U:Nat->Prop) (r n:Nat) (a:Option Addr) (cap:Nat) (hu:U r) (ht:g.tk r=true) (hn:n<=g.ln r) (ha:n=0\/∃b,a=some ⟨b,0,none⟩) (hx:n=g.ln r->.slice a n cap=g.ρ r) :
   Ba g w U (.msl r n) (.slice a n cap)
 |agg (U:Nat->Prop) (cs:List AV) (vs:Array Value) (hs:vs.size=cs.length) (h1:∀(i:Nat) (x:Value),vs[i]?=some x->x.oneCell'=true)
   (h:∀(i:Nat) (av:AV) (x:Value),cs[i]?=some av->vs[i]?=some x->Ba g w U av x):Ba g w U (.agg cs) (.agg vs)
 |tup (U:Nat->Prop) (cs:List AV) (vs:Array Value) (hs:vs.size=cs.length)
   (h:∀(i:Nat) (av:AV) (x:Value),cs[i]?=some av->vs[i]?=some x->Ba g w U av x):Ba g w U (.tup cs) (.tuple vs)
 |cptr (U:Nat->Prop) (cs:List AV) (b off:Nat) (val:Nat->Value)
   (DM:∀(j:Nat) (av:AV),cs[j]?=some av->g.S b (off+j)/\w.cell? ⟨b,off+j,none⟩=some (val j)/\(val j).oneCell'=true)
   (Ey:∀(j:Nat) (av:AV),cs[j]?=some av->Ba g w (fun _=>False) av (val j)) :
   Ba g w U (.cptr cs) (.pointer (some ⟨b,off,none⟩))
 |ref (U:Nat->Prop) (r off b:Nat) (hu:U r) (ht:g.tk r=false) (hx:g.ρ r=.pointer (some ⟨b,0,none⟩)):Ba g w U (.ref r off) (.pointer (some ⟨b,off,none⟩))
 |eref (U:Nat->Prop) (r n sz i off b cap:Nat) (hu:U r) (ht:g.tk r=true) (hn:i<n/\n<=g.ln r) (hx:n=g.ln r->g.ρ r=.slice (some ⟨b,0,none⟩) n cap) :
   Ba g w U (.eref r n sz i off) (.pointer (some ⟨b,i*sz+off,none⟩))
 |mref (U:Nat->Prop) (r b:Nat) (hu:U r) (ht:g.tk r=false) (hx:g.ρ r=.map (some b)):Ba g w U (.mref r) (.map (some b))
 |cmap (U:Nat->Prop) (sh:E1) (BU:List (Value×AV)) (b:Nat) (es:Array MapEntry) (ck:Nat) (hS:g.S b 0) (hb:w.heap[b]?=some (.map es ck)) (hm:Hq sh es ck BU)
   (h:∀(i:Nat) (kv:Value×AV) (e:MapEntry),BU[i]?=some kv->es[i]?=some e->Ba g w (fun _=>False) kv.2 e.val):Ba g w U (.cmap sh BU) (.map (some b))
 |clo (U:Nat->Prop) (f:Nat) (cs:List AV) (vs:Array Value) (hs:vs.size=cs.length)
   (h:∀(i:Nat) (av:AV) (x:Value),cs[i]?=some av->vs[i]?=some x->Ba g w U av x):Ba g w U (.clo f cs) (.func (.func f) #[] vs)
def HO.live:HO->Prop
 |.free |.dead |.vox _ |.ro _ |.rom _ _=>False
 |_=>True
def AJ(h:Nat->HO)(r:Nat):Prop:=h r≠.free
def FD:Nat->Prop:=fun _=>False
def Ck(g:Gh)(w:World)(U:Nat->Prop)(cs:List AV)(vs:List Value):Prop:=
 vs.length=cs.length/\(∀x∈vs,x.oneCell'=true)/\∀(i:Nat) (av:AV) (x:Value),cs[i]?=some av->vs[i]?=some x->Ba g w U av x
def OV:List Nat->Code->Bool
 |bs,.block id c=>OV (id::bs) c
 |bs,.seq a b=>OV bs a||OV bs b
 |bs,.cond _ a b=>OV bs a||OV bs b
 |bs,.loop c=>OV bs c
 |bs,.exit id=>!(bs.any fun i=>Nat.beq i id)
 |_,_=>false
def z7:Obj->Bool
 |.loop r=>OV [] r.body
 |_=>false
def RC(w:World)(b:Nat)(vs:Array Value)(E:TypeId):Prop:=∃f:Nat×Nat,w.heap[b]?=some (.cells vs E f)/\(f=(0,0)\/vs.size<=f.1)
theorem RC.eq{w w' : World}{b:Nat}(h:RC w b vs E)(e:w'.heap[b]?=w.heap[b]?):RC w' b vs E:=by
 obtain⟨f,h1,h2⟩:=h;exact⟨f,e.trans h1,h2⟩
theorem RC.of{w:World}{b:Nat}(h:w.heap[b]?=some (.cells vs E (0,0))):RC w b vs E:=⟨_,h,.inl rfl⟩
def ZE:Nat:=104
def u8T:Nat:=5
def DR(g:Gh)(w:World)(U:Nat->Prop)(r:Nat):HO->Prop
  |.free |.dead=>True
  |.cells cs=>g.tk r=false/\∃b E vs,g.own r=some b/\g.ρ r=.pointer (some ⟨b,0,none⟩)/\w.heap[b]?=some (.cells vs E (0,0))/\Ck g w U cs vs.toList/\∀o,¬g.S b o
  |.ro cs=>g.tk r=false/\∃b,g.ρ r=.pointer (some ⟨b,0,none⟩)/\Ba g w FD (.cptr cs) (.pointer (some ⟨b,0,none⟩))
  |.tok sz n=>g.tk r=true/\g.ln r=n/\∃a cap,g.ρ r=.slice a n cap/\(n=cap/\g.own r=none \/
      n<=cap/\∃b E vs off,a=some ⟨b,off,none⟩/\g.own r=some b/\RC w b vs E/\vs.size=off+cap*sz/\∀o,g.S b o->o<off+n*sz)
  |.var sz v n=>g.tk r=true/\g.ln r=v/\∃a cap,g.ρ r=.slice a n cap/\(n=cap/\g.own r=none \/
      n<=cap/\∃b E vs off,a=some ⟨b,off,none⟩/\g.own r=some b/\RC w b vs E/\vs.size=off+cap*sz/\∀o,g.S b o->o<off+n*sz)
  |.vox v=>g.tk r=true/\g.ln r=v
  |.arr sz es=>g.tk r=true/\g.ln r=es.length/\(∀cs∈es,cs.length=sz)/\(es=[]/\g.ρ r=.slice none 0 0/\g.own r=none \/
      ∃b cap E vs,g.ρ r=.slice (some ⟨b,0,none⟩) es.length cap/\g.own r=some b/\es.length<=cap/\w.heap[b]?=some (.cells vs E (0,0))/\vs.size=cap*sz /\
        Ck g w FD es.flatten (vs.toList.take (es.length*sz))/\∀o,¬g.S b o)
  |.map sh BU=>g.tk r=false/\∃b es ck,g.own r=some b/\g.ρ r=.map (some b)/\w.heap[b]?=some (.map es ck)/\Hq sh es ck BU /\
      (∀(i:Nat) (kv:Value×AV) (e:MapEntry),BU[i]?=some kv->es[i]?=some e->Ba g w FD kv.2 e.val)/\∀o,¬g.S b o
  |.mapU sh BU=>g.tk r=false/\∃b es ck,g.own r=some b/\g.ρ r=.map (some b)/\w.heap[b]?=some (.map es ck)/\Hq sh es ck BU /\
      (∀(i:Nat) (kv:Value×AV) (e:MapEntry),BU[i]?=some kv->es[i]?=some e->Ba g w U kv.2 e.val)/\∀o,¬g.S b o
  |.rom sh BU=>g.tk r=false/\∃b,g.ρ r=.map (some b)/\Ba g w FD (.cmap sh BU) (.map (some b))
  |.iter all rem Ep=>g.tk r=false/\∃b mb Kp seen st es ck,g.own r=some b/\g.ρ r=.pointer (some ⟨b,0,none⟩)/\w.heap[b]?=some (.mapIter (some mb) Kp seen st) /\
      g.S mb 0/\w.heap[mb]?=some (.map es ck)/\(∃sh,Hq sh es ck all)/\Kp=ck/\st=ck /\
      (∀(i:Nat) (kv:Value×AV) (e:MapEntry),all[i]?=some kv->es[i]?=some e->Ba g w FD kv.2 e.val) /\
      (rem.Nodup/\∀kv∈rem,kv∈all)/\(∀(i:Nat) (kv:Value×AV) (e:MapEntry),all[i]?=some kv->es[i]?=some e->(kv∈rem↔e.born∉seen)) /\
      (match Ep with | none=>True | some kv=>∃(i:Nat) (e:MapEntry),all[i]?=some kv/\es[i]?=some e/\seen.back?=some e.born)/\∀o,¬g.S b o
  |.hol sz es i c a=>g.tk r=true/\g.ln r=es.length/\(∀cs∈es,cs.length=sz)/\∃b cap E vs,g.ρ r=.slice (some ⟨b,0,none⟩) es.length cap/\g.own r=some b/\es.length<=cap/\w.heap[b]?=some (.cells vs E (0,0))/\vs.size=cap*sz /\
        Ck g w FD es.flatten (vs.toList.take (es.length*sz))/\(∀o,¬g.S b o)/\i*sz+c<es.length*sz/\∃x,vs[i*sz+c]?=some x/\Ba g w U a x
  |.raw b ob=>g.tk r=false/\g.own r=some b/\w.heap[b]?=some ob/\z7 ob=true/\∀o,¬g.S b o
  |.bld x=>g.tk r=false/\∃b p v,g.own r=some b/\g.ρ r=.pointer (some ⟨b,0,none⟩)/\w.heap[b]?=some (.cells #[p,v] ZE (0,0))/\(p=.pointer none\/p=.pointer (some ⟨b,0,none⟩))/\Ba g w U x v/\∀o,¬g.S b o
  |.bbf n=>g.tk r=true/\g.ln r=n/\(n=0/\g.ρ r=.slice none 0 0/\g.own r=none\/∃b cap Ep,g.ρ r=.slice (some ⟨b,0,none⟩) n cap/\g.own r=some b/\(0<n/\n<=cap)/\cap<=maxLen/\w.heap[b]?=some (.cells Ep u8T (0,0))/\Ep.size=cap/\∀o,g.S b o->o<n)
def gB:Nat:=0
def m9:List (Nat×Nat×Option Value):=(1,20,none)::(List.range 20).map fun i=>(1,i,some (.int .u64 ((10 ^ i:Nat):Int)))
def XF(g:Gh)(w:World):Prop:=(g.S gB 0/\∃m,w.cell? ⟨gB,0,none⟩=some (.int .i64 m))/\∀x∈m9,g.S x.1 x.2.1/\w.cell? ⟨x.1,x.2.1,none⟩=x.2.2
structure CU(w0:World)(g0:Gh)(h0:Nat->HO)(h:Nat->HO)(g:Gh)(w:World):Prop where
 os:w.os=w0.os
 tape:w.tape=w0.tape
 output:w.output=w0.output
 size:w0.heap.size<=w.heap.size
 frame:∀b,b<w0.heap.size->(∀r,(h0 r).live->g0.own r≠some b)->w.heap[b]?=w0.heap[b]?
 slt:∀b o,g.S b o->b<w.heap.size
 objs:∀r,DR g w (AJ h) r (h r)
 inj:∀r r' b,(h r).live->(h r').live->g.own r=some b->g.own r'=some b->r=r'
 loc:∀r b,(h r).live->g.own r=some b->b<w.heap.size/\(w0.heap.size<=b\/∃r',(h0 r').live/\g0.own r'=some b)
 sg:∀b o,g.S b o->g0.S b o\/w0.heap.size<=b\/∃r',(h0 r').live/\g0.own r'=some b
 glob:XF g w
def EF(g:Gh)(w:World)(g' : Gh)(w' : World):Prop:=
 ∀b o,g.S b o->g'.S b o/\w'.cell? ⟨b,o,none⟩=w.cell? ⟨b,o,none⟩/\∀es ck,w.heap[b]?=some (.map es ck)->w'.heap[b]?=some (.map es ck)
def Kr(g g' : Gh)(U:Nat->Prop):Prop:=
 ∀i,U i->g'.tk i=g.tk i/\g.ln i<=g'.ln i/\(g.tk i=false->g'.ρ i=g.ρ i)/\(g'.ln i=g.ln i->g'.ρ i=g.ρ i)
structure Le(h:Nat->HO)(g:Gh)(w:World)(h' : Nat->HO)(g' : Gh)(w' : World):Prop where
 gh:Kr g g' (AJ h)
 us:∀i,AJ h i->AJ h' i
 keeps:EF g w g' w'
def FL (P : Program) (f : Nat) : Prop:=∃ fn, P.funcs[f]? = some fn /\ (fn.name == "runtime.NumGoroutine") = false /\ fn.body.isNone = false
def AU(P:Program)(f:Nat)(args:List AV)(h0:Nat->HO)(Q:AV->(Nat->HO)->Prop):Prop:=
 FL P f/\∀(g:Gh) (w:World) (vals:Array Value),vals.size=args.length->(∀(i:Nat) (av:AV) (x:Value),args[i]?=some av->vals[i]?=some x->Ba g w (AJ h0) av x) ->
  CU w g h0 h0 g w ->
  Calls P f vals w fun e w'=>∃v r h' g',e=.returned v/\Q r h'/\Ba g' w' (AJ h') r v/\CU w g h0 h' g' w'/\Le h0 g w h' g' w'
def IB(P:Program)(f:Nat)(args:List AV)(res:AV):Prop:=AU P f args Ae fun r h'=>r=res/\h'=Ae
def I0(P:Program)(Y:Gh->World->Prop)(l:Nat)(args:List AV)(h0:Nat->HO)(Q:AV->(Nat->HO)->Prop):Prop:=
 ∀(g:Gh) (w:World) (vals:Array Value),vals.size=args.length->(∀(i:Nat) (av:AV) (x:Value),args[i]?=some av->vals[i]?=some x->Ba g w (AJ h0) av x) ->
  CU w g h0 h0 g w->Y g w ->
  YieldAt Fence.wide 0 P l vals w fun e w'=>∃v r h' g',e=.returned v/\Q r h'/\Ba g' w' (AJ h') r v/\CU w g h0 h' g' w'/\Le h0 g w h' g' w'
def vG(P:Program)(Y:Gh->World->Prop)(f:Nat)(args:List AV)(h0:Nat->HO)(Q:AV->(Nat->HO)->Prop):Prop:=
 FL P f/\∀(g:Gh) (w:World) (vals:Array Value),vals.size=args.length->(∀(i:Nat) (av:AV) (x:Value),args[i]?=some av->vals[i]?=some x->Ba g w (AJ h0) av x) ->
  CU w g h0 h0 g w->Y g w ->
  Calls P f vals w fun e w'=>∃v r h' g',e=.returned v/\Q r h'/\Ba g' w' (AJ h') r v/\CU w g h0 h' g' w'/\Le h0 g w h' g' w'
def Gi(P:Program)(Y:Nat->Gh->World->Prop)(F:AV)(args:List AV)(h:Nat->HO)(Q:AV->(Nat->HO)->Prop):Prop:=
 match F with
 |.v (.func (.func f) ⟨[]⟩ ⟨[]⟩)=>AU P f args h Q
 |.clo f caps=>AU P f (args++caps) h Q
 |.v (.func (.yield l) ⟨[]⟩ ⟨[]⟩)=>I0 P (Y l) l args h Q
 |_=>False
def Qw(P:Program)(F:AV)(args:List AV)(res:AV):Prop:=
 match F with
 |.v (.func (.func f) ⟨[]⟩ ⟨[]⟩)=>IB P f args res
 |.clo f caps=>IB P f (args++caps) res
 |_=>False
structure Cx where
 P:Program
 T:GK
 pl:Qx
 ext:Bool
 nid:Nat
 yp:Nat->List (Nat×Nat)->Gh->World->Prop
variable (cx:Cx)
def Ku(d:Nat):Nat:=bif IV cx.pl.dyn d then cx.nid else d
abbrev HK:=AV->(Nat->HO)->Prop
def Tl(T:GK)(d:Option Nat)(h:Nat->HO)(e:Nat)(K:HK):Prop:=
 match d with
 |none=>False
 |some d=>match h d with
  |.free=>match(T e).d with
   |.other=>False
   |_=>match Nat.beq e ZE with
    |true=>match h 1001,Nat.beq d 1001,(T e).zc with
     |.free,false,[.pointer none,.slice none 0 0]=>K (.ref d 0) (AO (AO h 1001 (.bbf 0)) d (.bld (.slice (.id 1001 1) [])))
     |_,_,_=>False
    |false=>match GT ((T e).zc.map .v)with
     |true=>K (.ref d 0) (AO h d (.cells ((T e).zc.map .v)))
     |false=>False
  |_=>False
def Hj(n:Nat)(a:AV)(K:List AV->Prop):Prop:=
 match a with
 |.agg cs=>match Nat.beq cs.length n with
  |true=>K cs
  |false=>False
 |a=>match one a with
  |true=>match n with
   |1=>K [a]
   |_=>False
  |false=>False
def iT(d:Option Nat)(h:Nat->HO)(e:Nat)(x:AV)(K:HK):Prop:=
 match d with
 |none=>False
 |some d=>match h d with
  |.free=>match(cx.T e).d with
   |.other=>False
   |_=>Hj (cx.T e).size x fun cs=>match IV cx.pl.frz d with
    |true=>K (.ref d 0) (AO h d (.ro (cs.map (str h))))
    |false=>K (.ref d 0) (AO h d (.cells cs))
  |_=>False
def OB(h:Nat->HO)(t:Nat)(p x:AV)(K:HK):Prop:=
 match(cx.T t).d with
 |.other=>False
 |_=>Hj (cx.T t).size x fun vs=>match p with
  |.ref r off=>match h r with
   |.cells cs=>off+vs.length<=cs.length/\(match IV cx.pl.frz r with
    |true=>K (.v undef) (AO h r (.ro ((over cs off vs).map (str h))))
    |false=>K (.v undef) (AO h r (.cells (over cs off vs))))
   |_=>False
  |.eref r n sz i off=>match h r with
   |.arr HJ es=>match Nat.beq sz HJ with
    |true=>n=es.length/\∃cs,es[i]?=some cs/\off+vs.length<=sz/\(match vs with
     | [.msl j m]=>K (.v undef) (AO h r (.hol sz (es.set i (over cs off [.junk])) i off (.msl j m)))
     |_=>K (.v undef) (AO h r (.arr sz (es.set i (over cs off (vs.map (str h)))))))
    |false=>False
   |_=>False
  |_=>False
def JI(T:GK)(h:Nat->HO)(t:Nat)(p:AV)(K:AV->Prop):Prop:=
 match p with
 |.cptr cs=>L0 T t cs K
 |.ref r off=>match h r with
  |.cells cs=>L0 T t (cs.drop off) K
  |.ro cs=>L0 T t (cs.drop off) K
  |_=>False
 |.eref r n sz i off=>match h r with
  |.arr HJ es=>match Nat.beq sz HJ with
   |true=>n=es.length/\∃cs,es[i]?=some cs/\L0 T t (cs.drop off) K
   |false=>False
  |.hol HJ es i' c a=>match Nat.beq sz HJ with
   |true=>(n=es.length/\i=i'/\off=c)/\L0 T t [a] K
   |false=>False
  |_=>False
 |_=>False
def KO(pl:Nat->Option (Nat×Nat))(cs:List AV)(t:Nat->AV)(ps:List (Nat×Operand))(K:List AV->Prop):Prop:=
 match ps with
 | []=>K cs
 |(i,x)::r=>match pl i with
  |none=>False
  |some (o,n)=>Hj n (ev t x) fun vs=>match Nat.ble (o+n) cs.length with
   |true=>KO pl (over cs o vs) t r K
   |false=>False
def OQ(T:GK):List (Nat×Nat)->Bool
 | []=>true
 |(t,_)::r=>match(T t).size with |0=>false |_+1=>OQ T r
def QC(T:GK)(ty:Nat)(t:Nat->AV)(ps:List (Nat×Operand))(K:AV->Prop):Prop:=
 match GT ((T ty).zc.map .v)with
 |false=>False
 |true=>match(T ty).d with
  |.struct fs=>match OQ T fs with
   |false=>False
   |true=>KO (fun i=>match Yf fs i with |some (t,o)=>some (o,(T t).size) |none=>none) ((T ty).zc.map .v) t ps fun cs=>K (.agg cs)
  |.array _ e=>match(T e).size with
   |0=>False
   |_+1=>KO (fun i=>some (i*(T e).size,(T e).size)) ((T ty).zc.map .v) t ps fun cs=>K (.agg cs)
  |_=>False
def RJ(n sz:Nat)(h:Nat->HO)(es:C0)(t:Nat->AV)(ps:List (Nat×Operand))(K:C0->Prop):Prop:=
 match ps with
 | []=>K es
 |(i,x)::r=>match Nat.blt i n with
  |true=>Hj sz (ev t x) fun vs=>RJ n sz h (es.set i (vs.map (str h))) t r K
  |false=>False
abbrev Li(b:CS):C0:=b.data.toList.map fun c=>[AV.v (.int .u8 c.toNat)]
def dg(d:Option Nat)(h:Nat->HO)(s t:Nat)(x:AV)(K:HK):Prop:=
 match(cx.T s).d,(cx.T t).d,x with
 |.string,.slice e,.v (.string b)=>match(cx.T e).d,d with
  |.int .u8,some d=>match h (Ku cx d)with
   |.free=>K (.slice (.id (Ku cx d) 1) (Li b)) (AO h (Ku cx d) (.tok 1 (Li b).length))
   |_=>False
  |_,_=>False
 |_,_,_=>Wx cx.T s t x fun v=>K v h
def Fb(d:Option Nat)(h:Nat->HO)(sz:Nat)(es:C0)(K:HK):Prop:=
 match d with
 |none=>False
 |some d=>match h (Ku cx d)with
  |.free=>match GU cx.pl.arr d with
   |some _=>K (.msl (Ku cx d) es.length) (AO h (Ku cx d) (.arr sz es))
   |none=>K (.slice (.id (Ku cx d) sz) es) (AO h (Ku cx d) (.tok sz es.length))
  |_=>False
def IF(d:Option Nat)(h:Nat->HO)(ty n:Nat)(t:Nat->AV)(ps:List (Nat×Operand))(K:HK):Prop:=
 match(cx.T ty).d with
 |.slice e=>match GT ((cx.T e).zc.map .v),Nat.beq (cx.T e).zc.length (cx.T e).size with
  |true,true=>match(cx.T e).size with
   |0=>False
   |_+1=>match Nat.ble (n*(cx.T e).size) 16777216 with
    |true=>RJ n (cx.T e).size h (List.replicate n ((cx.T e).zc.map .v)) t ps fun es=>Fb cx d h (cx.T e).size es K
    |false=>False
  |_,_=>False
 |_=>False
def KT(t:Nat->AV)(h:Nat->HO)(fn:Fn)(first captured:List Operand)(K:AV->Prop):Prop:=
 match fn,first with
 |.func f,[]=>K (.clo f (captured.map fun x=>rsv h (ev t x)))
 |_,_=>False
def Bi(sz:Nat):C0->Prop
 | []=>True
 |c::r=>c.length=sz/\Bi sz r
def Ls(h:Nat->HO)(x:AV)(K:C0->Prop):Prop:=
 match x with
 |.slice _ es=>K es
 |.v (.slice none 0 0)=>K []
 |.msl r n=>match h r with
  |.arr _ es=>n=es.length/\K es
  |_=>False
 |_=>False
def Ir(d:Option Nat)(h:Nat->HO)(ty:Nat)(s x:AV)(K:HK):Prop:=
 match(cx.T ty).d with
 |.slice e=>match Nat.beq (cx.T e).zc.length (cx.T e).size with
  |false=>False
  |true=>match(cx.T e).size with
   |0=>False
   |_+1=>Ls h x fun es2=>match s with
    |.v (.slice none 0 0)=>(Bi (cx.T e).size es2/\es2.length*(cx.T e).bytes<=140737488355328/\es2.length<=9223372036854775807)/\Fb cx d h (cx.T e).size es2 K
    |.slice (.full HJ) es=>match Nat.beq HJ (cx.T e).size with
     |true=>(Bi (cx.T e).size es2/\0<es2.length/\(es.length+es2.length)*(cx.T e).bytes<=140737488355328/\es.length+es2.length<=9223372036854775807)/\Fb cx d h (cx.T e).size (es++es2) K
     |false=>False
    |.slice (.id r HJ) es=>match h r with
     |.tok sz n=>match Nat.beq sz (cx.T e).size,Nat.beq HJ sz with
      |true,true=>(Bi sz es2/\es.length=n/\(es.length+es2.length)*(cx.T e).bytes<=140737488355328/\es.length+es2.length<=9223372036854775807) /\
        K (.slice (.id r sz) (es++es2)) (AO h r (.tok sz (es.length+es2.length)))
      |_,_=>False
     |_=>False
    |.msl r n=>match h r with
     |.arr sz es=>match Nat.beq sz (cx.T e).size with
      |true=>(Bi sz es2/\es.length=n/\(es.length+es2.length)*(cx.T e).bytes<=140737488355328/\es.length+es2.length<=9223372036854775807) /\
        K (.msl r (es.length+es2.length)) (AO h r (.arr sz (es++es2)))
      |false=>False
     |_=>False
    |_=>False
 |_=>False
abbrev Jd:=List (Nat×Nat)
variable (σ:Jd)
inductive zK | pure | rel | gen (σ:Jd) (nn:Nat) | geny (σ:Jd) (nn:Nat)
def Cw(σ:Jd)(n:Nat):Option Nat:=
 match σ with
 | []=>none
 |(i,j)::r=>bif Nat.beq i n then some j else Cw r n
def Ia(σ:Jd)(n:Nat):Option Nat:=
 match σ with
 | []=>none
 |(i,j)::r=>bif Nat.beq j n then some i else Ia r n
def EB:Jd->Bool
 | []=>true
 |(i,j)::r=>(match Cw r i,Ia r j with |none,none=>true |_,_=>false)&&Nat.ble 1000 j&&Nat.blt j 2000&&EB r
def GY:Jd->Bool
 | []=>true
 |(i,j)::r=>(match Cw r i,Ia r j with |none,none=>true |_,_=>false)&&GY r
def ren0(h:Nat->HO):AV->AV
 |.slice (.id r sz) es=>match f r with |some r'=>.slice (.id r' sz) es |none=>.slice .none es
 |.slice (.ver r sz v) es=>match f r with |some r'=>.slice (.ver r' sz v) es |none=>.slice .none es
 |.msl r n=>match f r with |some r'=>.msl r' n |none=>.junk
 |.ref r off=>match f r with |some r'=>.ref r' off |none=>str0 h (.ref r off)
 |.eref r n sz i off=>match f r with |some r'=>.eref r' n sz i off |none=>.junk
 |.mref r=>match f r with |some r'=>.mref r' |none=>str0 h (.mref r)
 |a=>str0 h a
def ren1(h:Nat->HO):AV->AV
 |.agg cs=>.agg (cs.map (ren0 f h))
 |.clo g cs=>.clo g (cs.map (ren0 f h))
 |a=>ren0 f h a
def ren(h:Nat->HO):AV->AV
 |.tup cs=>.tup (cs.map (ren1 f h))
 |a=>ren1 f h a
def HO.ren(h:Nat->HO):HO->HO
 |.cells cs=>.cells (cs.map (ren1 f h))
 |.mapU sh BU=>.mapU sh (BU.map fun p=>(p.1,ren1 f h p.2))
 |.hol sz es i c a=>.hol sz es i c (ren1 f h a)
 |.bld x=>.bld (ren1 f h x)
 |o=>o
def Ak(l:List (Nat×HO))(hb:Nat->HO)(i:Nat):HO:=match l with | []=>hb i | (j,v)::r=>bif Nat.beq i j then v else Ak r hb i
def YP(f:Nat->Option Nat)(h:Nat->HO):Jd->List (Nat×HO)
 | []=>[]
 |(i,j)::r=>(j,(h i).ren f h)::YP f h r
def FH(h:Nat->HO):Nat->HO:=Ak (YP (Cw σ) h σ) Ae
def BJ(d k:Nat):Nat:=10000+100*d+k
def Fr(d nn:Nat)(j:Nat):Option Nat:=
 match Ia σ j with
 |some i=>some i
 |none=>match Nat.ble 2000 j&&Nat.blt j (2000+nn)with |true=>some (BJ d (j-2000)) |false=>none
def Eh(d nn:Nat)(h h' : Nat->HO):Nat->HO:=fun i=>
 match Cw σ i with
 |some j=>(h' j).ren (Fr σ d nn) h'
 |none=>match Nat.ble (BJ d 0) i&&Nat.blt i (BJ d nn)with |true=>(h' (2000+(i-BJ d 0))).ren (Fr σ d nn) h' |false=>h i
def Eb(h:Nat->HO)(d:Nat):Nat->Bool
 |0=>true
 |k+1=>(match h (BJ d k)with |.free=>true |_=>false)&&Eb h d k
def Di(σ:Jd)(d nn:Nat):Bool:=
 match σ with
 | []=>true
 |(i,_)::r=>!(Nat.ble (BJ d 0) i&&Nat.blt i (BJ d nn))&&Di r d nn
def Tt(l:List (Nat×Nat))(d:Option Nat):Option Nat:=match d with | none=>none | some d=>GU l d
def gH:AV->Bool | .tup _=>false | _=>true
def UK:List AV->Bool
 | []=>true
 |a::r=>match gH a with |true=>UK r |false=>false
def Xz:List AV->Option (List Value)
 | []=>some []
 |.v x::r=>match Xz r with |some l=>some (x::l) |none=>none
 |_=>none
def Sm(k:Nat)(d:Option Nat)(h:Nat->HO)(F:AV)(args:List AV)(K:HK):Prop:=
 match d,F,args with
 |some d,.v (.func (.func f) ⟨[]⟩ ⟨[]⟩),.msl r n::l=>match Xz l with
  |some vs=>match h r with
   |.arr sz es=>match k with
    |0=>∃n' FR,AU cx.P f (.msl 1000 n::vs.map .v) (Ak [(1000,.arr sz es)] Ae) (fun r' h'=>r'=.msl 1000 n'/\h'=Ak [(1000,.arr sz FR)] Ae)/\K (.msl r n') (AO h r (.arr sz FR))
    |_+1=>∃n' FR,(Eb h d 1&&Nat.blt r 10000000&&!Nat.beq r (BJ d 0))=true/\AU cx.P f (.msl 1000 n::vs.map .v) (Ak [(1000,.arr sz es)] Ae) (fun r' h'=>r'=.msl 2000 n'/\h'=Ak [(1000,.dead),(2000,.arr sz FR)] Ae) /\
      K (.msl (BJ d 0) n') (AO (AO h r .dead) (BJ d 0) (.arr sz FR))
   |_=>False
  |none=>False
 |_,_,_=>False
def Y1(d:Option Nat)(st:St)(F:AV)(args:List AV)(K:HK):Prop:=
 match d with
 |none=>False
 |some d=>∃sz es,(Eb st.h d 1&&gH F&&UK args)=true/\Gi cx.P (fun l=>cx.yp l []) (str st.h F) (args.map (str st.h)) Ae (fun r h'=>r=.slice (.id 2000 sz) es/\h'=Ak [(2000,.tok sz es.length)] Ae) /\
   K (.slice (.id (BJ d 0) sz) es) (AO st.h (BJ d 0) (.tok sz es.length))
def Vq(d:Option Nat)(st:St)(F:AV)(args:List AV)(K:HK):Prop:=
  match d,F,Xz args with
  |some _,.v (.func (.yield l) ⟨[]⟩ ⟨[]⟩),some vs=>match st.h 1000,st.h 1001 with
    |.cells [.slice (.id r sz) es],.tok ic n=>(r=1001/\ic=sz)/\∃v FR n',I0 cx.P (cx.yp l [(1000,1000),(1001,1001)]) l (vs.map .v) (Ak [(1000,.cells [.slice (.id 1001 sz) es]),(1001,.tok sz n)] Ae)
          (fun r h'=>r=.v v/\h'=Ak [(1000,.cells [.slice (.id 1001 sz) FR]),(1001,.tok sz n')] Ae) /\
        K (.v v) (AO (AO st.h 1001 (.tok sz n')) 1000 (.cells [.slice (.id 1001 sz) FR]))
    |_,_=>False
  |_,_,_=>False
def rR:List Nat:=[1000,1001,1002,1003,1004,1005,1006,1007,10900,5]
def m7:AV->Option (Nat×List AV)
 |.v (.func (.func f) ⟨[]⟩ ⟨[]⟩)=>some (f,[])
 |.clo f caps=>some (f,caps)
 |_=>none
def aw(d:Option Nat)(st:St)(F:AV)(args:List AV)(K:HK):Prop:=
 match d,m7 F with
 |some d,some (f,caps)=>∃(σ:Jd) (H0 Hn:List (Nat×HO)) (args' : List AV) (res:AV),
   (∀h2:Nat->HO,(∀r∈rR,h2 r=st.h r)->FH σ h2=Ak H0 Ae/\args.map (ren (Cw σ) h2)++caps.map (ren0 (Cw σ) h2)=args')/\(EB σ&&Di σ d 0&&σ.all fun p=>IV rR p.1)=true /\
   AU cx.P f args' (Ak H0 Ae) (fun r h'=>r=res/\h'=Ak Hn Ae)/\K (ren (Fr σ d 0) (Ak Hn Ae) res) (Eh σ d 0 st.h (Ak Hn Ae))
 |_,_=>False
def Sh(k:Nat)(d:Option Nat)(st:St)(F:AV)(args:List AV)(K:HK):Prop:=
 match Nat.beq k 4 with
 |true=>aw cx d st F args K
 |false=>Sm cx k d st.h F args K
def Gu(dr:Bool)(d:Option Nat)(st:St)(F:AV)(args:List AV)(K:HK):Prop:=
 match dr with
 |true=>match Tt cx.pl.dc d with
  |none=>∃res,Qw cx.P (str st.h F) (args.map (str st.h)) res/\K res st.h
  |some 0=>match d with
   |none=>False
   |some d=>∃n sz es,(Eb st.h d 1&&gH F&&UK args)=true/\Gi cx.P (fun l=>cx.yp l []) (str st.h F) (args.map (str st.h)) Ae (fun r h'=>r=.msl 2000 n/\h'=Ak [(2000,.arr sz es)] Ae) /\
     K (.msl (BJ d 0) n) (AO st.h (BJ d 0) (.arr sz es))
  |some (k+1)=>match Nat.beq k 2 with
   |true=>Y1 cx d st F args K
   |false=>match Nat.beq k 3 with
    |true=>Vq cx d st F args K
    |false=>Sh cx k d st F args K
 |false=>∃m:zK,match m with
  |.pure=>∃res,Qw cx.P (str st.h F) (args.map (str st.h)) res/\K res st.h
  |.rel=>Gi cx.P (fun _ _ _=>True) (str st.h F) (args.map (str st.h)) Ae fun r h'=>h'=Ae/\K r st.h
  |.gen σ nn=>match d with
   |none=>False
   |some d=>(EB σ&&Eb st.h d nn&&Di σ d nn)=true /\
     Gi cx.P (fun l=>cx.yp l σ) (ren (Cw σ) st.h F) (args.map (ren (Cw σ) st.h)) (FH σ st.h) fun r h'=>K (ren (Fr σ d nn) h' r) (Eh σ d nn st.h h')
  |.geny σ nn=>match d with
   |none=>False
   |some d=>(EB σ&&Eb st.h d nn&&Di σ d nn)=true /\
     match ren (Cw σ) st.h F with
     |.clo f caps=>vG cx.P (fun g w=>∀l,cx.yp l σ g w) f (args.map (ren (Cw σ) st.h)++caps) (FH σ st.h) fun r h'=>K (ren (Fr σ d nn) h' r) (Eh σ d nn st.h h')
     |_=>False
def Y3:List AV->Option (List Value)
 | []=>some []
 |.v x::r=>match Y3 r with |some l=>some (x::l) |none=>none
 |_=>none
def xv:AV->Option Value
 |.v x=>some x
 |.agg cs=>match Y3 cs with |some l=>some (.agg l.toArray) |none=>none
 |_=>none
def H6(T:GK)(t:Nat):Option E1:=
 match(T t).d with
 |.struct _=>match HT T 8 t with |some l=>some ⟨true,l⟩ |none=>none
 |_=>match HT T 1 t with |some l=>some ⟨false,l⟩ |none=>none
def sH:KS->KS->Bool
 |.int k,.int k'=>zF k k'
 |.str,.str=>true
 |.bool,.bool=>true
 |_,_=>false
def Uy:List KS->List KS->Bool
 | [],[]=>true
 |a::r,b::s=>match sH a b with |true=>Uy r s |false=>false
 |_,_=>false
def yc(a b:E1):Bool:=
 match a.agg,b.agg with
 |true,true=>Uy a.l b.l
 |false,false=>Uy a.l b.l
 |_,_=>false
def Kv(T:GK)(ty:Nat)(sh:E1)(k:AV)(K:Value->Prop):Prop:=
 match(T ty).d with
 |.map kt _=>match H6 T kt with
  |some sh'=>match yc sh sh' with
   |true=>match xv k with
    |some kx=>match YV sh kx with
     |true=>K kx
     |false=>False
    |none=>False
   |false=>False
  |none=>False
 |_=>False
open Classical in
noncomputable def EV(BU:List (Value×AV))(k:Value)(a:AV):List (Value×AV):=
 if ∃a',(k,a')∈BU then BU.map fun p=>if p.1=k then(k,a)else p else BU++[(k,a)]
def KU(T:GK)(mku:List Nat)(d:Option Nat)(h:Nat->HO)(ty:Nat)(K:HK):Prop:=
 match d with
 |none=>False
 |some d=>match h d with
  |.free=>match(T ty).d with
   |.map kt _=>match H6 T kt with
    |some sh=>match IV mku d with
     |true=>K (.mref d) (AO h d (.mapU sh []))
     |false=>K (.mref d) (AO h d (.map sh []))
    |none=>False
   |_=>False
  |_=>False
def Hm(T:GK)(h:Nat->HO)(ty:Nat)(m k x:AV)(K:HK):Prop:=
 match m with
 |.mref r=>match h r with
  |.map sh BU=>Kv T ty sh k fun kx=>K (.v undef) (AO h r (.map sh (EV BU kx (str h x))))
  |.mapU sh BU=>Kv T ty sh k fun kx=>K (.v undef) (AO h r (.mapU sh (EV BU kx x)))
  |_=>False
 |_=>False
def KA(T:GK)(t:Nat)(K:AV->Prop):Prop:=
 match(T t).d with
 |.other=>False
 |_=>match(T t).zero with
  |.agg cs=>match GT (cs.toList.map .v)with |true=>K (.agg (cs.toList.map .v)) |false=>False
  |z=>K (.v z)
def Mz(T:GK)(ty:Nat)(ok:Bool)(BU:List (Value×AV))(kx:Value)(K:AV->Prop):Prop:=
 match(T ty).d with
 |.map _ e=>match ok with
  |true=>(∀a,(kx,a)∈BU->K (.tup [a,.v (.bool true)]))/\((∀a,(kx,a)∉BU)->KA T e fun z=>K (.tup [z,.v (.bool false)]))
  |false=>(∀a,(kx,a)∈BU->K a)/\((∀a,(kx,a)∉BU)->KA T e K)
 |_=>False
def My(T:GK)(ty:Nat)(ok:Bool)(BU:List (Value×AV))(kx:Value)(K:AV->Prop):Prop:=
 match(T ty).d with
 |.map _ e=>match ok with
  |true=>(∃a,((kx,a)∈BU/\∀b,(kx,b)∈BU->b=a)/\K (.tup [a,.v (.bool true)]))\/((∀a,(kx,a)∉BU)/\KA T e fun z=>K (.tup [z,.v (.bool false)]))
  |false=>(∃a,((kx,a)∈BU/\∀b,(kx,b)∈BU->b=a)/\K a)\/((∀a,(kx,a)∉BU)/\KA T e K)
 |_=>False
def Nc(T:GK)(h:Nat->HO)(ty:Nat)(m k:AV)(ok:Bool)(K:AV->Prop):Prop:=
 match m with
 |.cmap sh BU=>Kv T ty sh k fun kx=>My T ty ok BU kx K
 |.mref r=>match h r with
  |.map sh BU=>Kv T ty sh k fun kx=>My T ty ok BU kx K
  |.mapU sh BU=>Kv T ty sh k fun kx=>My T ty ok BU kx K
  |.rom sh BU=>Kv T ty sh k fun kx=>My T ty ok BU kx K
  |_=>False
 |_=>False
def Ng(T:GK)(h:Nat->HO)(ty:Nat)(m k:AV)(ok:Bool)(K:AV->Prop):Prop:=
 match m with
 |.cmap sh BU=>Kv T ty sh k fun kx=>Mz T ty ok BU kx K
 |.mref r=>match h r with
  |.map sh BU=>Kv T ty sh k fun kx=>Mz T ty ok BU kx K
  |.mapU sh BU=>Kv T ty sh k fun kx=>Mz T ty ok BU kx K
  |.rom sh BU=>Kv T ty sh k fun kx=>Mz T ty ok BU kx K
  |_=>False
 |_=>False
def eG(d:Option Nat)(h:Nat->HO)(x:AV)(K:HK):Prop:=
 match d with
 |none=>False
 |some d=>match h d with
  |.free=>match x with
   |.cmap _ BU=>K (.ref d 0) (AO h d (.iter BU BU none))
   |.mref r=>match h r with
    |.rom _ BU=>K (.ref d 0) (AO h d (.iter BU BU none))
    |.map sh BU=>K (.ref d 0) (AO (AO h r (.rom sh BU)) d (.iter BU BU none))
    |_=>False
   |_=>False
  |_=>False
def oH(h:Nat->HO)(x:AV)(K:HK):Prop:=
 match x with
 |.ref r 0=>match h r with
  |.iter all rem _=>(rem=[]->K (.tup [.v (.bool false)]) h) /\
    (∀kv Me,rem.Perm (kv::Me)->K (.tup [.v (.bool true),.v kv.1,kv.2]) (AO h r (.iter all Me (some kv))))
  |_=>False
 |_=>False
def di(h:Nat->HO)(x:AV)(K:AV->Prop):Prop:=
 match x with
 |.ref r 0=>match h r with
  |.iter _ _ (some kv)=>K (.tup [.v kv.1,kv.2])
  |_=>False
 |_=>False
def RT(T:GK)(t:Nat)(h:Nat->HO)(x:AV)(K:AV->Prop):Prop:=
 match(T t).d with
 |.slice _=>match x with
  |.slice _ es=>K (.v (.int .i64 es.length))
  |.msl _ n=>K (.v (.int .i64 n))
  |.v (.slice none 0 0)=>K (.v (.int .i64 0))
  |_=>False
 |.string=>match x with
  |.v (.string s)=>K (.v (.int .i64 s.size))
  |_=>False
 |.map _ _=>match x with
  |.cmap _ BU=>K (.v (.int .i64 BU.length))
  |.mref r=>match h r with
   |.map _ BU=>K (.v (.int .i64 BU.length))
   |.mapU _ BU=>K (.v (.int .i64 BU.length))
   |.rom _ BU=>K (.v (.int .i64 BU.length))
   |_=>False
  |_=>False
 |_=>False
def Io(d:Option Nat)(h:Nat->HO)(ty:Nat)(x:AV)(lo hi mx:Option (Option Int))(K:HK):Prop:=
 match lo,hi,mx with
 |some lo,some hi,some mx=>match(cx.T ty).d with
  |.string=>match mx,x with
   |none,.v (.string s)=>(0<=lo.getD 0/\lo.getD 0<=hi.getD s.size/\hi.getD s.size<=s.size)/\K (.v (.string (s.extract (lo.getD 0).toNat (hi.getD s.size).toNat))) h
   |_,_=>False
  |.slice e=>match(cx.T e).size with
   |0=>False
   |_+1=>match x with
    |.slice _ es=>match mx with
     |none=>(0<=lo.getD 0/\lo.getD 0<=hi.getD es.length/\hi.getD es.length<=es.length) /\
       (∀cs∈es,cs.length=(cx.T e).size)/\K (.slice .none ((es.take (hi.getD es.length).toNat).drop (lo.getD 0).toNat)) h
     |some m=>match d,hi with
      |some d,some hi=>match GU cx.pl.arr d with
       |some _=>(0<=lo.getD 0/\lo.getD 0<=hi/\m=hi/\hi<=es.length)/\(∀cs∈es,cs.length=(cx.T e).size) /\
         K (.slice (.full (cx.T e).size) ((es.take hi.toNat).drop (lo.getD 0).toNat)) h
       |none=>match h d with
        |.free=>(0<=lo.getD 0/\lo.getD 0<=hi/\m=hi/\hi<=es.length)/\(∀cs∈es,cs.length=(cx.T e).size) /\
          K (.slice (.id d (cx.T e).size) ((es.take hi.toNat).drop (lo.getD 0).toNat)) (AO h d (.tok (cx.T e).size (hi.toNat-(lo.getD 0).toNat)))
        |_=>False
      |_,_=>False
    |.v (.slice none 0 0)=>(lo.getD 0=0/\hi.getD 0=0/\mx.getD 0=0)/\(mx=none\/hi≠none)/\K (.v (.slice none 0 0)) h
    |.msl r n=>match h r with
     |.arr sz es=>match Nat.beq sz (cx.T e).size with
      |true=>(n=es.length/\0<=lo.getD 0/\lo.getD 0<=hi.getD es.length/\hi.getD es.length<=es.length/\(mx=none\/(mx=hi/\hi≠none))) /\
        K (.slice .none ((es.take (hi.getD es.length).toNat).drop (lo.getD 0).toNat)) (AO h r .dead)
      |false=>False
     |_=>False
    |_=>False
  |_=>False
 |_,_,_=>False
def U5(d:Option Nat)(h:Nat->HO)(ty:Nat)(x:AV)(lo:Option (Option Int))(hi mx:Option Operand)(K:HK):Prop:=
 match d,lo,hi,mx with
 |some d,some (some lo),none,none=>match(cx.T ty).d with
  |.slice e=>match(cx.T e).size with
   |0=>False
   |_+1=>match x with
    |.slice (.id r sz) es=>match h r with
     |.tok HJ n=>match h (Ku cx d)with
      |.free=>match Nat.beq HJ sz,Nat.beq sz (cx.T e).size with
       |true,true=>(es.length=n/\0<=lo/\lo<=es.length)/\K (.slice (.id (Ku cx d) sz) (es.drop lo.toNat)) (AO (AO h r .dead) (Ku cx d) (.tok sz (es.drop lo.toNat).length))
       |_,_=>False
      |_=>False
     |_=>False
    |_=>False
  |_=>False
 |_,_,_,_=>False
def pj(d:Option Nat)(h:Nat->HO)(ty:Nat)(x:AV)(hi:Option (Option Int))(K:HK):Prop:=
 match d,hi with
 |some d,some (some hi)=>match(cx.T ty).d with
  |.slice e=>match(cx.T e).size with
   |0=>False
   |_+1=>match x with
    |.msl r n=>match h r with
     |.arr sz es=>match h (Ku cx d)with
      |.free=>match Nat.beq sz (cx.T e).size,Nat.blt r 10000000&&Nat.blt 0 (Ku cx d)with
       |true,true=>(n=es.length/\0<=hi/\hi<=es.length)/\K (.msl (Ku cx d) hi.toNat) (AO (AO h r .dead) (Ku cx d) (.arr sz (es.take hi.toNat)))
       |_,_=>False
      |_=>False
     |_=>False
    |_=>False
  |_=>False
 |_,_=>False
def UZ(d:Option Nat)(h:Nat->HO)(ty:Nat)(x:AV)(lo:Option Operand)(hi:Option (Option Int))(mx:Option Operand)(K:HK):Prop:=
 match lo,mx with
 |none,none=>pj cx d h ty x hi K
 |_,_=>False
def cR(T:GK)(h:Nat->HO)(ty:Nat)(x:AV)(hi mx:Option Operand)(K:AV->Prop):Prop:=
 match hi,mx,(T ty).d,x with
 |none,none,.array n e,.ref r 0=>match(T e).size,h r with
  |1,.ro cs=>n=cs.length/\K (.slice .none (cs.map fun c=>[c]))
  |_,_=>False
 |_,_,_,_=>False
def py(d:Option Nat)(h:Nat->HO)(ty:Nat)(x:AV)(t:Nat->AV)(lo hi mx:Option Operand)(K:HK):Prop:=
 match lo with
 |none=>match(cx.T ty).d with
  |.array _ _=>cR cx.T h ty x hi mx fun v=>K v h
  |_=>UZ cx d h ty x none (CT t hi) mx K
 |some lo=>U5 cx d h ty x (CT t (some lo)) hi mx K
def unT:AV->AV
 |.slice _ es=>.slice .none es
 |a=>a
def OT(d:Option Nat)(h:Nat->HO)(x:AV)(K:HK):Prop:=
 match d with
 |none=>K x h
 |some d=>match GU cx.pl.tok d with
  |some sz=>match Nat.beq sz 0 with
   |true=>K (unT x) h
   |false=>match x with
    |.v (.slice none 0 0)=>match h d with
     |.free=>K (.slice (.id d sz) []) (AO h d (.tok sz 0))
     |_=>False
    |x=>K x h
  |none=>match GU cx.pl.arr d with
   |some sz=>match x with
    |.v (.slice none 0 0)=>match h d with
     |.free=>K (.msl d 0) (AO h d (.arr sz []))
     |_=>False
    |x=>K x h
   |none=>K x h
def s5(l:List AV)(n:Nat):Option AV:=
 match l with
 | []=>none
 |x::r=>match n with |0=>some x |n+1=>s5 r n
def Mw(i:Nat)(K:AV->Prop):Prop:=
 match x with
 |.tup vs=>match s5 vs i with
  |some a=>K a
  |none=>False
 |_=>False
def KV:Prop:=
 match x with
 |.ref r o=>K (.ref r o)
 |.eref r n z i o=>K (.eref r n z i o)
 |.cptr cs=>K (.cptr cs)
 |.clo f cs=>K (.clo f cs)
 |.v (.func (.func f) a b)=>K (.v (.func (.func f) a b))
 |_=>False
def bJ(c a b:AV)(K:AV->Prop):Prop:=
 match c with
 |.v (.bool true)=>K a
 |.v (.bool false)=>K b
 |_=>False
def sO(f:Int->Int->Int)(x y:AV)(K:AV->Prop):Prop:=
 match x,y with
 |.v (.int k a),.v (.int k' b)=>match zF k k' with
  |true=>K (.v (.int k (f a b)))
  |false=>False
 |_,_=>False
def JK(d:Option Nat)(h:Nat->HO)(ty:Nat)(len cap:AV)(K:HK):Prop:=
 match(cx.T ty).d,len,cap with
 |.slice e,.v (.int .i64 n),.v (.int .i64 c)=>match GT ((cx.T e).zc.map .v)with
  |true=>match Nat.beq (cx.T e).zc.length (cx.T e).size with
   |true=>match(cx.T e).size with
    |0=>False
    |_+1=>(0<=n/\n<=c/\c*(cx.T e).bytes<=140737488355328/\c<=9223372036854775807)/\Fb cx d h (cx.T e).size (List.replicate n.toNat ((cx.T e).zc.map .v)) K
   |false=>False
  |false=>False
 |_,_,_=>False
def ca(op:UnOp)(x:AV)(K:AV->Prop):Prop:=
 match op,x with
 |.not,x=>kd K x
 |.neg,.v (.int .i64 a)=>Az (-a)/\K (.v (.int .i64 (-a)))
 |.xor,.v (.int k a)=>K (.v (.int k (Cq .xor k (if k.signed then -1 else k.max) a)))
 |_,_=>False
def F4(d:Option Nat)(h:Nat->HO)(b:Builtin)(Hb:List Nat)(args:List AV)(K:HK):Prop:=
 match b,args,Hb with
 |.len,[x],[t]=>RT cx.T t h x fun v=>K v h
 |.append,[s,x],[t,t']=>match Nat.beq t t' with
  |true=>Ir cx d h t s x K
  |false=>False
 |.max,[x,y],_=>sO max x y fun v=>K v h
 |.min,[x,y],_=>sO min x y fun v=>K v h
 |_,_,_=>False
def FZ(dr:Bool)(o:Oper)(st:St)(K:HK):Prop:=
 match o.op with
 |.move x=>K (ev st.t x) st.h
 |.assign x=>OT cx o.dst st.h (ev st.t x) K
 |.pick c a b=>bJ (ev st.t c) (ev st.t a) (ev st.t b) fun v=>K v st.h
 |.alloc e=>Tl cx.T o.dst st.h e K
 |.box e x=>iT cx o.dst st.h e (ev st.t x) K
 |.build ty ps=>QC cx.T ty st.t ps.toList fun v=>K v st.h
 |.buildSlice ty n ps=>IF cx o.dst st.h ty n st.t ps.toList K
 |.insert ty m k x=>Hm cx.T st.h ty (ev st.t m) (ev st.t k) (ev st.t x) K
 |.load ty x=>JI cx.T st.h ty (ev st.t x) fun v=>K v st.h
 |.store ty p x=>OB cx st.h ty (ev st.t p) (ev st.t x) K
 |.nilCheck x=>KV (ev st.t x) fun v=>K v st.h
 |.binOp op ty x y _=>ZD cx.T op ty y (ev st.t x) (ev st.t y) fun v=>K v st.h
 |.unOp op _ x=>ca op (ev st.t x) fun v=>K v st.h
 |.convert s ty x=>match dr with
  |true=>Wx cx.T s ty (ev st.t x) fun v=>K v st.h
  |false=>dg cx o.dst st.h s ty (ev st.t x) K
 |.makeFunc fn first cap=>KT st.t st.h fn first.toList cap.toList fun v=>K v st.h
 |.makeMap ty none=>KU cx.T cx.pl.mku o.dst st.h ty K
 |.makeSlice ty n c=>JK cx o.dst st.h ty (ev st.t n) (ev st.t c) K
 |.slice ty x lo hi mx=>match dr with
  |true=>match Tt cx.pl.tok o.dst with
   |none=>Io cx o.dst st.h ty (ev st.t x) (CT st.t lo) (CT st.t hi) (CT st.t mx) K
   |some _=>UZ cx o.dst st.h ty (ev st.t x) lo (CT st.t hi) mx K
  |false=>match Tt cx.pl.tok o.dst with
   |none=>Io cx o.dst st.h ty (ev st.t x) (CT st.t lo) (CT st.t hi) (CT st.t mx) K
   |some _=>py cx o.dst st.h ty (ev st.t x) st.t lo hi mx K
 |.fieldAddr s x f=>TZ cx.T s f (ev st.t x) fun v=>K v st.h
 |.field s x f=>Pl cx.T s f (ev st.t x) fun v=>K v st.h
 |.indexAddr ty x ix=>JG cx.T ty (ev st.t x) (ev st.t ix) fun v=>K v st.h
 |.index ty x ix=>Ut cx.T ty (ev st.t x) (ev st.t ix) fun v=>K v st.h
 |.lookup ty x ix ok=>match dr with
  |true=>Nc cx.T st.h ty (ev st.t x) (ev st.t ix) ok fun v=>K v st.h
  |false=>Ng cx.T st.h ty (ev st.t x) (ev st.t ix) ok fun v=>K v st.h
 |.mapUpdate ty m k x=>Hm cx.T st.h ty (ev st.t m) (ev st.t k) (ev st.t x) K
 |.range ty x=>match(cx.T ty).d with |.map _ _=>eG o.dst st.h (ev st.t x) K |_=>False
 |.next it false=>oH st.h (ev st.t it) K
 |.entry it=>di st.h (ev st.t it) fun v=>K v st.h
 |.extract x i=>Mw (ev st.t x) i fun v=>K v st.h
 |.call c=>match c.callee with
  |.builtin b=>F4 cx o.dst st.h b c.argTypes.toList (c.args.toList.map (ev st.t)) K
  |.value f=>Gu cx dr o.dst st (ev st.t f) (c.args.toList.map (ev st.t)) K
  |_=>False
 |_=>False
def LD(ops:List Oper)(j:Nat):Option Nat:=match ops with | []=>none | o::r=>match j with | 0=>o.dst | j+1=>LD r j
def pk(o:Oper)(st:St):St:=
 match o.dst with
 |none=>st
 |some d=>match zS cx.pl.tz d with
  |some (r,k,j,sz)=>⟨st.t,tz1 st.h r k j sz⟩
  |none=>match vY cx.pl.fz d with
   | []=>st
   |l=>⟨st.t,Pw st.h l⟩
def akK(o:Oper)(st:St)(K:St->Prop):Prop:=
 match o.dst with
 |none=>K st
 |some d=>match GU cx.pl.ak d with
  |none=>K st
  |some s=>match st.t s with
   |.msl r n=>match st.h r with
    |.arr sz es=>n=es.length/\K ⟨JU st.t s (.slice (.id r sz) es),AO st.h r (.tok sz es.length)⟩
    |_=>K st
   |_=>K st
def lN(dr:Bool)(o:Oper)(st:St)(K:St->Prop):Prop:=
 match dr with
 |true=>FZ cx true o st fun v h=>K (st.put o.dst v h)
 |false=>akK cx o (pk cx o st) fun EM=>FZ cx false o EM fun v h=>K (EM.put o.dst v h)
def I1(dr:Bool)(all:List Oper)(o:Oper)(st:St)(K:St->Prop):Prop:=
 match o.guard with
 |none=>lN cx dr o st K
 |some (j,want)=>match LD all j with
  |none=>False
  |some d=>match st.t d,want with
   |.v (.bool true),true=>lN cx dr o st K
   |.v (.bool false),false=>lN cx dr o st K
   |.v (.bool true),false=>K (st.put o.dst (.v undef) st.h)
   |.v (.bool false),true=>K (st.put o.dst (.v undef) st.h)
   |.v (.tuple _),_=>K (st.put o.dst (.v undef) st.h)
   |_,_=>False
def aO(o2:Oper):Bool:=
 match o2.op with
 |.call c=>match c.callee with
  |.builtin .clear=>match o.op with
   |.slice ty _ (some _) none none=>match o.dst,o2.dst,c.args.toList,c.argTypes.toList,o.guard,o2.guard with
    |some d,none,[.tmp d'],[ty'],none,none=>Nat.beq d d'&&Nat.beq ty ty'
    |_,_,_,_,_,_=>false
   |_=>false
  |_=>false
 |_=>false
def Aag(d:Nat)(st:St)(r i sz:Nat)(es:C0)(z:List Value)(K:St->Prop):Prop:=
 match z.all Value.oneCell' with
 |true=>K ⟨JU st.t d .junk,AO st.h r (.arr sz (es.take i++List.replicate (es.length-i) (z.map AV.v)))⟩
 |false=>False
def ry(o:Oper)(st:St)(K:St->Prop):Prop:=
 match o.op with
 |.slice ty x (some lo) none none=>match o.dst with
  |some d=>match(cx.T ty).d with
   |.slice e=>match ev st.t x with
    |.msl r n=>match ev st.t lo with
     |.v (.int .i64 i)=>match st.h r with
      |.arr sz es=>match Nat.beq sz (cx.T e).size with
       |true=>match(cx.T e).size with
        |0=>False
        |_+1=>match Nat.beq (cx.T e).zc.length sz with
         |true=>(n=es.length/\0<=i/\i<=es.length)/\Aag d st r i.toNat sz es (cx.T e).zc K
         |false=>False
       |false=>False
      |_=>False
     |_=>False
    |_=>False
   |_=>False
  |none=>False
 |_=>False
def ZB(cx:Cx)(all l:List Oper)(st:St)(K:St->Prop):Prop:=
 match l with
 | []=>K st
 | [o]=>I1 cx false all o st K
 |o::o2::r=>match aO o o2 with
  |true=>ry cx o st fun EM=>ZB cx all r EM K
  |false=>I1 cx false all o st fun EM=>ZB cx all (o2::r) EM K
def aI:AV->List Nat
 |.ref r _=>[r]
 |.mref r=>[r]
 |_=>[]
def su:List AV->List Nat
 | []=>[]
 |a::r=>aI a++su r
def Yu:AV->List Nat
 |.agg cs=>su cs
 |.clo _ cs=>su cs
 |a=>aI a
def xo:List AV->List Nat
 | []=>[]
 |a::r=>Yu a++xo r
def aH:AV->List Nat
 |.agg cs=>xo cs
 |a=>Yu a
def Up:List AV->List Nat
 | []=>[]
 |a::r=>aH a++Up r
abbrev FF:=List Nat×Option Nat
def IH(d:Option Nat)(l:List Nat):Option FF:=match d with | some d=>some (d::l,some d) | none=>none
def jW:AV->List Nat
 |.msl r _=>[r]
 |_=>[]
def Yg(d:Option Nat)(s x:AV):Option FF:=
 match s with
 |.v (.slice none 0 0)=>IH (d.map (Ku cx)) (jW x)
 |.slice (.full _) _=>IH (d.map (Ku cx)) (jW x)
 |.slice (.id r _) _=>IH (some r) (jW x)
 |.msl r _=>IH (some r) (jW x)
 |_=>none
def fT(d:Option Nat)(args:List AV):Option FF:=
 match d with
 |some d=>match args with
  |.msl r _::_=>some ([r,BJ d 0],some (r+10000000*BJ d 0))
  |_=>none
 |none=>none
theorem dq{d:Option Nat}{args:List AV}{f:FF}(h:fT d args=some f):∃d' r n l,d=some d'/\args=.msl r n::l/\f=([r,BJ d' 0],some (r+10000000*BJ d' 0)):=by
 unfold fT at h;split at h
 .split at h
  .cases h;exact⟨_,_,_,_,rfl,rfl,rfl⟩
  .cases h
 .cases h
def mX(d:Option Nat)(x:AV):Option FF:=
 match d with
 |some d=>match x with
  |.msl r _=>some ([r,d],some (r+10000000*d))
  |_=>none
 |none=>none
theorem dt{d:Option Nat}{x:AV}{f:FF}(h:mX d x=some f):∃d' r n,d=some d'/\x=.msl r n/\f=([r,d'],some (r+10000000*d')):=by
 unfold mX at h;split at h
 .split at h
  .cases h;exact⟨_,_,_,rfl,rfl,rfl⟩
  .cases h
 .cases h
def mY(args:List AV):Option FF:=match Xz args with | some _=>some ([1000,1001],some 10010001000) | none=>none
def XN:Nat:=99999999999999
def mW(k:Nat)(d:Option Nat)(args:List AV):Option FF:=
 match Nat.beq k 3 with
 |true=>some (rR,some XN)
 |false=>fT d args
def G6(d:Option Nat)(c:Callee)(t:Nat->AV)(args:List AV):Option FF:=
 match c,args with
 |.builtin .len,[.mref r]=>some ([r],none)
 |.builtin .len,[_]=>some ([],none)
 |.builtin .max,_=>some ([],none)
 |.builtin .min,_=>some ([],none)
 |.builtin .append,[s,x]=>Yg cx d s x
 |.value f,args=>match Tt cx.pl.dc d with
  |none=>some (aH (ev t f)++Up args,none)
  |some 0=>IH (d.map fun d=>BJ d 0) (aH (ev t f)++Up args)
  |some 1=>match args with |.msl r _::_=>some ([r],some r) |_=>none
  |some (k+2)=>match Nat.beq k 1 with
   |true=>IH (d.map fun d=>BJ d 0) (aH (ev t f)++Up args)
   |false=>match Nat.beq k 2 with
    |true=>mY args
    |false=>mW k d args
 |_,_=>none
def Fo(o:Oper)(st:St):Option FF:=
 match o.op with
 |.move _ |.pick .. |.nilCheck _ |.unOp .. |.convert .. |.fieldAddr .. |.field .. |.indexAddr .. |.index .. |.extract .. |.build ..=>some ([],none)
 |.binOp _ _ x _ _=>match ev st.t x with |.slice ..=>none |_=>some ([],none)
 |.assign x=>match ev st.t x with |.v (.slice ..)=>none |_=>some ([],none)
 |.load _ p=>match ev st.t p with |.cptr _=>some ([],none) |.ref r _=>some ([r],none) |.eref r ..=>some ([r],none) |_=>none
 |.call c=>G6 cx o.dst c.callee st.t (c.args.toList.map (ev st.t))
 |.alloc e=>match Nat.beq e ZE with |true=>none |false=>IH o.dst []
 |.box _ x=>IH o.dst (aH (ev st.t x))
 |.buildSlice _ _ ps=>IH (o.dst.map (Ku cx)) (Up (ps.toList.map fun p=>ev st.t p.2))
 |.store _ p x=>match ev st.t p with
  |.ref r _=>match IV cx.pl.frz r with |true=>none |false=>IH (some r) []
  |.eref r ..=>IH (some r) (aH (ev st.t x))
  |_=>none
 |.slice _ x _ _ mx=>match Tt cx.pl.tok o.dst with
  |some _=>mX (o.dst.map (Ku cx)) (ev st.t x)
  |none=>match mx,ev st.t x with
   |none,.msl ..=>none
   |none,_=>some ([],none)
   |some _,.slice ..=>IH o.dst []
   |_,_=>none
 |.makeFunc _ _ cap=>some (Up (cap.toList.map (ev st.t)),none)
 |.mapUpdate _ m _ x=>match ev st.t m with |.mref r=>IH (some r) (aH (ev st.t x)) |_=>none
 |.makeSlice ..=>IH (o.dst.map (Ku cx)) []
 |.lookup _ m _ _=>match ev st.t m with |.cmap ..=>some ([],none) |.mref r=>some ([r],none) |_=>none
 |.makeMap ..=>IH o.dst []
 |_=>none
def NP(all:List Oper)(o:Oper)(st:St):Option FF:=
 match o.guard with
 |none=>Fo cx o st
 |some (j,want)=>match LD all j with
  |none=>none
  |some d=>match st.t d,want with
   |.v (.bool true),true=>Fo cx o st
   |.v (.bool false),false=>Fo cx o st
   |_,_=>some ([],none)
def Abr(l:List Nat):Bool:=match l with | []=>true | _=>false
def bB(l:List Nat)(r:Nat):Bool:=bif Nat.beq r XN then Abr l else !IV l r&&(Nat.blt r 10000000||(!IV l (r % 10000000)&&!IV l (r / 10000000)))
def TP(a b:FF):Bool:=
 (match a.2 with | some r=>bB b.1 r | none=>true)&&(match b.2 with | some r=>bB a.1 r | none=>true)
def Px(i:Nat)(D:List Nat):Bool:=o.after.toList.any fun e=>Region.binds .any e&&(Nat.beq e.on i||IV D e.on)
def QG(i:Nat)(D:List Nat)(k:Nat):List Oper->List Nat
 | []=>D
 |o::r=>match Px o i D with
  |true=>QG i (k::D) (k+1) r
  |false=>QG i D (k+1) r
def Vh(i:Nat)(D:List Nat)(k:Nat):List Oper->Bool
 | []=>true
 |o::r=>(Px o i D||!IV D k)&&Vh i D (k+1) r
def IE(ops:Array Oper)(oi:Oper)(fi:FF)(D:List Nat)(k:Nat):List Oper->List FF->Bool
 |o::r,f::fs=>(IV D k||(oi.apart ops o&&TP fi f))&&IE ops oi fi D (k+1) r fs
 | [],[]=>true
 |_,_=>false
def Mu(ops:Array Oper)(all:List Oper)(k:Nat):List Oper->List FF->Bool
 |o::r,f::fs=>
  let D:=QG k [] 0 all
  (o.after.toList.all fun e=>!Region.binds .any e||Nat.blt e.on k)&&Vh k D 0 all&&(D.all fun j=>Nat.blt k j&&Nat.blt j all.length)&&IE ops o f D (k+1) r fs&&Mu ops all (k+1) r fs
 | [],[]=>true
 |_,_=>false
def TQ(ops:Array Oper)(fs:List FF):Bool:=Region.noSelect ops&&Mu ops ops.toList 0 ops.toList fs
def Zz(cx:Cx)(ops:Array Oper)(l:List Oper)(fs:List FF)(st:St)(K:St->Prop):Prop:=
 match l with
 | []=>TQ ops fs.reverse=true/\K st
 |o::r=>match NP cx ops.toList o st with
  |some f=>I1 cx true ops.toList o st fun EM=>Zz cx ops r (f::fs) EM K
  |none=>False
def TU(l:List (Nat×AV))(i:Nat):AV:=match l with | []=>.junk | (j,v)::r=>bif Nat.beq i j then v else TU r i
structure LS where
 t:List (Nat×AV)
 h:List (Nat×HO)
 hb:Nat->HO
def LS.st(s:LS):St:=⟨TU s.t,Ak s.h s.hb⟩
def Sz(h:Nat->HO)(r:Nat):Bool:=match h r with | .free=>false | _=>true
def ids0(h:Nat->HO):AV->Bool
 |.slice (.id r _) _=>Sz h r
 |.slice (.ver r _ _) _=>Sz h r
 |.msl r _=>Sz h r
 |.ref r _=>Sz h r
 |.eref r _ _ _ _=>Sz h r
 |.mref r=>Sz h r
 |.agg _ |.tup _ |.clo ..=>false
 |_=>true
def aJ(h:Nat->HO):List AV->Bool
 | []=>true
 |a::r=>match ids0 h a with |true=>aJ h r |false=>false
def Uq(h:Nat->HO):AV->Bool
 |.agg cs=>aJ h cs
 |.tup cs=>aJ h cs
 |.clo _ cs=>aJ h cs
 |a=>ids0 h a
def RQ(h:Nat->HO):List (Value×AV)->Bool
 | []=>true
 |p::r=>match Uq h p.2 with |true=>RQ h r |false=>false
def Yv(h:Nat->HO):List AV->Bool
 | []=>true
 |a::r=>match Uq h a with |true=>Yv h r |false=>false
def SA(h:Nat->HO):HO->Bool
 |.cells cs=>Yv h cs
 |.mapU _ BU=>RQ h BU
 |.hol _ _ _ _ a=>Uq h a
 |.bld x=>Uq h x
 |_=>true
def leT(st:St)(h:Nat->HO):List (Nat×AV)->Prop
 | []=>True
 |(j,a)::r=>(st.t j=a/\Uq h a=true)/\leT st h r
def leH(st:St)(h:Nat->HO):List (Nat×HO)->Prop
 | []=>True
 |(j,o)::r=>(st.h j=o/\SA h o=true)/\leH st h r
def St.le(st:St)(s:LS):Prop:=
 leT st s.st.h s.t/\leH st s.st.h s.h/\(∀j,s.hb j=.free\/(st.h j=s.hb j/\SA s.st.h (s.hb j)=true)) /\
 match cx.ext with
 |false=>True
 |true=>∀j,1000<=j->j<2000->st.h j≠.free->s.st.h j≠.free
def M1(ops:Array Oper)(dr:Bool)(st:St)(K:St->Prop):Prop:=
 match dr with
 |false=>ZB cx ops.toList ops.toList st K
 |true=>Zz cx ops ops.toList [] st K
inductive Ex | normal | exit (id:Nat) | ret
def azK(h:Nat->HO)(o k:Nat)(K:(Nat->HO)->Prop):Prop:=
 match h o with
 |.cells cs=>match JM cs k with
  |.msl r n=>match h r with
   |.arr sz es=>n=es.length/\K (AO (AO h r (.tok sz es.length)) o (.cells (E2 cs k (.slice (.id r sz) es))))
   |_=>K h
  |_=>K h
 |_=>K h
def amK(h:Nat->HO)(o k j:Nat)(K:(Nat->HO)->Prop):Prop:=
 match h o with
 |.cells cs=>match JM cs k with
  |.msl r n=>match h r with
   |.arr sz es=>match h j with
    |.free=>n=es.length/\K (AO (AO (AO h r .dead) j (.arr sz es)) o (.cells (E2 cs k (.msl j n))))
    |_=>False
   |_=>False
  |_=>False
 |_=>False
def uvK(h:Nat->HO)(o k d:Nat)(K:(Nat->HO)->Prop):Prop:=
 match h o with
 |.cells cs=>match JM cs k with
  |.slice (.ver r sz v) es=>match h r with
   |.var HJ v' _=>match h d with
    |.free=>(v=v'/\sz=HJ)/\K (AO (AO (AO h r (.vox v)) d (.tok sz es.length)) o (.cells (E2 cs k (.slice (.id d sz) es))))
    |_=>False
   |_=>False
  |_=>K h
 |_=>False
def rvK(h:Nat->HO)(o k r:Nat)(K:(Nat->HO)->Prop):Prop:=
 match h o with
 |.cells cs=>match JM cs k with
  |.slice (.id d sz) es=>match h d with
   |.tok HJ n=>match h r with
    |.vox v=>(es.length=n/\sz=HJ)/\K (AO (AO (AO h d .dead) r (.var sz (v+1) n)) o (.cells (E2 cs k (.slice (.ver r sz (v+1)) es))))
    |_=>False
   |_=>False
  |_=>K h
 |_=>False
def nvK(h:Nat->HO)(r:Nat)(K:(Nat->HO)->Prop):Prop:=
 match h r with
 |.free=>K (AO h r (.vox 0))
 |_=>False
def rmK(h:Nat->HO)(o k:Nat)(K:(Nat->HO)->Prop):Prop:=
 match h o with
 |.cells cs=>match JM cs k with
  |.mref r=>match h r with
   |.rom sh BU=>K (AO h o (.cells (E2 cs k (.cmap sh BU))))
   |_=>False
  |_=>False
 |_=>False
def zaK(h:Nat->HO)(o k j sz:Nat)(K:(Nat->HO)->Prop):Prop:=
 match h o with
 |.cells cs=>match JM cs k with
  |.v (.slice none 0 0)=>match h j with
   |.free=>K (AO (AO h j (.arr sz [])) o (.cells (E2 cs k (.msl j 0))))
   |_=>False
  |_=>False
 |_=>False
def fz0(id:Nat)(h:Nat->HO)(K:(Nat->HO)->Prop):Prop:=
 match GU cx.pl.ak (850000+id)with
 |some v=>K (m6 h v)
 |none=>K h
def rm0(id:Nat)(h:Nat->HO)(K:(Nat->HO)->Prop):Prop:=
 match GU cx.pl.ak (800000+id)with
 |some v=>rmK h (v % 10000) (v / 10000 % 100) K
 |none=>K h
def rm1(id:Nat)(h:Nat->HO)(K:(Nat->HO)->Prop):Prop:=
 match GU cx.pl.ak (810000+id)with
 |some v=>rmK h (v % 10000) (v / 10000 % 100) K
 |none=>K h
def zJ(id:Nat)(h:Nat->HO)(K:(Nat->HO)->Prop):Prop:=
 match GU cx.pl.ak (900000+id)with
 |some v=>zaK h (v % 10000) (v / 10000 % 100) (v / 1000000 % 10000) (v / 10000000000) K
 |none=>K h
def hoK(h:Nat->HO)(r:Nat)(K:(Nat->HO)->Prop):Prop:=
 match h r with
 |.hol sz es i c (.msl j m)=>match Nat.beq r j with
  |true=>False
  |false=>match h j with
   |.arr ic qs=>m=qs.length/\∃cs,es[i]?=some cs/\c<sz/\K (AO (AO (AO h j (.tok ic qs.length)) j .dead) r (.arr sz (es.set i (over cs c [.slice .none qs]))))
   |_=>False
 |_=>False
def yn(id:Nat)(h:Nat->HO)(K:(Nat->HO)->Prop):Prop:=
 match GU cx.pl.ak (500000+id)with
 |some v=>uvK h (v % 10000) (v / 10000 % 100) (v / 1000000) K
 |none=>match GU cx.pl.ak (600000+id)with
  |some v=>rvK h (v % 10000) (v / 10000 % 100) (v / 1000000) K
  |none=>match GU cx.pl.ak (700000+id)with
   |some v=>nvK h v K
   |none=>match GU cx.pl.ak (950000+id)with
    |some v=>hoK h v K
    |none=>fz0 cx id h fun h=>rm0 cx id h fun h=>rm1 cx id h fun h=>zJ cx id h K
def asK(st:St)(s k:Nat)(K:St->Prop):Prop:=
 match st.t s with
 |.msl r n=>match st.h r with
  |.arr sz es=>match k with
   |0=>n=es.length/\K ⟨JU st.t s (.slice .none es),AO (AO st.h r (.tok sz es.length)) r .dead⟩
   |k+1=>match Nat.beq r (k+1)with
    |true=>K st
    |false=>match st.h (k+1)with
     |.free=>n=es.length/\K ⟨JU st.t s (.msl (k+1) n),AO (AO st.h r .dead) (k+1) (.arr sz es)⟩
     |_=>False
  |_=>K st
 |_=>K st
def Aah(id:Nat)(st:St)(K:St->Prop):Prop:=
 match IV cx.pl.cut id with
 |true=>match GU cx.pl.ak (100000+id)with
  |none=>match GU cx.pl.ak (200000+id)with
   |none=>match GU cx.pl.ak (300000+id)with
    |none=>yn cx id st.h fun h'=>∃s:LS,St.le cx ⟨st.t,h'⟩ s/\K s.st
    |some v=>amK st.h (v % 10000) (v / 10000 % 100) (v / 1000000) fun h'=>∃s:LS,St.le cx ⟨st.t,h'⟩ s/\K s.st
   |some v=>asK st (v % 1000) (v / 1000) fun EM=>∃s:LS,St.le cx EM s/\K s.st
  |some v=>azK st.h (v % 1000) (v / 1000) fun h'=>∃s:LS,St.le cx ⟨st.t,h'⟩ s/\K s.st
 |false=>K st
def Sq(cx:Cx)(c:Code)(Q:Ex->St->Prop)(st:St):Prop:=
 match c with
 |.skip=>Q .normal st
 |.label _=>Q .normal st
 |.region id ops dr=>Aah cx id st fun st=>match cx.pl.dyn with
  | []=>M1 cx ops dr st (Q .normal)
  |_=>∃n,M1 { cx with nid:=n } ops dr st (Q .normal)
 |.seq a b=>Sq cx a (fun e EM=>match e with |.normal=>Sq cx b Q EM |e=>Q e EM) st
 |.cond c a b=>match ev st.t c with
  |.v (.bool true)=>Sq cx a Q st
  |.v (.bool false)=>Sq cx b Q st
  |_=>False
 |.block id c=>Sq cx c (fun e EM=>match e with |.exit j=>(bif Nat.beq j id then Q .normal EM else Q (.exit j) EM) |e=>Q e EM) st
 |.loop c=>∃(α:Type) (I:α->LS) (μ:α->Nat),(∃x,St.le cx st (I x)) /\
   ∀x,Sq cx c (fun e EM=>match e with | .normal=>∃y,μ y<μ x/\St.le cx EM (I y) | e=>Q e EM) (I x).st
 |.exit id=>Q (.exit id) st
 |.ret=>Q .ret st
 |_=>False
def Pi:List AV->Nat->AV
 | [],_=>.v undef
 |a::r,n=>match n with |0=>a |n+1=>Pi r n
def th(T:GK)(st:St):List ResultVar->(List AV->Prop)->Prop
 | [],K=>K []
 |.tmp i::r,K=>th T st r fun l=>K (str st.h (st.t i)::l)
 |.cell a t::r,K=>JI T st.h t (st.t a) fun v=>th T st r fun l=>K (str st.h v::l)
def tf(st:St)(rs:List ResultVar)(K:AV->Prop):Prop:=
 th cx.T ⟨st.t,Pw st.h cx.pl.fin⟩ rs fun
  | [v]=>K v
  |vs=>K (.tup vs)
def wG(rs:List ResultVar)(K:AV->Prop)(e:Ex)(st:St):Prop:=
 match e with
 |.normal=>tf cx st rs K
 |.ret=>tf cx st rs K
 |.exit _=>False
def ti(T:GK)(st:St):List ResultVar->(List AV->Prop)->Prop
 | [],K=>K []
 |.tmp i::r,K=>ti T st r fun l=>K (st.t i::l)
 |.cell a t::r,K=>JI T st.h t (st.t a) fun v=>ti T st r fun l=>K (v::l)
def kn(st:St)(rs:List ResultVar)(σ:Jd)(Q:AV->(Nat->HO)->Prop):Prop:=
 ti cx.T ⟨st.t,Pw st.h cx.pl.fin⟩ rs fun
  | [v]=>Q (ren (Cw σ) (Pw st.h cx.pl.fin) v) (FH σ (Pw st.h cx.pl.fin))
  |vs=>Q (ren (Cw σ) (Pw st.h cx.pl.fin) (.tup vs)) (FH σ (Pw st.h cx.pl.fin))
def ZW(rs:List ResultVar)(σ:Jd)(Q:AV->(Nat->HO)->Prop)(e:Ex)(st:St):Prop:=
 match e with
 |.normal=>kn cx st rs σ Q
 |.ret=>kn cx st rs σ Q
 |.exit _=>False
def IG(σ:Jd):List (Nat×HO)->Bool
 | []=>true
 |(i,_)::r=>Nat.ble 1000 i&&Nat.blt i 2000&&(match Cw σ i with |some j=>Nat.beq j i |none=>false)&&IG σ r
theorem yN{n m:Nat}{b:Prop}(k:b)(h:n <= m:=by exact Gc rfl):n <= m /\ b:=⟨h,k⟩
abbrev nzA:AV:=.v (.slice none 0 0)
abbrev pC(a c:List Nat):Qx:=⟨a,[],[],[],[],[],[],[],[],[],c⟩
abbrev pT(a:List Nat)(b:List (Nat×Nat))(c:List Nat):Qx:=⟨a,b,[],[],[],[],[],[],[],[],c⟩
end Go.Eng
