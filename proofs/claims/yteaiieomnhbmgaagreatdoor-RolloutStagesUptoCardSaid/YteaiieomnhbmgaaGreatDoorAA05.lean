/- Lemmas 5. -/
import Derived.Test.YteaiieomnhbmgaaGreatDoorAA00
import Derived.WalkKit
import Derived.Still
import Derived.RangeFuncSeq
import Derived.OrdersIn
import Derived.TacticsIn
namespace Go.Eng
variable {vs:Array Value}{E:TypeId}(op:BinOp)(f:Nat->Option Nat)(o:Oper)
theorem Wk{p:Prop}(h:p:=by kernel_rfl):p:=h
inductive Tk | none | full (sz:Nat) | id (r sz:Nat) | ver (r sz v:Nat)
inductive KS | int (k:IntKind) | str | bool
structure Fg where
 agg:Bool
 l:List KS
variable (sh:Fg)
inductive AV
 |v (x:Value)
 |slice (tk:Tk) (es:List (List AV))
 |msl (r n:Nat)
 |agg (cs:List AV)
 |tup (vs:List AV)
 |cptr (cs:List AV)
 |ref (r off:Nat)
 |eref (r n sz i off:Nat)
 |mref (r:Nat)
 |cmap (sh:Fg) (Cc:List (Value×AV))
 |clo (f:Nat) (caps:List AV)
 |junk
variable (x:AV)(K:AV->Prop)
inductive HO
 |free
 |dead
 |cells (cs:List AV)
 |ro (cs:List AV)
 |tok (sz n:Nat)
 |var (sz v n:Nat)
 |vox (v:Nat)
 |arr (sz:Nat) (es:List (List AV))
 |map (sh:Fg) (Cc:List (Value×AV))
 |mapU (sh:Fg) (Cc:List (Value×AV))
 |rom (sh:Fg) (Cc:List (Value×AV))
 |iter (all rem:List (Value×AV)) (EN:Option (Value×AV))
 |raw (b:Nat) (ob:Obj)
 |hol (sz:Nat) (es:List (List AV)) (i c:Nat) (a:AV)
structure St where
 t:Nat->AV
 h:Nat->HO
def Ae:Nat->HO:=fun _=>.free
def A1(h:Nat->HO)(r:Nat)(o:HO):Nat->HO:=fun i=>bif Nat.beq i r then o else h i
def HZ(t:Nat->AV)(d:Nat)(v:AV):Nat->AV:=fun i=>bif Nat.beq i d then v else t i
def St.put(st:St)(d:Option Nat)(v:AV)(h:Nat->HO):St:=
 match d with
 |none=>⟨st.t,h⟩
 |some d=>⟨HZ st.t d v,h⟩
def ev(t:Nat->AV):Operand->AV
 |.tmp i=>t i
 |.const v=>.v v
 |.global g=>.v (.pointer (some ⟨g,0,none⟩))
 |.func f=>.v (.func (.func f) #[] #[])
inductive TD
 |int (k:IntKind) |bool |string |slice (e:Nat) |array (n e:Nat) |struct (fs:List (Nat×Nat)) |ptr (e:Nat) |map (k e:Nat) |func |iface |other
structure TI where
 d:TD
 size:Nat
 bytes:Nat
 zero:Value
 eqok:Bool
def TI.zc(i:TI):List Value:=match i.zero with | .agg cs=>cs.toList | v=>[v]
abbrev Ha:=Nat->TI
structure Tn where
 frz:List Nat
 tok:List (Nat×Nat)
 arr:List (Nat×Nat)
 fz:List (Nat×List Nat)
 fin:List Nat
 mku:List Nat
 dyn:List Nat
 tz:List (Nat×(Nat×Nat×Nat×Nat))
 dc:List (Nat×Nat)
 ak:List (Nat×Nat)
 cut:List Nat
def JA(l:List Nat)(n:Nat):Bool:=
 match l with
 | []=>false
 |x::r=>bif Nat.beq x n then true else JA r n
def Hl(l:List (Nat×Nat))(n:Nat):Option Nat:=
 match l with
 | []=>none
 |(x,y)::r=>bif Nat.beq x n then some y else Hl r n
def str0(h:Nat->HO):AV->AV
 |.slice _ es=>.slice .none es
 |.ref r off=>match h r with |.ro cs=>.cptr (cs.drop off) |_=>.junk
 |.mref r=>match h r with |.rom sh Cc=>.cmap sh Cc |_=>.junk
 |.v x=>.v x
 |.cptr cs=>.cptr cs
 |.cmap s m=>.cmap s m
 |_=>.junk
def str(h:Nat->HO):AV->AV
 |.agg cs=>.agg (cs.map (str0 h))
 |.clo f cs=>.clo f (cs.map (str0 h))
 |a=>str0 h a
def TB(h:Nat->HO)(Cc:List (Value×AV)):List (Value×AV):=Cc.map fun p=>(p.1,str h p.2)
def md(h:Nat->HO)(r:Nat):Nat->HO:=
 match h r with
 |.cells cs=>A1 h r (.ro (cs.map (str h)))
 |.map sh Cc=>A1 h r (.rom sh Cc)
 |.mapU sh Cc=>A1 h r (.rom sh (TB h Cc))
 |_=>h
def Qq(h:Nat->HO):List Nat->Nat->HO
 | []=>h
 |r::l=>Qq (md h r) l
def tN(l:List (Nat×List Nat))(n:Nat):List Nat:=
 match l with
 | []=>[]
 |(x,y)::r=>bif Nat.beq x n then y else tN r n
def xj(l:List (Nat×(Nat×Nat×Nat×Nat)))(n:Nat):Option (Nat×Nat×Nat×Nat):=
 match l with
 | []=>none
 |(x,y)::r=>bif Nat.beq x n then some y else xj r n
def J0(l:List AV)(n:Nat):AV:=
 match l with
 | []=>.junk
 |x::r=>match n with |0=>x |n+1=>J0 r n
def E8(cs:List AV)(o:Nat)(v:AV):List AV:=
 match cs with
 | []=>[]
 |c::cs=>match o with |0=>v::cs |o+1=>c::E8 cs o v
def tz1(h:Nat->HO)(r k j sz:Nat):Nat->HO:=
 match h r with
 |.cells cs=>match J0 cs k with
  |.v (.slice none 0 0)=>match h j with
   |.free=>A1 (A1 h j (.tok sz 0)) r (.cells (E8 cs k (.slice (.id j sz) [])))
   |_=>h
  |_=>h
 |_=>h
def rsv(h:Nat->HO):AV->AV
 |.ref r off=>match h r with |.ro cs=>.cptr (cs.drop off) |_=>.ref r off
 |.mref r=>match h r with |.rom sh Cc=>.cmap sh Cc |_=>.mref r
 |a=>a
def one:AV->Bool
 |.v x=>x.oneCell'
 |.agg _ |.tup _ |.junk=>false
 |_=>true
def Hp:List AV->Bool
 | []=>true
 |a::r=>match one a with |true=>Hp r |false=>false
def Aay:AV->List AV
 |.agg cs=>cs
 |a=>[a]
def AX(a:Int):Prop:=-9223372036854775808<=a/\a<9223372036854775808
def MJ(cs:List AV)(K:AV->Prop):Prop:=
 match cs with
 |a::_=>K a
 | []=>False
def JG(p:Prop)(K:AV->Prop):Prop:=(p->K (.v (.bool true)))/\(¬p->K (.v (.bool false)))
def MN(T:Ha)(t:Nat)(cs:List AV)(K:AV->Prop):Prop:=
 match(T t).d with
 |.struct _=>(T t).size<=cs.length/\K (.agg (cs.take (T t).size))
 |.array _ _=>(T t).size<=cs.length/\K (.agg (cs.take (T t).size))
 |.bool=>MJ cs fun |.v (.bool b)=>(b=true->K (.v (.bool true)))/\(b=false->K (.v (.bool false))) |_=>False
 |.other=>False
 |_=>MJ cs K
def pn:List AV->List AV->Prop
 | [],[]=>True
 |.v (.int _ a)::r,.v (.int _ b)::s=>a=b/\pn r s
 |.v (.string a)::r,.v (.string b)::s=>a=b/\pn r s
 |.v (.bool a)::r,.v (.bool b)::s=>a=b/\pn r s
 |_,_=>False
def xa:IntKind->IntKind->Bool
 |.i64,.i64 |.u8,.u8 |.u32,.u32 |.i32,.i32 |.u64,.u64 |.u16,.u16 |.i16,.i16 |.i8,.i8=>true
 |_,_=>false
def OY(f:Nat->Option (List KS)):Nat->List (Nat×Nat)->Option (List KS)
 |_,[]=>some []
 |n,(t,o)::r=>match Nat.beq o n with
  |true=>match f t with
   |some a=>match OY f (n+a.length) r with
    |some b=>some (a++b)
    |none=>none
   |none=>none
  |false=>none
def Iu(T:Ha):Nat->Nat->Option (List KS)
 |0,_=>none
 |n+1,t=>match(T t).d with
  |.int k=>match(T t).size with |1=>some [.int k] |_=>none
  |.string=>match(T t).size with |1=>some [.str] |_=>none
  |.bool=>match(T t).size with |1=>some [.bool] |_=>none
  |.struct fs=>match(T t).eqok with
   |true=>match OY (Iu T n) 0 fs with
    |some l=>match Nat.beq l.length (T t).size with |true=>some l |false=>none
    |none=>none
   |false=>none
  |_=>none
def Oy:KS->Value->Bool
 |.int k,.int k' _=>xa k k'
 |.str,.string _=>true
 |.bool,.bool _=>true
 |_,_=>false
def bi:List KS->List AV->Bool
 | [],[]=>true
 |k::r,.v x::s=>match Oy k x with |true=>bi r s |false=>false
 |_,_=>false
def wN(T:Ha)(t:Nat)(x y:AV)(K:AV->Prop):Prop:=
 match(T t).d with
 |.bool=>match x,y with
  |.v (.bool a),.v (.bool b)=>K (.v (.bool (a == b)))
  |_,_=>False
 |.struct _=>match x,y with
  |.agg xs,.agg ys=>match Iu T 8 t with
   |some l=>match bi l xs with
    |true=>match bi l ys with
     |true=>JG (pn xs ys) K
     |false=>False
    |false=>False
   |none=>False
  |_,_=>False
 |.slice _=>match x,y with
  |.slice _ es,.v (.slice none 0 0)=>(es≠[]->K (.v (.bool false)))/\(es=[]->K (.v (.bool true))/\K (.v (.bool false)))
  |.v (.slice none 0 0),.v (.slice none 0 0)=>K (.v (.bool true))
  |_,_=>False
 |.ptr _=>match x,y with
  |.v (.pointer none),.v (.pointer none)=>K (.v (.bool true))
  |.cptr _,.v (.pointer none)=>K (.v (.bool false))
  |.ref _ _,.v (.pointer none)=>K (.v (.bool false))
  |.eref _ _ _ _ _,.v (.pointer none)=>K (.v (.bool false))
  |_,_=>False
 |_=>False
def jD:AV->Prop
 |.v (.bool true)=>K (.v (.bool false))
 |.v (.bool false)=>K (.v (.bool true))
 |_=>False
def CW(k:IntKind)(a b:Int):Int:=
 match op with
 |.and=>k.wrap (BitVec.ofInt k.bits a &&& BitVec.ofInt k.bits b).toNat
 |.or=>k.wrap (BitVec.ofInt k.bits a |||BitVec.ofInt k.bits b).toNat
 |_=>k.wrap (BitVec.ofInt k.bits a ^^^ BitVec.ofInt k.bits b).toNat
def CZ(k:IntKind)(a b:Int):Int:=
 match op with
 |.shl=>k.wrap (a*2 ^ min b.toNat k.bits)
 |_=>a.fdiv (2 ^ min b.toNat k.bits)
def VT(k:IntKind)(a b:Int)(K:AV->Prop):Prop:=
 match op with
 |.shl=>0<=b/\K (.v (.int k (CZ .shl k a b)))
 |.shr=>0<=b/\K (.v (.int k (CZ .shr k a b)))
 |_=>False
def Yu(k:IntKind)(a b:Int)(K:AV->Prop):Prop:=
 match op with
 |.quo=>(0<=a/\0<b/\k.wrap (a / b)=a / b)/\K (.v (.int k (a / b)))
 |.rem=>(0<=a/\0<b)/\K (.v (.int k (a % b)))
 |.and=>K (.v (.int k (CW .and k a b)))
 |.or=>K (.v (.int k (CW .or k a b)))
 |.xor=>K (.v (.int k (CW .xor k a b)))
 |.add=>K (.v (.int k (k.wrap (a+b))))
 |.sub=>K (.v (.int k (k.wrap (a-b))))
 |.mul=>K (.v (.int k (k.wrap (a*b))))
 |op=>VT op k a b K
def Uj(k:IntKind)(a b:Int)(K:AV->Prop):Prop:=
 match k with
 |.i64=>match op with
  |.add=>AX (a+b)/\K (.v (.int .i64 (a+b)))
  |.sub=>AX (a-b)/\K (.v (.int .i64 (a-b)))
  |.mul=>AX (a*b)/\K (.v (.int .i64 (a*b)))
  |.quo=>(0<=a/\0<b/\AX a)/\K (.v (.int .i64 (a / b)))
  |.rem=>(0<=a/\0<b)/\K (.v (.int .i64 (a % b)))
  |op=>Yu op .i64 a b K
 |k=>Yu op k a b K
def Uo(T:Ha)(op:BinOp)(t:Nat)(x y:AV)(K:AV->Prop):Prop:=
 match x,y with
 |.v (.int k a),.v (.int k' b)=>match xa k k' with
  |false=>VT op k a b K
  |true=>match op with
   |.eql=>JG (a=b) K
   |.neq=>JG (a≠b) K
   |.lss=>JG (a<b) K
   |.leq=>JG (a<=b) K
   |.gtr=>JG (b<a) K
   |.geq=>JG (b<=a) K
   |op=>Uj op k a b K
 |.v (.string a),.v (.string b)=>match op with
   |.eql=>JG (a=b) K
   |.neq=>JG (a≠b) K
   |.lss=>JG (Op.bytesLess a.toList b.toList=true) K
   |.geq=>JG (Op.bytesLess a.toList b.toList=false) K
   |.gtr=>JG (Op.bytesLess b.toList a.toList=true) K
   |.leq=>JG (Op.bytesLess b.toList a.toList=false) K
   |.add=>((a.size+b.size:Nat):Int)<=9223372036854775807/\K (.v (.string (a++b)))
   |_=>False
 |x,y=>match op with
  |.eql=>wN T t x y K
  |.neq=>wN T t x y (jD K)
  |_=>False
def ZV(T:Ha)(op:BinOp)(t:Nat)(Y:Operand)(x y:AV)(K:AV->Prop):Prop:=
 match Y with
 |.const .nilIface=>match x with
  |.v .nilIface=>match(T t).d with
   |.iface=>match op with
    |.eql=>K (.v (.bool true))
    |.neq=>K (.v (.bool false))
    |_=>False
   |_=>False
  |_=>False
 |_=>Uo T op t x y K
def Xq(T:Ha)(s t:Nat)(x:AV)(K:AV->Prop):Prop:=
 match(T s).d,(T t).d,x with
 |.int _,.int .i64,.v (.int _ n)=>AX n/\K (.v (.int .i64 n))
 |.int _,.int k,.v (.int _ n)=>K (.v (.int k (k.wrap n)))
 |.string,.string,.v (.string s)=>K (.v (.string s))
 |.slice e,.string,.slice _ es=>match(T e).d with
  |.int .u8=>∃l:List UInt8,es=l.map (fun b=>[AV.v (.int .u8 b.toNat)])/\K (.v (.string ⟨l.toArray⟩))
  |_=>False
 |_,_,_=>False
def YR(fs:List (Nat×Nat))(n:Nat):Option (Nat×Nat):=
 match fs with
 | []=>none
 |x::r=>match n with |0=>some x |n+1=>YR r n
def UI(T:Ha)(s f:Nat)(x:AV)(K:AV->Prop):Prop:=
 match(T s).d with
 |.struct fs=>match YR fs f with
  |some (t,o)=>match(T t).size with
   |0=>False
   |_+1=>match x with
    |.cptr cs=>K (.cptr (cs.drop o))
    |.ref r off=>K (.ref r (off+o))
    |.eref r n z i off=>K (.eref r n z i (off+o))
    |_=>False
  |none=>False
 |_=>False
def bL(T:Ha)(t:Nat)(cs:List AV)(K:AV->Prop):Prop:=MN T t cs K
def Qf(T:Ha)(s f:Nat)(x:AV)(K:AV->Prop):Prop:=
 match(T s).d,x with
 |.struct fs,.agg cs=>match YR fs f with
  |some (t,o)=>bL T t (cs.drop o) K
  |none=>False
 |_,_=>False
def Kp(T:Ha)(t:Nat)(x ix:AV)(K:AV->Prop):Prop:=
 match(T t).d,ix with
 |.slice e,.v (.int .i64 i)=>match(T e).size with
  |0=>False
  |_+1=>match x with
   |.slice _ es=>∃cs,(0<=i/\es[i.toNat]?=some cs)/\cs.length=(T e).size/\K (.cptr cs)
   |.msl r n=>(0<=i/\i<n)/\K (.eref r n (T e).size i.toNat 0)
   |_=>False
 |.array n e,.v (.int .i64 i)=>match(T e).size with
  |0=>False
  |_+1=>match x with
   |.cptr cs=>(0<=i/\i<n)/\K (.cptr (cs.drop (i.toNat*(T e).size)))
   |.ref r off=>(0<=i/\i<n)/\K (.ref r (off+i.toNat*(T e).size))
   |_=>False
 |_,_=>False
def Va(T:Ha)(t:Nat)(x ix:AV)(K:AV->Prop):Prop:=
 match(T t).d,x,ix with
 |.string,.v (.string s),.v (.int .i64 i)=>∃b:UInt8,(0<=i/\s.data[i.toNat]?=some b)/\K (.v (.int .u8 b.toNat))
 |.array n e,.agg cs,.v (.int .i64 i)=>(0<=i/\i<n)/\bL T e (cs.drop (i.toNat*(T e).size)) K
 |_,_,_=>False
def Co(t:Nat->AV):Option Operand->Option (Option Int)
 |none=>some none
 |some x=>match ev t x with |.v (.int .i64 i)=>some (some i) |_=>none
def over{α:Type}(cs:List α)(o:Nat)(vs:List α):List α:=
 match cs with
 | []=>[]
 |c::cs=>match o with
  |o+1=>c::over cs o vs
  |0=>match vs with
   | []=>c::cs
   |v::vs=>v::over cs 0 vs
structure Gh where
 ρ:Nat->Value
 ln:Nat->Nat
 tk:Nat->Bool
 own:Nat->Option Nat
 S:Nat->Nat->Prop
def J6:List KS->List Value->Bool
 | [],[]=>true
 |k::r,v::s=>match Oy k v with |true=>J6 r s |false=>false
 |_,_=>false
def XX(v:Value):Bool:=
 match sh.agg,v with
 |true,.agg cs=>J6 sh.l cs.toList
 |false,v=>J6 sh.l [v]
 |_,_=>false
def H3(es:Array MapEntry)(ck:Nat)(Cc:List (Value×AV)):Prop:=
 es.size=Cc.length/\(∀(i:Nat) (kv:Value×AV) (e:MapEntry),Cc[i]?=some kv->es[i]?=some e->e.key=kv.1) /\
 (∀kv∈Cc,XX sh kv.1=true)/\(Cc.map (·.1)).Nodup/\(∀(i:Nat) (e:MapEntry),es[i]?=some e->e.born<ck) /\
 ∀(i j:Nat) (e e' : MapEntry),es[i]?=some e->es[j]?=some e'->e.born=e'.born->i=j
inductive BS(g:Gh)(w:World):(Nat->Prop)->AV->Value->Prop
 |v (U:Nat->Prop) (x:Value):BS g w U (.v x) x
 |junk (U:Nat->Prop) (x:Value):BS g w U .junk x
 |snil (U:Nat->Prop) (a:Option Addr) (cap:Nat):BS g w U (.slice .none []) (.slice a 0 cap)
 |slice (U:Nat->Prop) (es:List (List AV)) (b off sz cap:Nat) (val:Nat->Nat->Value) (hc:es.length<=cap)
   (hl:∀(i:Nat) (cs:List AV),es[i]?=some cs->cs.length=sz)
   (DY:∀(i:Nat) (cs:List AV) (j:Nat) (av:AV),es[i]?=some cs->cs[j]?=some av ->
    g.S b (off+i*sz+j)/\w.cell? ⟨b,off+i*sz+j,none⟩=some (val i j)/\(val i j).oneCell'=true)
   (EE:∀(i:Nat) (cs:List AV) (j:Nat) (av:AV),es[i]?=some cs->cs[j]?=some av->BS g w (fun _=>False) av (val i j)) :
   BS g w U (.slice .none es) (.slice (some ⟨b,off,none⟩) es.length cap)
 |tok (U:Nat->Prop) (r sz:Nat) (es:List (List AV)) (x:Value) (h:BS g w U (.slice .none es) x) (hl:∀c∈es,c.length=sz) (hu:U r) (ht:g.tk r=true) (hn:es.length<=g.ln r)
   (hx:es.length=g.ln r->x=g.ρ r):BS g w U (.slice (.id r sz) es) x
 |ver (U:Nat->Prop) (r sz v:Nat) (es:List (List AV)) (x:Value) (h:BS g w U (.slice .none es) x) (hl:∀c∈es,c.length=sz) (hu:U r) (ht:g.tk r=true) (hn:v<=g.ln r)
   (hx:v=g.ln r->x=g.ρ r):BS g w U (.slice (.ver r sz v) es) x
 |full (U:Nat->Prop) (sz:Nat) (es:List (List AV)) (x:Value) (h:BS g w U (.slice .none es) x) (hl:∀c∈es,c.length=sz) (hx:∃a,x=.slice a es.length es.length):BS g w U (.slice (.full sz) es) x
 |msl (U:Nat->Prop) (r n:Nat) (a:Option Addr) (cap:Nat) (hu:U r) (ht:g.tk r=true) (hn:n<=g.ln r) (ha:n=0\/∃b,a=some ⟨b,0,none⟩) (hx:n=g.ln r->.slice a n cap=g.ρ r) :
   BS g w U (.msl r n) (.slice a n cap)
 |agg (U:Nat->Prop) (cs:List AV) (vs:Array Value) (hs:vs.size=cs.length) (h1:∀(i:Nat) (x:Value),vs[i]?=some x->x.oneCell'=true)
   (h:∀(i:Nat) (av:AV) (x:Value),cs[i]?=some av->vs[i]?=some x->BS g w U av x):BS g w U (.agg cs) (.agg vs)
 |tup (U:Nat->Prop) (cs:List AV) (vs:Array Value) (hs:vs.size=cs.length)
   (h:∀(i:Nat) (av:AV) (x:Value),cs[i]?=some av->vs[i]?=some x->BS g w U av x):BS g w U (.tup cs) (.tuple vs)
 |cptr (U:Nat->Prop) (cs:List AV) (b off:Nat) (val:Nat->Value)
   (DY:∀(j:Nat) (av:AV),cs[j]?=some av->g.S b (off+j)/\w.cell? ⟨b,off+j,none⟩=some (val j)/\(val j).oneCell'=true)
   (EE:∀(j:Nat) (av:AV),cs[j]?=some av->BS g w (fun _=>False) av (val j)) :
   BS g w U (.cptr cs) (.pointer (some ⟨b,off,none⟩))
 |ref (U:Nat->Prop) (r off b:Nat) (hu:U r) (ht:g.tk r=false) (hx:g.ρ r=.pointer (some ⟨b,0,none⟩)):BS g w U (.ref r off) (.pointer (some ⟨b,off,none⟩))
 |eref (U:Nat->Prop) (r n sz i off b cap:Nat) (hu:U r) (ht:g.tk r=true) (hn:i<n/\n<=g.ln r) (hx:n=g.ln r->g.ρ r=.slice (some ⟨b,0,none⟩) n cap) :
   BS g w U (.eref r n sz i off) (.pointer (some ⟨b,i*sz+off,none⟩))
 |mref (U:Nat->Prop) (r b:Nat) (hu:U r) (ht:g.tk r=false) (hx:g.ρ r=.map (some b)):BS g w U (.mref r) (.map (some b))
 |cmap (U:Nat->Prop) (sh:Fg) (Cc:List (Value×AV)) (b:Nat) (es:Array MapEntry) (ck:Nat) (hS:g.S b 0) (hb:w.heap[b]?=some (.map es ck)) (hm:H3 sh es ck Cc)
   (h:∀(i:Nat) (kv:Value×AV) (e:MapEntry),Cc[i]?=some kv->es[i]?=some e->BS g w (fun _=>False) kv.2 e.val):BS g w U (.cmap sh Cc) (.map (some b))
 |clo (U:Nat->Prop) (f:Nat) (cs:List AV) (vs:Array Value) (hs:vs.size=cs.length)
   (h:∀(i:Nat) (av:AV) (x:Value),cs[i]?=some av->vs[i]?=some x->BS g w U av x):BS g w U (.clo f cs) (.func (.func f) #[] vs)
def HO.live:HO->Prop
 |.free |.dead |.vox _ |.ro _ |.rom _ _=>False
 |_=>True
def AQ(h:Nat->HO)(r:Nat):Prop:=h r≠.free
def FK:Nat->Prop:=fun _=>False
def CY(g:Gh)(w:World)(U:Nat->Prop)(cs:List AV)(vs:List Value):Prop:=
 vs.length=cs.length/\(∀x∈vs,x.oneCell'=true)/\∀(i:Nat) (av:AV) (x:Value),cs[i]?=some av->vs[i]?=some x->BS g w U av x
def PN:List Nat->Code->Bool
 |bs,.block id c=>PN (id::bs) c
 |bs,.seq a b=>PN bs a||PN bs b
 |bs,.cond _ a b=>PN bs a||PN bs b
 |bs,.loop c=>PN bs c
 |bs,.exit id=>!(bs.any fun i=>Nat.beq i id)
 |_,_=>false
def xt:Obj->Bool
 |.loop r=>PN [] r.body
 |_=>false
def Sv(w:World)(b:Nat)(vs:Array Value)(E:TypeId):Prop:=∃f:Nat×Nat,w.heap[b]?=some (.cells vs E f)/\(f=(0,0)\/vs.size<=f.1)
theorem Sv.eq{w w' : World}{b:Nat}(h:Sv w b vs E)(e:w'.heap[b]?=w.heap[b]?):Sv w' b vs E:=by
 obtain⟨f,h1,h2⟩:=h;exact⟨f,e.trans h1,h2⟩
theorem Sv.of{w:World}{b:Nat}(h:w.heap[b]?=some (.cells vs E (0,0))):Sv w b vs E:=⟨_,h,.inl rfl⟩
def EC(g:Gh)(w:World)(U:Nat->Prop)(r:Nat):HO->Prop
  |.free |.dead=>True
  |.cells cs=>g.tk r=false/\∃b E vs,g.own r=some b/\g.ρ r=.pointer (some ⟨b,0,none⟩)/\w.heap[b]?=some (.cells vs E (0,0))/\CY g w U cs vs.toList/\∀o,¬g.S b o
  |.ro cs=>g.tk r=false/\∃b,g.ρ r=.pointer (some ⟨b,0,none⟩)/\BS g w FK (.cptr cs) (.pointer (some ⟨b,0,none⟩))
  |.tok sz n=>g.tk r=true/\g.ln r=n/\∃a cap,g.ρ r=.slice a n cap/\(n=cap/\g.own r=none \/
      n<=cap/\∃b E vs off,a=some ⟨b,off,none⟩/\g.own r=some b/\Sv w b vs E/\vs.size=off+cap*sz/\∀o,g.S b o->o<off+n*sz)
  |.var sz v n=>g.tk r=true/\g.ln r=v/\∃a cap,g.ρ r=.slice a n cap/\(n=cap/\g.own r=none \/
      n<=cap/\∃b E vs off,a=some ⟨b,off,none⟩/\g.own r=some b/\Sv w b vs E/\vs.size=off+cap*sz/\∀o,g.S b o->o<off+n*sz)
  |.vox v=>g.tk r=true/\g.ln r=v
  |.arr sz es=>g.tk r=true/\g.ln r=es.length/\(∀cs∈es,cs.length=sz)/\(es=[]/\g.ρ r=.slice none 0 0/\g.own r=none \/
      ∃b cap E vs,g.ρ r=.slice (some ⟨b,0,none⟩) es.length cap/\g.own r=some b/\es.length<=cap/\w.heap[b]?=some (.cells vs E (0,0))/\vs.size=cap*sz /\
        CY g w FK es.flatten (vs.toList.take (es.length*sz))/\∀o,¬g.S b o)
  |.map sh Cc=>g.tk r=false/\∃b es ck,g.own r=some b/\g.ρ r=.map (some b)/\w.heap[b]?=some (.map es ck)/\H3 sh es ck Cc /\
      (∀(i:Nat) (kv:Value×AV) (e:MapEntry),Cc[i]?=some kv->es[i]?=some e->BS g w FK kv.2 e.val)/\∀o,¬g.S b o
  |.mapU sh Cc=>g.tk r=false/\∃b es ck,g.own r=some b/\g.ρ r=.map (some b)/\w.heap[b]?=some (.map es ck)/\H3 sh es ck Cc /\
      (∀(i:Nat) (kv:Value×AV) (e:MapEntry),Cc[i]?=some kv->es[i]?=some e->BS g w U kv.2 e.val)/\∀o,¬g.S b o
  |.rom sh Cc=>g.tk r=false/\∃b,g.ρ r=.map (some b)/\BS g w FK (.cmap sh Cc) (.map (some b))
  |.iter all rem EN=>g.tk r=false/\∃b mb K7 seen st es ck,g.own r=some b/\g.ρ r=.pointer (some ⟨b,0,none⟩)/\w.heap[b]?=some (.mapIter (some mb) K7 seen st) /\
      g.S mb 0/\w.heap[mb]?=some (.map es ck)/\(∃sh,H3 sh es ck all)/\K7=ck/\st=ck /\
      (∀(i:Nat) (kv:Value×AV) (e:MapEntry),all[i]?=some kv->es[i]?=some e->BS g w FK kv.2 e.val) /\
      (rem.Nodup/\∀kv∈rem,kv∈all)/\(∀(i:Nat) (kv:Value×AV) (e:MapEntry),all[i]?=some kv->es[i]?=some e->(kv∈rem↔e.born∉seen)) /\
      (match EN with | none=>True | some kv=>∃(i:Nat) (e:MapEntry),all[i]?=some kv/\es[i]?=some e/\seen.back?=some e.born)/\∀o,¬g.S b o
  |.hol sz es i c a=>g.tk r=true/\g.ln r=es.length/\(∀cs∈es,cs.length=sz)/\∃b cap E vs,g.ρ r=.slice (some ⟨b,0,none⟩) es.length cap/\g.own r=some b/\es.length<=cap/\w.heap[b]?=some (.cells vs E (0,0))/\vs.size=cap*sz /\
        CY g w FK es.flatten (vs.toList.take (es.length*sz))/\(∀o,¬g.S b o)/\i*sz+c<es.length*sz/\∃x,vs[i*sz+c]?=some x/\BS g w U a x
  |.raw b ob=>g.tk r=false/\g.own r=some b/\w.heap[b]?=some ob/\xt ob=true/\∀o,¬g.S b o
def gB:Nat:=0
def me:List (Nat×Nat×Option Value):=(1,20,none)::(List.range 20).map fun i=>(1,i,some (.int .u64 ((10 ^ i:Nat):Int)))
def Yj(g:Gh)(w:World):Prop:=(g.S gB 0/\∃m,w.cell? ⟨gB,0,none⟩=some (.int .i64 m))/\∀x∈me,g.S x.1 x.2.1/\w.cell? ⟨x.1,x.2.1,none⟩=x.2.2
structure D7(w0:World)(g0:Gh)(h0:Nat->HO)(h:Nat->HO)(g:Gh)(w:World):Prop where
 os:w.os=w0.os
 tape:w.tape=w0.tape
 output:w.output=w0.output
 size:w0.heap.size<=w.heap.size
 frame:∀b,b<w0.heap.size->(∀r,(h0 r).live->g0.own r≠some b)->w.heap[b]?=w0.heap[b]?
 slt:∀b o,g.S b o->b<w.heap.size
 objs:∀r,EC g w (AQ h) r (h r)
 inj:∀r r' b,(h r).live->(h r').live->g.own r=some b->g.own r'=some b->r=r'
 loc:∀r b,(h r).live->g.own r=some b->b<w.heap.size/\(w0.heap.size<=b\/∃r',(h0 r').live/\g0.own r'=some b)
 sg:∀b o,g.S b o->g0.S b o\/w0.heap.size<=b\/∃r',(h0 r').live/\g0.own r'=some b
 glob:Yj g w
def ET(g:Gh)(w:World)(g' : Gh)(w' : World):Prop:=
 ∀b o,g.S b o->g'.S b o/\w'.cell? ⟨b,o,none⟩=w.cell? ⟨b,o,none⟩/\∀es ck,w.heap[b]?=some (.map es ck)->w'.heap[b]?=some (.map es ck)
def K9(g g' : Gh)(U:Nat->Prop):Prop:=
 ∀i,U i->g'.tk i=g.tk i/\g.ln i<=g'.ln i/\(g.tk i=false->g'.ρ i=g.ρ i)/\(g'.ln i=g.ln i->g'.ρ i=g.ρ i)
structure Le(h:Nat->HO)(g:Gh)(w:World)(h' : Nat->HO)(g' : Gh)(w' : World):Prop where
 gh:K9 g g' (AQ h)
 us:∀i,AQ h i->AQ h' i
 keeps:ET g w g' w'
def F6 (P : Program) (f : Nat) : Prop := ∃ fn, P.funcs[f]? = some fn /\ (fn.name == "runtime.NumGoroutine") = false /\ fn.body.isNone = false
def Ba(P:Program)(f:Nat)(args:List AV)(h0:Nat->HO)(Q:AV->(Nat->HO)->Prop):Prop:=
 F6 P f/\∀(g:Gh) (w:World) (vals:Array Value),vals.size=args.length->(∀(i:Nat) (av:AV) (x:Value),args[i]?=some av->vals[i]?=some x->BS g w (AQ h0) av x) ->
  D7 w g h0 h0 g w ->
  Calls P f vals w fun e w'=>∃v r h' g',e=.returned v/\Q r h'/\BS g' w' (AQ h') r v/\D7 w g h0 h' g' w'/\Le h0 g w h' g' w'
def Jd(P:Program)(f:Nat)(args:List AV)(res:AV):Prop:=Ba P f args Ae fun r h'=>r=res/\h'=Ae
def JF(P:Program)(Y:Gh->World->Prop)(l:Nat)(args:List AV)(h0:Nat->HO)(Q:AV->(Nat->HO)->Prop):Prop:=
 ∀(g:Gh) (w:World) (vals:Array Value),vals.size=args.length->(∀(i:Nat) (av:AV) (x:Value),args[i]?=some av->vals[i]?=some x->BS g w (AQ h0) av x) ->
  D7 w g h0 h0 g w->Y g w ->
  YieldAt Fence.wide 0 P l vals w fun e w'=>∃v r h' g',e=.returned v/\Q r h'/\BS g' w' (AQ h') r v/\D7 w g h0 h' g' w'/\Le h0 g w h' g' w'
def tp(P:Program)(Y:Gh->World->Prop)(f:Nat)(args:List AV)(h0:Nat->HO)(Q:AV->(Nat->HO)->Prop):Prop:=
 F6 P f/\∀(g:Gh) (w:World) (vals:Array Value),vals.size=args.length->(∀(i:Nat) (av:AV) (x:Value),args[i]?=some av->vals[i]?=some x->BS g w (AQ h0) av x) ->
  D7 w g h0 h0 g w->Y g w ->
  Calls P f vals w fun e w'=>∃v r h' g',e=.returned v/\Q r h'/\BS g' w' (AQ h') r v/\D7 w g h0 h' g' w'/\Le h0 g w h' g' w'
def GI(P:Program)(Y:Nat->Gh->World->Prop)(F:AV)(args:List AV)(h:Nat->HO)(Q:AV->(Nat->HO)->Prop):Prop:=
 match F with
 |.v (.func (.func f) ⟨[]⟩ ⟨[]⟩)=>Ba P f args h Q
 |.clo f caps=>Ba P f (args++caps) h Q
 |.v (.func (.yield l) ⟨[]⟩ ⟨[]⟩)=>JF P (Y l) l args h Q
 |_=>False
def Rk(P:Program)(F:AV)(args:List AV)(res:AV):Prop:=
 match F with
 |.v (.func (.func f) ⟨[]⟩ ⟨[]⟩)=>Jd P f args res
 |.clo f caps=>Jd P f (args++caps) res
 |_=>False
structure Cx where
 P:Program
 T:Ha
 pl:Tn
 ext:Bool
 nid:Nat
 yp:Nat->List (Nat×Nat)->Gh->World->Prop
variable (cx:Cx)
def KJ(d:Nat):Nat:=bif JA cx.pl.dyn d then cx.nid else d
abbrev HK:=AV->(Nat->HO)->Prop
def Uh(T:Ha)(d:Option Nat)(h:Nat->HO)(e:Nat)(K:HK):Prop:=
 match d with
 |none=>False
 |some d=>match h d with
  |.free=>match(T e).d with
   |.other=>False
   |_=>match Hp ((T e).zc.map .v)with
    |true=>K (.ref d 0) (A1 h d (.cells ((T e).zc.map .v)))
    |false=>False
  |_=>False
def HQ(n:Nat)(a:AV)(K:List AV->Prop):Prop:=
 match a with
 |.agg cs=>match Nat.beq cs.length n with
  |true=>K cs
  |false=>False
 |a=>match one a with
  |true=>match n with
   |1=>K [a]
   |_=>False
  |false=>False
def iw(d:Option Nat)(h:Nat->HO)(e:Nat)(x:AV)(K:HK):Prop:=
 match d with
 |none=>False
 |some d=>match h d with
  |.free=>match(cx.T e).d with
   |.other=>False
   |_=>HQ (cx.T e).size x fun cs=>match JA cx.pl.frz d with
    |true=>K (.ref d 0) (A1 h d (.ro (cs.map (str h))))
    |false=>K (.ref d 0) (A1 h d (.cells cs))
  |_=>False
def Pr(h:Nat->HO)(t:Nat)(p x:AV)(K:HK):Prop:=
 match(cx.T t).d with
 |.other=>False
 |_=>HQ (cx.T t).size x fun vs=>match p with
  |.ref r off=>match h r with
   |.cells cs=>off+vs.length<=cs.length/\(match JA cx.pl.frz r with
    |true=>K (.v undef) (A1 h r (.ro ((over cs off vs).map (str h))))
    |false=>K (.v undef) (A1 h r (.cells (over cs off vs))))
   |_=>False
  |.eref r n sz i off=>match h r with
   |.arr Hb es=>match Nat.beq sz Hb with
    |true=>n=es.length/\∃cs,es[i]?=some cs/\off+vs.length<=sz/\(match vs with
     | [.msl j m]=>K (.v undef) (A1 h r (.hol sz (es.set i (over cs off [.junk])) i off (.msl j m)))
     |_=>K (.v undef) (A1 h r (.arr sz (es.set i (over cs off (vs.map (str h)))))))
    |false=>False
   |_=>False
  |_=>False
def IZ(T:Ha)(h:Nat->HO)(t:Nat)(p:AV)(K:AV->Prop):Prop:=
 match p with
 |.cptr cs=>MN T t cs K
 |.ref r off=>match h r with
  |.cells cs=>MN T t (cs.drop off) K
  |.ro cs=>MN T t (cs.drop off) K
  |_=>False
 |.eref r n sz i off=>match h r with
  |.arr Hb es=>match Nat.beq sz Hb with
   |true=>n=es.length/\∃cs,es[i]?=some cs/\MN T t (cs.drop off) K
   |false=>False
  |.hol Hb es i' c a=>match Nat.beq sz Hb with
   |true=>(n=es.length/\i=i'/\off=c)/\MN T t [a] K
   |false=>False
  |_=>False
 |_=>False
def LJ(pl:Nat->Option (Nat×Nat))(cs:List AV)(t:Nat->AV)(ps:List (Nat×Operand))(K:List AV->Prop):Prop:=
 match ps with
 | []=>K cs
 |(i,x)::r=>match pl i with
  |none=>False
  |some (o,n)=>HQ n (ev t x) fun vs=>match Nat.ble (o+n) cs.length with
   |true=>LJ pl (over cs o vs) t r K
   |false=>False
def PI(T:Ha):List (Nat×Nat)->Bool
 | []=>true
 |(t,_)::r=>match(T t).size with |0=>false |_+1=>PI T r
def Rs(T:Ha)(ty:Nat)(t:Nat->AV)(ps:List (Nat×Operand))(K:AV->Prop):Prop:=
 match Hp ((T ty).zc.map .v)with
 |false=>False
 |true=>match(T ty).d with
  |.struct fs=>match PI T fs with
   |false=>False
   |true=>LJ (fun i=>match YR fs i with |some (t,o)=>some (o,(T t).size) |none=>none) ((T ty).zc.map .v) t ps fun cs=>K (.agg cs)
  |.array _ e=>match(T e).size with
   |0=>False
   |_+1=>LJ (fun i=>some (i*(T e).size,(T e).size)) ((T ty).zc.map .v) t ps fun cs=>K (.agg cs)
  |_=>False
def SE(n sz:Nat)(h:Nat->HO)(es:List (List AV))(t:Nat->AV)(ps:List (Nat×Operand))(K:List (List AV)->Prop):Prop:=
 match ps with
 | []=>K es
 |(i,x)::r=>match Nat.blt i n with
  |true=>HQ sz (ev t x) fun vs=>SE n sz h (es.set i (vs.map (str h))) t r K
  |false=>False
abbrev L8(b:ByteArray):List (List AV):=b.data.toList.map fun c=>[AV.v (.int .u8 c.toNat)]
def da(d:Option Nat)(h:Nat->HO)(s t:Nat)(x:AV)(K:HK):Prop:=
 match(cx.T s).d,(cx.T t).d,x with
 |.string,.slice e,.v (.string b)=>match(cx.T e).d,d with
  |.int .u8,some d=>match h (KJ cx d)with
   |.free=>K (.slice (.id (KJ cx d) 1) (L8 b)) (A1 h (KJ cx d) (.tok 1 (L8 b).length))
   |_=>False
  |_,_=>False
 |_,_,_=>Xq cx.T s t x fun v=>K v h
def E7(d:Option Nat)(h:Nat->HO)(sz:Nat)(es:List (List AV))(K:HK):Prop:=
 match d with
 |none=>False
 |some d=>match h (KJ cx d)with
  |.free=>match Hl cx.pl.arr d with
   |some _=>K (.msl (KJ cx d) es.length) (A1 h (KJ cx d) (.arr sz es))
   |none=>K (.slice (.id (KJ cx d) sz) es) (A1 h (KJ cx d) (.tok sz es.length))
  |_=>False
def Jg(d:Option Nat)(h:Nat->HO)(ty n:Nat)(t:Nat->AV)(ps:List (Nat×Operand))(K:HK):Prop:=
 match(cx.T ty).d with
 |.slice e=>match Hp ((cx.T e).zc.map .v),Nat.beq (cx.T e).zc.length (cx.T e).size with
  |true,true=>match(cx.T e).size with
   |0=>False
   |_+1=>match Nat.ble (n*(cx.T e).size) 16777216 with
    |true=>SE n (cx.T e).size h (List.replicate n ((cx.T e).zc.map .v)) t ps fun es=>E7 cx d h (cx.T e).size es K
    |false=>False
  |_,_=>False
 |_=>False
def LO(t:Nat->AV)(h:Nat->HO)(fn:Fn)(first captured:List Operand)(K:AV->Prop):Prop:=
 match fn,first with
 |.func f,[]=>K (.clo f (captured.map fun x=>rsv h (ev t x)))
 |_,_=>False
def B5(sz:Nat):List (List AV)->Prop
 | []=>True
 |c::r=>c.length=sz/\B5 sz r
def Mi(h:Nat->HO)(x:AV)(K:List (List AV)->Prop):Prop:=
 match x with
 |.slice _ es=>K es
 |.v (.slice none 0 0)=>K []
 |.msl r n=>match h r with
  |.arr _ es=>n=es.length/\K es
  |_=>False
 |_=>False
def I6(d:Option Nat)(h:Nat->HO)(ty:Nat)(s x:AV)(K:HK):Prop:=
 match(cx.T ty).d with
 |.slice e=>match Nat.beq (cx.T e).zc.length (cx.T e).size with
  |false=>False
  |true=>match(cx.T e).size with
   |0=>False
   |_+1=>Mi h x fun es2=>match s with
    |.v (.slice none 0 0)=>(B5 (cx.T e).size es2/\es2.length*(cx.T e).bytes<=140737488355328/\es2.length<=9223372036854775807)/\E7 cx d h (cx.T e).size es2 K
    |.slice (.full Hb) es=>match Nat.beq Hb (cx.T e).size with
     |true=>(B5 (cx.T e).size es2/\0<es2.length/\(es.length+es2.length)*(cx.T e).bytes<=140737488355328/\es.length+es2.length<=9223372036854775807)/\E7 cx d h (cx.T e).size (es++es2) K
     |false=>False
    |.slice (.id r Hb) es=>match h r with
     |.tok sz n=>match Nat.beq sz (cx.T e).size,Nat.beq Hb sz with
      |true,true=>(B5 sz es2/\es.length=n/\(es.length+es2.length)*(cx.T e).bytes<=140737488355328/\es.length+es2.length<=9223372036854775807) /\
        K (.slice (.id r sz) (es++es2)) (A1 h r (.tok sz (es.length+es2.length)))
      |_,_=>False
     |_=>False
    |.msl r n=>match h r with
     |.arr sz es=>match Nat.beq sz (cx.T e).size with
      |true=>(B5 sz es2/\es.length=n/\(es.length+es2.length)*(cx.T e).bytes<=140737488355328/\es.length+es2.length<=9223372036854775807) /\
        K (.msl r (es.length+es2.length)) (A1 h r (.arr sz (es++es2)))
      |false=>False
     |_=>False
    |_=>False
 |_=>False
abbrev JR:=List (Nat×Nat)
variable (σ:JR)
inductive xe | pure | rel | gen (σ:JR) (nn:Nat) | geny (σ:JR) (nn:Nat)
def CF(σ:JR)(n:Nat):Option Nat:=
 match σ with
 | []=>none
 |(i,j)::r=>bif Nat.beq i n then some j else CF r n
def IE(σ:JR)(n:Nat):Option Nat:=
 match σ with
 | []=>none
 |(i,j)::r=>bif Nat.beq j n then some i else IE r n
def EO:JR->Bool
 | []=>true
 |(i,j)::r=>(match CF r i,IE r j with |none,none=>true |_,_=>false)&&Nat.ble 1000 j&&Nat.blt j 2000&&EO r
def Ht:JR->Bool
 | []=>true
 |(i,j)::r=>(match CF r i,IE r j with |none,none=>true |_,_=>false)&&Ht r
def ren0(h:Nat->HO):AV->AV
 |.slice (.id r sz) es=>match f r with |some r'=>.slice (.id r' sz) es |none=>.slice .none es
 |.slice (.ver r sz v) es=>match f r with |some r'=>.slice (.ver r' sz v) es |none=>.slice .none es
 |.msl r n=>match f r with |some r'=>.msl r' n |none=>.junk
 |.ref r off=>match f r with |some r'=>.ref r' off |none=>str0 h (.ref r off)
 |.eref r n sz i off=>match f r with |some r'=>.eref r' n sz i off |none=>.junk
 |.mref r=>match f r with |some r'=>.mref r' |none=>str0 h (.mref r)
 |a=>str0 h a
def ren1(h:Nat->HO):AV->AV
 |.agg cs=>.agg (cs.map (ren0 f h))
 |.clo g cs=>.clo g (cs.map (ren0 f h))
 |a=>ren0 f h a
def ren(h:Nat->HO):AV->AV
 |.tup cs=>.tup (cs.map (ren1 f h))
 |a=>ren1 f h a
def HO.ren(h:Nat->HO):HO->HO
 |.cells cs=>.cells (cs.map (ren1 f h))
 |.mapU sh Cc=>.mapU sh (Cc.map fun p=>(p.1,ren1 f h p.2))
 |.hol sz es i c a=>.hol sz es i c (ren1 f h a)
 |o=>o
def Ap(l:List (Nat×HO))(hb:Nat->HO)(i:Nat):HO:=match l with | []=>hb i | (j,v)::r=>bif Nat.beq i j then v else Ap r hb i
def Zj(f:Nat->Option Nat)(h:Nat->HO):JR->List (Nat×HO)
 | []=>[]
 |(i,j)::r=>(j,(h i).ren f h)::Zj f h r
def F4(h:Nat->HO):Nat->HO:=Ap (Zj (CF σ) h σ) Ae
def BF(d k:Nat):Nat:=10000+100*d+k
def FF(d nn:Nat)(j:Nat):Option Nat:=
 match IE σ j with
 |some i=>some i
 |none=>match Nat.ble 2000 j&&Nat.blt j (2000+nn)with |true=>some (BF d (j-2000)) |false=>none
def EA(d nn:Nat)(h h' : Nat->HO):Nat->HO:=fun i=>
 match CF σ i with
 |some j=>(h' j).ren (FF σ d nn) h'
 |none=>match Nat.ble (BF d 0) i&&Nat.blt i (BF d nn)with |true=>(h' (2000+(i-BF d 0))).ren (FF σ d nn) h' |false=>h i
def D4(h:Nat->HO)(d:Nat):Nat->Bool
 |0=>true
 |k+1=>(match h (BF d k)with |.free=>true |_=>false)&&D4 h d k
def DI(σ:JR)(d nn:Nat):Bool:=
 match σ with
 | []=>true
 |(i,_)::r=>!(Nat.ble (BF d 0) i&&Nat.blt i (BF d nn))&&DI r d nn
def OQ(l:List (Nat×Nat))(d:Option Nat):Option Nat:=match d with | none=>none | some d=>Hl l d
def gp:AV->Bool | .tup _=>false | _=>true
def Vw:List AV->Bool
 | []=>true
 |a::r=>match gp a with |true=>Vw r |false=>false
def Yb:List AV->Option (List Value)
 | []=>some []
 |.v x::r=>match Yb r with |some l=>some (x::l) |none=>none
 |_=>none
def Tj(k:Nat)(d:Option Nat)(h:Nat->HO)(F:AV)(args:List AV)(K:HK):Prop:=
 match d,F,args with
 |some d,.v (.func (.func f) ⟨[]⟩ ⟨[]⟩),.msl r n::l=>match Yb l with
  |some vs=>match h r with
   |.arr sz es=>match k with
    |0=>∃n' F5,Ba cx.P f (.msl 1000 n::vs.map .v) (Ap [(1000,.arr sz es)] Ae) (fun r' h'=>r'=.msl 1000 n'/\h'=Ap [(1000,.arr sz F5)] Ae)/\K (.msl r n') (A1 h r (.arr sz F5))
    |_+1=>∃n' F5,(D4 h d 1&&Nat.blt r 10000000&&!Nat.beq r (BF d 0))=true/\Ba cx.P f (.msl 1000 n::vs.map .v) (Ap [(1000,.arr sz es)] Ae) (fun r' h'=>r'=.msl 2000 n'/\h'=Ap [(1000,.dead),(2000,.arr sz F5)] Ae) /\
      K (.msl (BF d 0) n') (A1 (A1 h r .dead) (BF d 0) (.arr sz F5))
   |_=>False
  |none=>False
 |_,_,_=>False
def Wc(d:Option Nat)(st:St)(F:AV)(args:List AV)(K:HK):Prop:=
 match d with
 |none=>False
 |some d=>∃sz es,(D4 st.h d 1&&gp F&&Vw args)=true/\GI cx.P (fun l=>cx.yp l []) (str st.h F) (args.map (str st.h)) Ae (fun r h'=>r=.slice (.id 2000 sz) es/\h'=Ap [(2000,.tok sz es.length)] Ae) /\
   K (.slice (.id (BF d 0) sz) es) (A1 st.h (BF d 0) (.tok sz es.length))
def Sp(d:Option Nat)(st:St)(F:AV)(args:List AV)(K:HK):Prop:=
  match d,F,Yb args with
  |some _,.v (.func (.yield l) ⟨[]⟩ ⟨[]⟩),some vs=>match st.h 1000,st.h 1001 with
    |.cells [.slice (.id r sz) es],.tok gN n=>(r=1001/\gN=sz)/\∃v F5 n',JF cx.P (cx.yp l [(1000,1000),(1001,1001)]) l (vs.map .v) (Ap [(1000,.cells [.slice (.id 1001 sz) es]),(1001,.tok sz n)] Ae)
          (fun r h'=>r=.v v/\h'=Ap [(1000,.cells [.slice (.id 1001 sz) F5]),(1001,.tok sz n')] Ae) /\
        K (.v v) (A1 (A1 st.h 1001 (.tok sz n')) 1000 (.cells [.slice (.id 1001 sz) F5]))
    |_,_=>False
  |_,_,_=>False
def qq:List Nat:=[1000,1001,1002,1003,1004,1005,1006,1007,10900,5]
def aM(d:Option Nat)(st:St)(F:AV)(args:List AV)(K:HK):Prop:=
 match d,F with
 |some d,.v (.func (.func f) ⟨[]⟩ ⟨[]⟩)=>∃(σ:JR) (H0 Hn:List (Nat×HO)) (args' : List AV) (res:AV),
   (∀h2:Nat->HO,(∀r∈qq,h2 r=st.h r)->F4 σ h2=Ap H0 Ae/\args.map (ren (CF σ) h2)=args')/\(EO σ&&DI σ d 0&&σ.all fun p=>JA qq p.1)=true /\
   Ba cx.P f args' (Ap H0 Ae) (fun r h'=>r=res/\h'=Ap Hn Ae)/\K (ren (FF σ d 0) (Ap Hn Ae) res) (EA σ d 0 st.h (Ap Hn Ae))
 |_,_=>False
def QU(k:Nat)(d:Option Nat)(st:St)(F:AV)(args:List AV)(K:HK):Prop:=
 match Nat.beq k 4 with
 |true=>aM cx d st F args K
 |false=>Tj cx k d st.h F args K
def GW(dr:Bool)(d:Option Nat)(st:St)(F:AV)(args:List AV)(K:HK):Prop:=
 match dr with
 |true=>match OQ cx.pl.dc d with
  |none=>∃res,Rk cx.P (str st.h F) (args.map (str st.h)) res/\K res st.h
  |some 0=>match d with
   |none=>False
   |some d=>∃n sz es,(D4 st.h d 1&&gp F&&Vw args)=true/\GI cx.P (fun l=>cx.yp l []) (str st.h F) (args.map (str st.h)) Ae (fun r h'=>r=.msl 2000 n/\h'=Ap [(2000,.arr sz es)] Ae) /\
     K (.msl (BF d 0) n) (A1 st.h (BF d 0) (.arr sz es))
  |some (k+1)=>match Nat.beq k 2 with
   |true=>Wc cx d st F args K
   |false=>match Nat.beq k 3 with
    |true=>Sp cx d st F args K
    |false=>QU cx k d st F args K
 |false=>∃m:xe,match m with
  |.pure=>∃res,Rk cx.P (str st.h F) (args.map (str st.h)) res/\K res st.h
  |.rel=>GI cx.P (fun _ _ _=>True) (str st.h F) (args.map (str st.h)) Ae fun r h'=>h'=Ae/\K r st.h
  |.gen σ nn=>match d with
   |none=>False
   |some d=>(EO σ&&D4 st.h d nn&&DI σ d nn)=true /\
     GI cx.P (fun l=>cx.yp l σ) (ren (CF σ) st.h F) (args.map (ren (CF σ) st.h)) (F4 σ st.h) fun r h'=>K (ren (FF σ d nn) h' r) (EA σ d nn st.h h')
  |.geny σ nn=>match d with
   |none=>False
   |some d=>(EO σ&&D4 st.h d nn&&DI σ d nn)=true /\
     match ren (CF σ) st.h F with
     |.clo f caps=>tp cx.P (fun g w=>∀l,cx.yp l σ g w) f (args.map (ren (CF σ) st.h)++caps) (F4 σ st.h) fun r h'=>K (ren (FF σ d nn) h' r) (EA σ d nn st.h h')
     |_=>False
def Zu:List AV->Option (List Value)
 | []=>some []
 |.v x::r=>match Zu r with |some l=>some (x::l) |none=>none
 |_=>none
def uZ:AV->Option Value
 |.v x=>some x
 |.agg cs=>match Zu cs with |some l=>some (.agg l.toArray) |none=>none
 |_=>none
def II(T:Ha)(t:Nat):Option Fg:=
 match(T t).d with
 |.struct _=>match Iu T 8 t with |some l=>some ⟨true,l⟩ |none=>none
 |_=>match Iu T 1 t with |some l=>some ⟨false,l⟩ |none=>none
def qO:KS->KS->Bool
 |.int k,.int k'=>xa k k'
 |.str,.str=>true
 |.bool,.bool=>true
 |_,_=>false
def Vh:List KS->List KS->Bool
 | [],[]=>true
 |a::r,b::s=>match qO a b with |true=>Vh r s |false=>false
 |_,_=>false
def vL(a b:Fg):Bool:=
 match a.agg,b.agg with
 |true,true=>Vh a.l b.l
 |false,false=>Vh a.l b.l
 |_,_=>false
def Lj(T:Ha)(ty:Nat)(sh:Fg)(k:AV)(K:Value->Prop):Prop:=
 match(T ty).d with
 |.map kt _=>match II T kt with
  |some sh'=>match vL sh sh' with
   |true=>match uZ k with
    |some kx=>match XX sh kx with
     |true=>K kx
     |false=>False
    |none=>False
   |false=>False
  |none=>False
 |_=>False
open Classical in
noncomputable def Fa(Cc:List (Value×AV))(k:Value)(a:AV):List (Value×AV):=
 if ∃a',(k,a')∈Cc then Cc.map fun p=>if p.1=k then(k,a)else p else Cc++[(k,a)]
def LP(T:Ha)(mku:List Nat)(d:Option Nat)(h:Nat->HO)(ty:Nat)(K:HK):Prop:=
 match d with
 |none=>False
 |some d=>match h d with
  |.free=>match(T ty).d with
   |.map kt _=>match II T kt with
    |some sh=>match JA mku d with
     |true=>K (.mref d) (A1 h d (.mapU sh []))
     |false=>K (.mref d) (A1 h d (.map sh []))
    |none=>False
   |_=>False
  |_=>False
def HW(T:Ha)(h:Nat->HO)(ty:Nat)(m k x:AV)(K:HK):Prop:=
 match m with
 |.mref r=>match h r with
  |.map sh Cc=>Lj T ty sh k fun kx=>K (.v undef) (A1 h r (.map sh (Fa Cc kx (str h x))))
  |.mapU sh Cc=>Lj T ty sh k fun kx=>K (.v undef) (A1 h r (.mapU sh (Fa Cc kx x)))
  |_=>False
 |_=>False
def Ls(T:Ha)(t:Nat)(K:AV->Prop):Prop:=
 match(T t).d with
 |.other=>False
 |_=>match(T t).zero with
  |.agg cs=>match Hp (cs.toList.map .v)with |true=>K (.agg (cs.toList.map .v)) |false=>False
  |z=>K (.v z)
def Ni(T:Ha)(ty:Nat)(ok:Bool)(Cc:List (Value×AV))(kx:Value)(K:AV->Prop):Prop:=
 match(T ty).d with
 |.map _ e=>match ok with
  |true=>(∀a,(kx,a)∈Cc->K (.tup [a,.v (.bool true)]))/\((∀a,(kx,a)∉Cc)->Ls T e fun z=>K (.tup [z,.v (.bool false)]))
  |false=>(∀a,(kx,a)∈Cc->K a)/\((∀a,(kx,a)∉Cc)->Ls T e K)
 |_=>False
def Nh(T:Ha)(ty:Nat)(ok:Bool)(Cc:List (Value×AV))(kx:Value)(K:AV->Prop):Prop:=
 match(T ty).d with
 |.map _ e=>match ok with
  |true=>(∃a,((kx,a)∈Cc/\∀b,(kx,b)∈Cc->b=a)/\K (.tup [a,.v (.bool true)]))\/((∀a,(kx,a)∉Cc)/\Ls T e fun z=>K (.tup [z,.v (.bool false)]))
  |false=>(∃a,((kx,a)∈Cc/\∀b,(kx,b)∈Cc->b=a)/\K a)\/((∀a,(kx,a)∉Cc)/\Ls T e K)
 |_=>False
def NW(T:Ha)(h:Nat->HO)(ty:Nat)(m k:AV)(ok:Bool)(K:AV->Prop):Prop:=
 match m with
 |.cmap sh Cc=>Lj T ty sh k fun kx=>Nh T ty ok Cc kx K
 |.mref r=>match h r with
  |.map sh Cc=>Lj T ty sh k fun kx=>Nh T ty ok Cc kx K
  |.mapU sh Cc=>Lj T ty sh k fun kx=>Nh T ty ok Cc kx K
  |.rom sh Cc=>Lj T ty sh k fun kx=>Nh T ty ok Cc kx K
  |_=>False
 |_=>False
def NX(T:Ha)(h:Nat->HO)(ty:Nat)(m k:AV)(ok:Bool)(K:AV->Prop):Prop:=
 match m with
 |.cmap sh Cc=>Lj T ty sh k fun kx=>Ni T ty ok Cc kx K
 |.mref r=>match h r with
  |.map sh Cc=>Lj T ty sh k fun kx=>Ni T ty ok Cc kx K
  |.mapU sh Cc=>Lj T ty sh k fun kx=>Ni T ty ok Cc kx K
  |.rom sh Cc=>Lj T ty sh k fun kx=>Ni T ty ok Cc kx K
  |_=>False
 |_=>False
def eu(d:Option Nat)(h:Nat->HO)(x:AV)(K:HK):Prop:=
 match d with
 |none=>False
 |some d=>match h d with
  |.free=>match x with
   |.cmap _ Cc=>K (.ref d 0) (A1 h d (.iter Cc Cc none))
   |.mref r=>match h r with
    |.rom _ Cc=>K (.ref d 0) (A1 h d (.iter Cc Cc none))
    |.map sh Cc=>K (.ref d 0) (A1 (A1 h r (.rom sh Cc)) d (.iter Cc Cc none))
    |_=>False
   |_=>False
  |_=>False
def nv(h:Nat->HO)(x:AV)(K:HK):Prop:=
 match x with
 |.ref r 0=>match h r with
  |.iter all rem _=>(rem=[]->K (.tup [.v (.bool false)]) h) /\
    (∀kv Mw,rem.Perm (kv::Mw)->K (.tup [.v (.bool true),.v kv.1,kv.2]) (A1 h r (.iter all Mw (some kv))))
  |_=>False
 |_=>False
def dg(h:Nat->HO)(x:AV)(K:AV->Prop):Prop:=
 match x with
 |.ref r 0=>match h r with
  |.iter _ _ (some kv)=>K (.tup [.v kv.1,kv.2])
  |_=>False
 |_=>False
def SW(T:Ha)(t:Nat)(h:Nat->HO)(x:AV)(K:AV->Prop):Prop:=
 match(T t).d with
 |.slice _=>match x with
  |.slice _ es=>K (.v (.int .i64 es.length))
  |.msl _ n=>K (.v (.int .i64 n))
  |.v (.slice none 0 0)=>K (.v (.int .i64 0))
  |_=>False
 |.string=>match x with
  |.v (.string s)=>K (.v (.int .i64 s.size))
  |_=>False
 |.map _ _=>match x with
  |.cmap _ Cc=>K (.v (.int .i64 Cc.length))
  |.mref r=>match h r with
   |.map _ Cc=>K (.v (.int .i64 Cc.length))
   |.mapU _ Cc=>K (.v (.int .i64 Cc.length))
   |.rom _ Cc=>K (.v (.int .i64 Cc.length))
   |_=>False
  |_=>False
 |_=>False
def G8(d:Option Nat)(h:Nat->HO)(ty:Nat)(x:AV)(lo hi mx:Option (Option Int))(K:HK):Prop:=
 match lo,hi,mx with
 |some lo,some hi,some mx=>match(cx.T ty).d with
  |.string=>match mx,x with
   |none,.v (.string s)=>(0<=lo.getD 0/\lo.getD 0<=hi.getD s.size/\hi.getD s.size<=s.size)/\K (.v (.string (s.extract (lo.getD 0).toNat (hi.getD s.size).toNat))) h
   |_,_=>False
  |.slice e=>match(cx.T e).size with
   |0=>False
   |_+1=>match x with
    |.slice _ es=>match mx with
     |none=>(0<=lo.getD 0/\lo.getD 0<=hi.getD es.length/\hi.getD es.length<=es.length) /\
       (∀cs∈es,cs.length=(cx.T e).size)/\K (.slice .none ((es.take (hi.getD es.length).toNat).drop (lo.getD 0).toNat)) h
     |some m=>match d,hi with
      |some d,some hi=>match Hl cx.pl.arr d with
       |some _=>(0<=lo.getD 0/\lo.getD 0<=hi/\m=hi/\hi<=es.length)/\(∀cs∈es,cs.length=(cx.T e).size) /\
         K (.slice (.full (cx.T e).size) ((es.take hi.toNat).drop (lo.getD 0).toNat)) h
       |none=>match h d with
        |.free=>(0<=lo.getD 0/\lo.getD 0<=hi/\m=hi/\hi<=es.length)/\(∀cs∈es,cs.length=(cx.T e).size) /\
          K (.slice (.id d (cx.T e).size) ((es.take hi.toNat).drop (lo.getD 0).toNat)) (A1 h d (.tok (cx.T e).size (hi.toNat-(lo.getD 0).toNat)))
        |_=>False
      |_,_=>False
    |.v (.slice none 0 0)=>(lo.getD 0=0/\hi.getD 0=0/\mx.getD 0=0)/\(mx=none\/hi≠none)/\K (.v (.slice none 0 0)) h
    |.msl r n=>match h r with
     |.arr sz es=>match Nat.beq sz (cx.T e).size with
      |true=>(n=es.length/\0<=lo.getD 0/\lo.getD 0<=hi.getD es.length/\hi.getD es.length<=es.length/\(mx=none\/(mx=hi/\hi≠none))) /\
        K (.slice .none ((es.take (hi.getD es.length).toNat).drop (lo.getD 0).toNat)) (A1 h r .dead)
      |false=>False
     |_=>False
    |_=>False
  |_=>False
 |_,_,_=>False
def VN(d:Option Nat)(h:Nat->HO)(ty:Nat)(x:AV)(lo:Option (Option Int))(hi mx:Option Operand)(K:HK):Prop:=
 match d,lo,hi,mx with
 |some d,some (some lo),none,none=>match(cx.T ty).d with
  |.slice e=>match(cx.T e).size with
   |0=>False
   |_+1=>match x with
    |.slice (.id r sz) es=>match h r with
     |.tok Hb n=>match h (KJ cx d)with
      |.free=>match Nat.beq Hb sz,Nat.beq sz (cx.T e).size with
       |true,true=>(es.length=n/\0<=lo/\lo<=es.length)/\K (.slice (.id (KJ cx d) sz) (es.drop lo.toNat)) (A1 (A1 h r .dead) (KJ cx d) (.tok sz (es.drop lo.toNat).length))
       |_,_=>False
      |_=>False
     |_=>False
    |_=>False
  |_=>False
 |_,_,_,_=>False
def nX(d:Option Nat)(h:Nat->HO)(ty:Nat)(x:AV)(hi:Option (Option Int))(K:HK):Prop:=
 match d,hi with
 |some d,some (some hi)=>match(cx.T ty).d with
  |.slice e=>match(cx.T e).size with
   |0=>False
   |_+1=>match x with
    |.msl r n=>match h r with
     |.arr sz es=>match h (KJ cx d)with
      |.free=>match Nat.beq sz (cx.T e).size,Nat.blt r 10000000&&Nat.blt 0 (KJ cx d)with
       |true,true=>(n=es.length/\0<=hi/\hi<=es.length)/\K (.msl (KJ cx d) hi.toNat) (A1 (A1 h r .dead) (KJ cx d) (.arr sz (es.take hi.toNat)))
       |_,_=>False
      |_=>False
     |_=>False
    |_=>False
  |_=>False
 |_,_=>False
def QQ(d:Option Nat)(h:Nat->HO)(ty:Nat)(x:AV)(lo:Option Operand)(hi:Option (Option Int))(mx:Option Operand)(K:HK):Prop:=
 match lo,mx with
 |none,none=>nX cx d h ty x hi K
 |_,_=>False
def cM(T:Ha)(h:Nat->HO)(ty:Nat)(x:AV)(hi mx:Option Operand)(K:AV->Prop):Prop:=
 match hi,mx,(T ty).d,x with
 |none,none,.array n e,.ref r 0=>match(T e).size,h r with
  |1,.ro cs=>n=cs.length/\K (.slice .none (cs.map fun c=>[c]))
  |_,_=>False
 |_,_,_,_=>False
def bS(d:Option Nat)(h:Nat->HO)(ty:Nat)(x:AV)(t:Nat->AV)(lo hi mx:Option Operand)(K:HK):Prop:=
 match lo with
 |none=>match(cx.T ty).d with
  |.array _ _=>cM cx.T h ty x hi mx fun v=>K v h
  |_=>QQ cx d h ty x none (Co t hi) mx K
 |some lo=>VN cx d h ty x (Co t (some lo)) hi mx K
def unT:AV->AV
 |.slice _ es=>.slice .none es
 |a=>a
def PL(d:Option Nat)(h:Nat->HO)(x:AV)(K:HK):Prop:=
 match d with
 |none=>K x h
 |some d=>match Hl cx.pl.tok d with
  |some sz=>match Nat.beq sz 0 with
   |true=>K (unT x) h
   |false=>match x with
    |.v (.slice none 0 0)=>match h d with
     |.free=>K (.slice (.id d sz) []) (A1 h d (.tok sz 0))
     |_=>False
    |x=>K x h
  |none=>match Hl cx.pl.arr d with
   |some sz=>match x with
    |.v (.slice none 0 0)=>match h d with
     |.free=>K (.msl d 0) (A1 h d (.arr sz []))
     |_=>False
    |x=>K x h
   |none=>K x h
def rc(l:List AV)(n:Nat):Option AV:=
 match l with
 | []=>none
 |x::r=>match n with |0=>some x |n+1=>rc r n
def Na(i:Nat)(K:AV->Prop):Prop:=
 match x with
 |.tup vs=>match rc vs i with
  |some a=>K a
  |none=>False
 |_=>False
def LR:Prop:=
 match x with
 |.ref r o=>K (.ref r o)
 |.eref r n z i o=>K (.eref r n z i o)
 |.cptr cs=>K (.cptr cs)
 |.clo f cs=>K (.clo f cs)
 |.v (.func (.func f) a b)=>K (.v (.func (.func f) a b))
 |_=>False
def bN(c a b:AV)(K:AV->Prop):Prop:=
 match c with
 |.v (.bool true)=>K a
 |.v (.bool false)=>K b
 |_=>False
def qV(f:Int->Int->Int)(x y:AV)(K:AV->Prop):Prop:=
 match x,y with
 |.v (.int k a),.v (.int k' b)=>match xa k k' with
  |true=>K (.v (.int k (f a b)))
  |false=>False
 |_,_=>False
def Kq(d:Option Nat)(h:Nat->HO)(ty:Nat)(len cap:AV)(K:HK):Prop:=
 match(cx.T ty).d,len,cap with
 |.slice e,.v (.int .i64 n),.v (.int .i64 c)=>match Hp ((cx.T e).zc.map .v)with
  |true=>match Nat.beq (cx.T e).zc.length (cx.T e).size with
   |true=>match(cx.T e).size with
    |0=>False
    |_+1=>(0<=n/\n<=c/\c*(cx.T e).bytes<=140737488355328/\c<=9223372036854775807)/\E7 cx d h (cx.T e).size (List.replicate n.toNat ((cx.T e).zc.map .v)) K
   |false=>False
  |false=>False
 |_,_,_=>False
def ce(op:UnOp)(x:AV)(K:AV->Prop):Prop:=
 match op,x with
 |.not,x=>jD K x
 |.neg,.v (.int .i64 a)=>AX (-a)/\K (.v (.int .i64 (-a)))
 |.xor,.v (.int k a)=>K (.v (.int k (CW .xor k (if k.signed then -1 else k.max) a)))
 |_,_=>False
def Gz(d:Option Nat)(h:Nat->HO)(b:Builtin)(Hw:List Nat)(args:List AV)(K:HK):Prop:=
 match b,args,Hw with
 |.len,[x],[t]=>SW cx.T t h x fun v=>K v h
 |.append,[s,x],[t,t']=>match Nat.beq t t' with
  |true=>I6 cx d h t s x K
  |false=>False
 |.max,[x,y],_=>qV max x y fun v=>K v h
 |.min,[x,y],_=>qV min x y fun v=>K v h
 |_,_,_=>False
def Gm(dr:Bool)(o:Oper)(st:St)(K:HK):Prop:=
 match o.op with
 |.move x=>K (ev st.t x) st.h
 |.assign x=>PL cx o.dst st.h (ev st.t x) K
 |.pick c a b=>bN (ev st.t c) (ev st.t a) (ev st.t b) fun v=>K v st.h
 |.alloc e=>Uh cx.T o.dst st.h e K
 |.box e x=>iw cx o.dst st.h e (ev st.t x) K
 |.build ty ps=>Rs cx.T ty st.t ps.toList fun v=>K v st.h
 |.buildSlice ty n ps=>Jg cx o.dst st.h ty n st.t ps.toList K
 |.insert ty m k x=>HW cx.T st.h ty (ev st.t m) (ev st.t k) (ev st.t x) K
 |.load ty x=>IZ cx.T st.h ty (ev st.t x) fun v=>K v st.h
 |.store ty p x=>Pr cx st.h ty (ev st.t p) (ev st.t x) K
 |.nilCheck x=>LR (ev st.t x) fun v=>K v st.h
 |.binOp op ty x y _=>ZV cx.T op ty y (ev st.t x) (ev st.t y) fun v=>K v st.h
 |.unOp op _ x=>ce op (ev st.t x) fun v=>K v st.h
 |.convert s ty x=>match dr with
  |true=>Xq cx.T s ty (ev st.t x) fun v=>K v st.h
  |false=>da cx o.dst st.h s ty (ev st.t x) K
 |.makeFunc fn first cap=>LO st.t st.h fn first.toList cap.toList fun v=>K v st.h
 |.makeMap ty none=>LP cx.T cx.pl.mku o.dst st.h ty K
 |.makeSlice ty n c=>Kq cx o.dst st.h ty (ev st.t n) (ev st.t c) K
 |.slice ty x lo hi mx=>match dr with
  |true=>match OQ cx.pl.tok o.dst with
   |none=>G8 cx o.dst st.h ty (ev st.t x) (Co st.t lo) (Co st.t hi) (Co st.t mx) K
   |some _=>QQ cx o.dst st.h ty (ev st.t x) lo (Co st.t hi) mx K
  |false=>match OQ cx.pl.tok o.dst with
   |none=>G8 cx o.dst st.h ty (ev st.t x) (Co st.t lo) (Co st.t hi) (Co st.t mx) K
   |some _=>bS cx o.dst st.h ty (ev st.t x) st.t lo hi mx K
 |.fieldAddr s x f=>UI cx.T s f (ev st.t x) fun v=>K v st.h
 |.field s x f=>Qf cx.T s f (ev st.t x) fun v=>K v st.h
 |.indexAddr ty x ix=>Kp cx.T ty (ev st.t x) (ev st.t ix) fun v=>K v st.h
 |.index ty x ix=>Va cx.T ty (ev st.t x) (ev st.t ix) fun v=>K v st.h
 |.lookup ty x ix ok=>match dr with
  |true=>NW cx.T st.h ty (ev st.t x) (ev st.t ix) ok fun v=>K v st.h
  |false=>NX cx.T st.h ty (ev st.t x) (ev st.t ix) ok fun v=>K v st.h
 |.mapUpdate ty m k x=>HW cx.T st.h ty (ev st.t m) (ev st.t k) (ev st.t x) K
 |.range ty x=>match(cx.T ty).d with |.map _ _=>eu o.dst st.h (ev st.t x) K |_=>False
 |.next it false=>nv st.h (ev st.t it) K
 |.entry it=>dg st.h (ev st.t it) fun v=>K v st.h
 |.extract x i=>Na (ev st.t x) i fun v=>K v st.h
 |.call c=>match c.callee with
  |.builtin b=>Gz cx o.dst st.h b c.argTypes.toList (c.args.toList.map (ev st.t)) K
  |.value f=>GW cx dr o.dst st (ev st.t f) (c.args.toList.map (ev st.t)) K
  |_=>False
 |_=>False
def Lk(ops:List Oper)(j:Nat):Option Nat:=match ops with | []=>none | o::r=>match j with | 0=>o.dst | j+1=>Lk r j
def nY(o:Oper)(st:St):St:=
 match o.dst with
 |none=>st
 |some d=>match xj cx.pl.tz d with
  |some (r,k,j,sz)=>⟨st.t,tz1 st.h r k j sz⟩
  |none=>match tN cx.pl.fz d with
   | []=>st
   |l=>⟨st.t,Qq st.h l⟩
def akK(o:Oper)(st:St)(K:St->Prop):Prop:=
 match o.dst with
 |none=>K st
 |some d=>match Hl cx.pl.ak d with
  |none=>K st
  |some s=>match st.t s with
   |.msl r n=>match st.h r with
    |.arr sz es=>n=es.length/\K ⟨HZ st.t s (.slice (.id r sz) es),A1 st.h r (.tok sz es.length)⟩
    |_=>K st
   |_=>K st
def lg(dr:Bool)(o:Oper)(st:St)(K:St->Prop):Prop:=
 match dr with
 |true=>Gm cx true o st fun v h=>K (st.put o.dst v h)
 |false=>akK cx o (nY cx o st) fun EF=>Gm cx false o EF fun v h=>K (EF.put o.dst v h)
def H4(dr:Bool)(all:List Oper)(o:Oper)(st:St)(K:St->Prop):Prop:=
 match o.guard with
 |none=>lg cx dr o st K
 |some (j,want)=>match Lk all j with
  |none=>False
  |some d=>match st.t d,want with
   |.v (.bool true),true=>lg cx dr o st K
   |.v (.bool false),false=>lg cx dr o st K
   |.v (.bool true),false=>K (st.put o.dst (.v undef) st.h)
   |.v (.bool false),true=>K (st.put o.dst (.v undef) st.h)
   |.v (.tuple _),_=>K (st.put o.dst (.v undef) st.h)
   |_,_=>False
def Vd(o2:Oper):Bool:=
 match o2.op with
 |.call c=>match c.callee with
  |.builtin .clear=>match o.op with
   |.slice ty _ (some _) none none=>match o.dst,o2.dst,c.args.toList,c.argTypes.toList,o.guard,o2.guard with
    |some d,none,[.tmp d'],[ty'],none,none=>Nat.beq d d'&&Nat.beq ty ty'
    |_,_,_,_,_,_=>false
   |_=>false
  |_=>false
 |_=>false
def xH(d:Nat)(st:St)(r i sz:Nat)(es:List (List AV))(z:List Value)(K:St->Prop):Prop:=
 match z.all Value.oneCell' with
 |true=>K ⟨HZ st.t d .junk,A1 st.h r (.arr sz (es.take i++List.replicate (es.length-i) (z.map AV.v)))⟩
 |false=>False
def iD(o:Oper)(st:St)(K:St->Prop):Prop:=
 match o.op with
 |.slice ty x (some lo) none none=>match o.dst with
  |some d=>match(cx.T ty).d with
   |.slice e=>match ev st.t x with
    |.msl r n=>match ev st.t lo with
     |.v (.int .i64 i)=>match st.h r with
      |.arr sz es=>match Nat.beq sz (cx.T e).size with
       |true=>match(cx.T e).size with
        |0=>False
        |_+1=>match Nat.beq (cx.T e).zc.length sz with
         |true=>(n=es.length/\0<=i/\i<=es.length)/\xH d st r i.toNat sz es (cx.T e).zc K
         |false=>False
       |false=>False
      |_=>False
     |_=>False
    |_=>False
   |_=>False
  |none=>False
 |_=>False
def Wt(cx:Cx)(all l:List Oper)(st:St)(K:St->Prop):Prop:=
 match l with
 | []=>K st
 | [o]=>H4 cx false all o st K
 |o::o2::r=>match Vd o o2 with
  |true=>iD cx o st fun EF=>Wt cx all r EF K
  |false=>H4 cx false all o st fun EF=>Wt cx all (o2::r) EF K
def WF:AV->List Nat
 |.ref r _=>[r]
 |.mref r=>[r]
 |_=>[]
def qI:List AV->List Nat
 | []=>[]
 |a::r=>WF a++qI r
def WG:AV->List Nat
 |.agg cs=>qI cs
 |.clo _ cs=>qI cs
 |a=>WF a
def uU:List AV->List Nat
 | []=>[]
 |a::r=>WG a++uU r
def ZF:AV->List Nat
 |.agg cs=>uU cs
 |a=>WG a
def U6:List AV->List Nat
 | []=>[]
 |a::r=>ZF a++U6 r
abbrev FZ:=List Nat×Option Nat
def Jk(d:Option Nat)(l:List Nat):Option FZ:=match d with | some d=>some (d::l,some d) | none=>none
def ju:AV->List Nat
 |.msl r _=>[r]
 |_=>[]
def YS(d:Option Nat)(s x:AV):Option FZ:=
 match s with
 |.v (.slice none 0 0)=>Jk (d.map (KJ cx)) (ju x)
 |.slice (.full _) _=>Jk (d.map (KJ cx)) (ju x)
 |.slice (.id r _) _=>Jk (some r) (ju x)
 |.msl r _=>Jk (some r) (ju x)
 |_=>none
def fE(d:Option Nat)(args:List AV):Option FZ:=
 match d with
 |some d=>match args with
  |.msl r _::_=>some ([r,BF d 0],some (r+10000000*BF d 0))
  |_=>none
 |none=>none
theorem dk{d:Option Nat}{args:List AV}{f:FZ}(h:fE d args=some f):∃d' r n l,d=some d'/\args=.msl r n::l/\f=([r,BF d' 0],some (r+10000000*BF d' 0)):=by
 unfold fE at h;split at h
 .split at h
  .cases h;exact⟨_,_,_,_,rfl,rfl,rfl⟩
  .cases h
 .cases h
def l7(d:Option Nat)(x:AV):Option FZ:=
 match d with
 |some d=>match x with
  |.msl r _=>some ([r,d],some (r+10000000*d))
  |_=>none
 |none=>none
theorem dp{d:Option Nat}{x:AV}{f:FZ}(h:l7 d x=some f):∃d' r n,d=some d'/\x=.msl r n/\f=([r,d'],some (r+10000000*d')):=by
 unfold l7 at h;split at h
 .split at h
  .cases h;exact⟨_,_,_,rfl,rfl,rfl⟩
  .cases h
 .cases h
def l8(args:List AV):Option FZ:=match Yb args with | some _=>some ([1000,1001],some 10010001000) | none=>none
def Ys:Nat:=99999999999999
def l6(k:Nat)(d:Option Nat)(args:List AV):Option FZ:=
 match Nat.beq k 3 with
 |true=>some (qq,some Ys)
 |false=>fE d args
def HG(d:Option Nat)(c:Callee)(t:Nat->AV)(args:List AV):Option FZ:=
 match c,args with
 |.builtin .len,[.mref r]=>some ([r],none)
 |.builtin .len,[_]=>some ([],none)
 |.builtin .max,_=>some ([],none)
 |.builtin .min,_=>some ([],none)
 |.builtin .append,[s,x]=>YS cx d s x
 |.value f,args=>match OQ cx.pl.dc d with
  |none=>some (ZF (ev t f)++U6 args,none)
  |some 0=>Jk (d.map fun d=>BF d 0) (ZF (ev t f)++U6 args)
  |some 1=>match args with |.msl r _::_=>some ([r],some r) |_=>none
  |some (k+2)=>match Nat.beq k 1 with
   |true=>Jk (d.map fun d=>BF d 0) (ZF (ev t f)++U6 args)
   |false=>match Nat.beq k 2 with
    |true=>l8 args
    |false=>l6 k d args
 |_,_=>none
def FM(o:Oper)(st:St):Option FZ:=
 match o.op with
 |.move _ |.pick .. |.nilCheck _ |.unOp .. |.convert .. |.fieldAddr .. |.field .. |.indexAddr .. |.index .. |.extract .. |.build ..=>some ([],none)
 |.binOp _ _ x _ _=>match ev st.t x with |.slice ..=>none |_=>some ([],none)
 |.assign x=>match ev st.t x with |.v (.slice ..)=>none |_=>some ([],none)
 |.load _ p=>match ev st.t p with |.cptr _=>some ([],none) |.ref r _=>some ([r],none) |.eref r ..=>some ([r],none) |_=>none
 |.call c=>HG cx o.dst c.callee st.t (c.args.toList.map (ev st.t))
 |.alloc _=>Jk o.dst []
 |.box _ x=>Jk o.dst (ZF (ev st.t x))
 |.buildSlice _ _ ps=>Jk (o.dst.map (KJ cx)) (U6 (ps.toList.map fun p=>ev st.t p.2))
 |.store _ p x=>match ev st.t p with
  |.ref r _=>match JA cx.pl.frz r with |true=>none |false=>Jk (some r) []
  |.eref r ..=>Jk (some r) (ZF (ev st.t x))
  |_=>none
 |.slice _ x _ _ mx=>match OQ cx.pl.tok o.dst with
  |some _=>l7 (o.dst.map (KJ cx)) (ev st.t x)
  |none=>match mx,ev st.t x with
   |none,.msl ..=>none
   |none,_=>some ([],none)
   |some _,.slice ..=>Jk o.dst []
   |_,_=>none
 |.makeFunc _ _ cap=>some (U6 (cap.toList.map (ev st.t)),none)
 |.mapUpdate _ m _ x=>match ev st.t m with |.mref r=>Jk (some r) (ZF (ev st.t x)) |_=>none
 |.makeSlice ..=>Jk (o.dst.map (KJ cx)) []
 |.lookup _ m _ _=>match ev st.t m with |.cmap ..=>some ([],none) |.mref r=>some ([r],none) |_=>none
 |.makeMap ..=>Jk o.dst []
 |_=>none
def Ow(all:List Oper)(o:Oper)(st:St):Option FZ:=
 match o.guard with
 |none=>FM cx o st
 |some (j,want)=>match Lk all j with
  |none=>none
  |some d=>match st.t d,want with
   |.v (.bool true),true=>FM cx o st
   |.v (.bool false),false=>FM cx o st
   |_,_=>some ([],none)
def zg(l:List Nat):Bool:=match l with | []=>true | _=>false
def bH(l:List Nat)(r:Nat):Bool:=bif Nat.beq r Ys then zg l else !JA l r&&(Nat.blt r 10000000||(!JA l (r % 10000000)&&!JA l (r / 10000000)))
def UA(a b:FZ):Bool:=
 (match a.2 with | some r=>bH b.1 r | none=>true)&&(match b.2 with | some r=>bH a.1 r | none=>true)
def Qr(i:Nat)(D:List Nat):Bool:=o.after.toList.any fun e=>Region.binds .any e&&(Nat.beq e.on i||JA D e.on)
def Rv(i:Nat)(D:List Nat)(k:Nat):List Oper->List Nat
 | []=>D
 |o::r=>match Qr o i D with
  |true=>Rv i (k::D) (k+1) r
  |false=>Rv i D (k+1) r
def VX(i:Nat)(D:List Nat)(k:Nat):List Oper->Bool
 | []=>true
 |o::r=>(Qr o i D||!JA D k)&&VX i D (k+1) r
def Jf(ops:Array Oper)(oi:Oper)(fi:FZ)(D:List Nat)(k:Nat):List Oper->List FZ->Bool
 |o::r,f::fs=>(JA D k||(oi.apart ops o&&UA fi f))&&Jf ops oi fi D (k+1) r fs
 | [],[]=>true
 |_,_=>false
def M9(ops:Array Oper)(all:List Oper)(k:Nat):List Oper->List FZ->Bool
 |o::r,f::fs=>
  let D:=Rv k [] 0 all
  (o.after.toList.all fun e=>!Region.binds .any e||Nat.blt e.on k)&&VX k D 0 all&&(D.all fun j=>Nat.blt k j&&Nat.blt j all.length)&&Jf ops o f D (k+1) r fs&&M9 ops all (k+1) r fs
 | [],[]=>true
 |_,_=>false
def UB(ops:Array Oper)(fs:List FZ):Bool:=Region.noSelect ops&&M9 ops ops.toList 0 ops.toList fs
def ZU(cx:Cx)(ops:Array Oper)(l:List Oper)(fs:List FZ)(st:St)(K:St->Prop):Prop:=
 match l with
 | []=>UB ops fs.reverse=true/\K st
 |o::r=>match Ow cx ops.toList o st with
  |some f=>H4 cx true ops.toList o st fun EF=>ZU cx ops r (f::fs) EF K
  |none=>False
def UE(l:List (Nat×AV))(i:Nat):AV:=match l with | []=>.junk | (j,v)::r=>bif Nat.beq i j then v else UE r i
structure LS where
 t:List (Nat×AV)
 h:List (Nat×HO)
 hb:Nat->HO
def LS.st(s:LS):St:=⟨UE s.t,Ap s.h s.hb⟩
def Tw(h:Nat->HO)(r:Nat):Bool:=match h r with | .free=>false | _=>true
def ids0(h:Nat->HO):AV->Bool
 |.slice (.id r _) _=>Tw h r
 |.slice (.ver r _ _) _=>Tw h r
 |.msl r _=>Tw h r
 |.ref r _=>Tw h r
 |.eref r _ _ _ _=>Tw h r
 |.mref r=>Tw h r
 |.agg _ |.tup _ |.clo ..=>false
 |_=>true
def aY(h:Nat->HO):List AV->Bool
 | []=>true
 |a::r=>match ids0 h a with |true=>aY h r |false=>false
def WH(h:Nat->HO):AV->Bool
 |.agg cs=>aY h cs
 |.tup cs=>aY h cs
 |.clo _ cs=>aY h cs
 |a=>ids0 h a
def SO(h:Nat->HO):List (Value×AV)->Bool
 | []=>true
 |p::r=>match WH h p.2 with |true=>SO h r |false=>false
def Y3(h:Nat->HO):List AV->Bool
 | []=>true
 |a::r=>match WH h a with |true=>Y3 h r |false=>false
def Tx(h:Nat->HO):HO->Bool
 |.cells cs=>Y3 h cs
 |.mapU _ Cc=>SO h Cc
 |.hol _ _ _ _ a=>WH h a
 |_=>true
def leT(st:St)(h:Nat->HO):List (Nat×AV)->Prop
 | []=>True
 |(j,a)::r=>(st.t j=a/\WH h a=true)/\leT st h r
def leH(st:St)(h:Nat->HO):List (Nat×HO)->Prop
 | []=>True
 |(j,o)::r=>(st.h j=o/\Tx h o=true)/\leH st h r
def St.le(st:St)(s:LS):Prop:=
 leT st s.st.h s.t/\leH st s.st.h s.h/\(∀j,s.hb j=.free\/(st.h j=s.hb j/\Tx s.st.h (s.hb j)=true)) /\
 match cx.ext with
 |false=>True
 |true=>∀j,1000<=j->j<2000->st.h j≠.free->s.st.h j≠.free
def NK(ops:Array Oper)(dr:Bool)(st:St)(K:St->Prop):Prop:=
 match dr with
 |false=>Wt cx ops.toList ops.toList st K
 |true=>ZU cx ops ops.toList [] st K
inductive Ex | normal | exit (id:Nat) | ret
def azK(h:Nat->HO)(o k:Nat)(K:(Nat->HO)->Prop):Prop:=
 match h o with
 |.cells cs=>match J0 cs k with
  |.msl r n=>match h r with
   |.arr sz es=>n=es.length/\K (A1 (A1 h r (.tok sz es.length)) o (.cells (E8 cs k (.slice (.id r sz) es))))
   |_=>K h
  |_=>K h
 |_=>K h
def amK(h:Nat->HO)(o k j:Nat)(K:(Nat->HO)->Prop):Prop:=
 match h o with
 |.cells cs=>match J0 cs k with
  |.msl r n=>match h r with
   |.arr sz es=>match h j with
    |.free=>n=es.length/\K (A1 (A1 (A1 h r .dead) j (.arr sz es)) o (.cells (E8 cs k (.msl j n))))
    |_=>False
   |_=>False
  |_=>False
 |_=>False
def uvK(h:Nat->HO)(o k d:Nat)(K:(Nat->HO)->Prop):Prop:=
 match h o with
 |.cells cs=>match J0 cs k with
  |.slice (.ver r sz v) es=>match h r with
   |.var Hb v' _=>match h d with
    |.free=>(v=v'/\sz=Hb)/\K (A1 (A1 (A1 h r (.vox v)) d (.tok sz es.length)) o (.cells (E8 cs k (.slice (.id d sz) es))))
    |_=>False
   |_=>False
  |_=>K h
 |_=>False
def rvK(h:Nat->HO)(o k r:Nat)(K:(Nat->HO)->Prop):Prop:=
 match h o with
 |.cells cs=>match J0 cs k with
  |.slice (.id d sz) es=>match h d with
   |.tok Hb n=>match h r with
    |.vox v=>(es.length=n/\sz=Hb)/\K (A1 (A1 (A1 h d .dead) r (.var sz (v+1) n)) o (.cells (E8 cs k (.slice (.ver r sz (v+1)) es))))
    |_=>False
   |_=>False
  |_=>K h
 |_=>False
def nvK(h:Nat->HO)(r:Nat)(K:(Nat->HO)->Prop):Prop:=
 match h r with
 |.free=>K (A1 h r (.vox 0))
 |_=>False
def rmK(h:Nat->HO)(o k:Nat)(K:(Nat->HO)->Prop):Prop:=
 match h o with
 |.cells cs=>match J0 cs k with
  |.mref r=>match h r with
   |.rom sh Cc=>K (A1 h o (.cells (E8 cs k (.cmap sh Cc))))
   |_=>False
  |_=>False
 |_=>False
def zaK(h:Nat->HO)(o k j sz:Nat)(K:(Nat->HO)->Prop):Prop:=
 match h o with
 |.cells cs=>match J0 cs k with
  |.v (.slice none 0 0)=>match h j with
   |.free=>K (A1 (A1 h j (.arr sz [])) o (.cells (E8 cs k (.msl j 0))))
   |_=>False
  |_=>False
 |_=>False
def fz0(id:Nat)(h:Nat->HO)(K:(Nat->HO)->Prop):Prop:=
 match Hl cx.pl.ak (850000+id)with
 |some v=>K (md h v)
 |none=>K h
def rm0(id:Nat)(h:Nat->HO)(K:(Nat->HO)->Prop):Prop:=
 match Hl cx.pl.ak (800000+id)with
 |some v=>rmK h (v % 10000) (v / 10000 % 100) K
 |none=>K h
def zA(id:Nat)(h:Nat->HO)(K:(Nat->HO)->Prop):Prop:=
 match Hl cx.pl.ak (810000+id)with
 |some v=>rmK h (v % 10000) (v / 10000 % 100) K
 |none=>K h
def xd(id:Nat)(h:Nat->HO)(K:(Nat->HO)->Prop):Prop:=
 match Hl cx.pl.ak (900000+id)with
 |some v=>zaK h (v % 10000) (v / 10000 % 100) (v / 1000000 % 10000) (v / 10000000000) K
 |none=>K h
def hoK(h:Nat->HO)(r:Nat)(K:(Nat->HO)->Prop):Prop:=
 match h r with
 |.hol sz es i c (.msl j m)=>match Nat.beq r j with
  |true=>False
  |false=>match h j with
   |.arr gN qs=>m=qs.length/\∃cs,es[i]?=some cs/\c<sz/\K (A1 (A1 (A1 h j (.tok gN qs.length)) j .dead) r (.arr sz (es.set i (over cs c [.slice .none qs]))))
   |_=>False
 |_=>False
def vS(id:Nat)(h:Nat->HO)(K:(Nat->HO)->Prop):Prop:=
 match Hl cx.pl.ak (500000+id)with
 |some v=>uvK h (v % 10000) (v / 10000 % 100) (v / 1000000) K
 |none=>match Hl cx.pl.ak (600000+id)with
  |some v=>rvK h (v % 10000) (v / 10000 % 100) (v / 1000000) K
  |none=>match Hl cx.pl.ak (700000+id)with
   |some v=>nvK h v K
   |none=>match Hl cx.pl.ak (950000+id)with
    |some v=>hoK h v K
    |none=>fz0 cx id h fun h=>rm0 cx id h fun h=>zA cx id h fun h=>xd cx id h K
def asK(st:St)(s k:Nat)(K:St->Prop):Prop:=
 match st.t s with
 |.msl r n=>match st.h r with
  |.arr sz es=>match k with
   |0=>n=es.length/\K ⟨HZ st.t s (.slice .none es),A1 (A1 st.h r (.tok sz es.length)) r .dead⟩
   |k+1=>match Nat.beq r (k+1)with
    |true=>K st
    |false=>match st.h (k+1)with
     |.free=>n=es.length/\K ⟨HZ st.t s (.msl (k+1) n),A1 (A1 st.h r .dead) (k+1) (.arr sz es)⟩
     |_=>False
  |_=>K st
 |_=>K st
def xI(id:Nat)(st:St)(K:St->Prop):Prop:=
 match JA cx.pl.cut id with
 |true=>match Hl cx.pl.ak (100000+id)with
  |none=>match Hl cx.pl.ak (200000+id)with
   |none=>match Hl cx.pl.ak (300000+id)with
    |none=>vS cx id st.h fun h'=>∃s:LS,St.le cx ⟨st.t,h'⟩ s/\K s.st
    |some v=>amK st.h (v % 10000) (v / 10000 % 100) (v / 1000000) fun h'=>∃s:LS,St.le cx ⟨st.t,h'⟩ s/\K s.st
   |some v=>asK st (v % 1000) (v / 1000) fun EF=>∃s:LS,St.le cx EF s/\K s.st
  |some v=>azK st.h (v % 1000) (v / 1000) fun h'=>∃s:LS,St.le cx ⟨st.t,h'⟩ s/\K s.st
 |false=>K st
def To(cx:Cx)(c:Code)(Q:Ex->St->Prop)(st:St):Prop:=
 match c with
 |.skip=>Q .normal st
 |.label _=>Q .normal st
 |.region id ops dr=>xI cx id st fun st=>match cx.pl.dyn with
  | []=>NK cx ops dr st (Q .normal)
  |_=>∃n,NK { cx with nid:=n } ops dr st (Q .normal)
 |.seq a b=>To cx a (fun e EF=>match e with |.normal=>To cx b Q EF |e=>Q e EF) st
 |.cond c a b=>match ev st.t c with
  |.v (.bool true)=>To cx a Q st
  |.v (.bool false)=>To cx b Q st
  |_=>False
 |.block id c=>To cx c (fun e EF=>match e with |.exit j=>(bif Nat.beq j id then Q .normal EF else Q (.exit j) EF) |e=>Q e EF) st
 |.loop c=>∃(α:Type) (I:α->LS) (μ:α->Nat),(∃x,St.le cx st (I x)) /\
   ∀x,To cx c (fun e EF=>match e with | .normal=>∃y,μ y<μ x/\St.le cx EF (I y) | e=>Q e EF) (I x).st
 |.exit id=>Q (.exit id) st
 |.ret=>Q .ret st
 |_=>False
def Qb:List AV->Nat->AV
 | [],_=>.v undef
 |a::r,n=>match n with |0=>a |n+1=>Qb r n
def rl(T:Ha)(st:St):List ResultVar->(List AV->Prop)->Prop
 | [],K=>K []
 |.tmp i::r,K=>rl T st r fun l=>K (str st.h (st.t i)::l)
 |.cell a t::r,K=>IZ T st.h t (st.t a) fun v=>rl T st r fun l=>K (str st.h v::l)
def rj(st:St)(rs:List ResultVar)(K:AV->Prop):Prop:=
 rl cx.T ⟨st.t,Qq st.h cx.pl.fin⟩ rs fun
  | [v]=>K v
  |vs=>K (.tup vs)
def uk(rs:List ResultVar)(K:AV->Prop)(e:Ex)(st:St):Prop:=
 match e with
 |.normal=>rj cx st rs K
 |.ret=>rj cx st rs K
 |.exit _=>False
def rn(T:Ha)(st:St):List ResultVar->(List AV->Prop)->Prop
 | [],K=>K []
 |.tmp i::r,K=>rn T st r fun l=>K (st.t i::l)
 |.cell a t::r,K=>IZ T st.h t (st.t a) fun v=>rn T st r fun l=>K (v::l)
def jL(st:St)(rs:List ResultVar)(σ:JR)(Q:AV->(Nat->HO)->Prop):Prop:=
 rn cx.T ⟨st.t,Qq st.h cx.pl.fin⟩ rs fun
  | [v]=>Q (ren (CF σ) (Qq st.h cx.pl.fin) v) (F4 σ (Qq st.h cx.pl.fin))
  |vs=>Q (ren (CF σ) (Qq st.h cx.pl.fin) (.tup vs)) (F4 σ (Qq st.h cx.pl.fin))
def ar(rs:List ResultVar)(σ:JR)(Q:AV->(Nat->HO)->Prop)(e:Ex)(st:St):Prop:=
 match e with
 |.normal=>jL cx st rs σ Q
 |.ret=>jL cx st rs σ Q
 |.exit _=>False
def Jj(σ:JR):List (Nat×HO)->Bool
 | []=>true
 |(i,_)::r=>Nat.ble 1000 i&&Nat.blt i 2000&&(match CF σ i with |some j=>Nat.beq j i |none=>false)&&Jj σ r
theorem yN{n m:Nat}{b:Prop}(k:b)(h:n <= m := by exact GG rfl):n <= m /\ b := ⟨h,k⟩
abbrev nzA:AV := .v (.slice none 0 0)
abbrev pC(a c:List Nat):Tn := ⟨a,[],[],[],[],[],[],[],[],[],c⟩
abbrev pT(a:List Nat)(b:List (Nat×Nat))(c:List Nat):Tn := ⟨a,b,[],[],[],[],[],[],[],[],c⟩
end Go.Eng
