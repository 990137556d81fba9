/- Lemmas 5. -/
import Derived.Test.YtkjhcikodmiceaaGreatDoorUA00
import Derived.WalkKit
import Derived.Still
import Derived.RangeFuncSeq
import Derived.OrdersIn
import Derived.TacticsIn
namespace Go.Eng
variable {vs:Array Value}{E:TypeId}(op:BinOp)(f:Nat->Option Nat)(o:Oper)
theorem aa0{p:Prop}(h:p:=by kernel_rfl):p:=h
theorem A0a{A:Type}{x:Option A}{a b:A}(h:x=some a)(k:a=b:=by kernel_rfl):x=some b:=h.trans (congrArg some k)
inductive Tk | none | full (sz:Nat) | id (r sz:Nat) | ver (r sz v:Nat)
inductive KS | int (k:IntKind) | str | bool
structure D7 where
 agg:Bool
 l:List KS
variable (sh:D7)
inductive AV
 |v (x:Value)
 |slice (tk:Tk) (es:List (List AV))
 |msl (r n:Nat)
 |agg (cs:List AV)
 |tup (vs:List AV)
 |cptr (cs:List AV)
 |ref (r off:Nat)
 |eref (r n sz i off:Nat)
 |mref (r:Nat)
 |cmap (sh:D7) (BF:List (Value×AV))
 |clo (f:Nat) (caps:List AV)
 |junk
variable (x:AV)(K:AV->Prop)
inductive HO
 |free
 |dead
 |cells (cs:List AV)
 |ro (cs:List AV)
 |tok (sz n:Nat)
 |var (sz v n:Nat)
 |vox (v:Nat)
 |arr (sz:Nat) (es:List (List AV))
 |map (sh:D7) (BF:List (Value×AV))
 |mapU (sh:D7) (BF:List (Value×AV))
 |rom (sh:D7) (BF:List (Value×AV))
 |iter (all rem:List (Value×AV)) (DD:Option (Value×AV))
 |raw (b:Nat) (ob:Obj)
 |hol (sz:Nat) (es:List (List AV)) (i c:Nat) (a:AV)
 |bld (x:AV)
 |bbf (n:Nat)
structure St where
 t:Nat->AV
 h:Nat->HO
def Ab:Nat->HO:=fun _=>.free
def Az(h:Nat->HO)(r:Nat)(o:HO):Nat->HO:=fun i=>bif Nat.beq i r then o else h i
def IG(t:Nat->AV)(d:Nat)(v:AV):Nat->AV:=fun i=>bif Nat.beq i d then v else t i
def St.put(st:St)(d:Option Nat)(v:AV)(h:Nat->HO):St:=
 match d with
 |none=>⟨st.t,h⟩
 |some d=>⟨IG st.t d v,h⟩
def ev(t:Nat->AV):Operand->AV
 |.tmp i=>t i
 |.const v=>.v v
 |.global g=>.v (.pointer (some ⟨g,0,none⟩))
 |.func f=>.v (.func (.func f) #[] #[])
inductive TD
 |int (k:IntKind) |bool |string |slice (e:Nat) |array (n e:Nat) |struct (fs:List (Nat×Nat)) |ptr (e:Nat) |map (k e:Nat) |func |iface |other
structure TI where
 d:TD
 size:Nat
 bytes:Nat
 zero:Value
 eqok:Bool
def TI.zc(i:TI):List Value:=match i.zero with | .agg cs=>cs.toList | v=>[v]
abbrev FY:=Nat->TI
structure MF where
 frz:List Nat
 tok:List (Nat×Nat)
 arr:List (Nat×Nat)
 fz:List (Nat×List Nat)
 fin:List Nat
 mku:List Nat
 dyn:List Nat
 tz:List (Nat×(Nat×Nat×Nat×Nat))
 dc:List (Nat×Nat)
 ak:List (Nat×Nat)
 cut:List Nat
def HR(l:List Nat)(n:Nat):Bool:=
 match l with
 | []=>false
 |x::r=>bif Nat.beq x n then true else HR r n
def Gf(l:List (Nat×Nat))(n:Nat):Option Nat:=
 match l with
 | []=>none
 |(x,y)::r=>bif Nat.beq x n then some y else Gf r n
def str0(h:Nat->HO):AV->AV
 |.slice _ es=>.slice .none es
 |.ref r off=>match h r with |.ro cs=>.cptr (cs.drop off) |_=>.junk
 |.mref r=>match h r with |.rom sh BF=>.cmap sh BF |_=>.junk
 |.v x=>.v x
 |.cptr cs=>.cptr cs
 |.cmap s m=>.cmap s m
 |_=>.junk
def str(h:Nat->HO):AV->AV
 |.agg cs=>.agg (cs.map (str0 h))
 |.clo f cs=>.clo f (cs.map (str0 h))
 |a=>str0 h a
def Qw(h:Nat->HO)(BF:List (Value×AV)):List (Value×AV):=BF.map fun p=>(p.1,str h p.2)
def fS(h:Nat->HO)(r:Nat):Nat->HO:=
 match h r with
 |.cells cs=>Az h r (.ro (cs.map (str h)))
 |.map sh BF=>Az h r (.rom sh BF)
 |.mapU sh BF=>Az h r (.rom sh (Qw h BF))
 |_=>h
def NS(h:Nat->HO):List Nat->Nat->HO
 | []=>h
 |r::l=>NS (fS h r) l
def nt(l:List (Nat×List Nat))(n:Nat):List Nat:=
 match l with
 | []=>[]
 |(x,y)::r=>bif Nat.beq x n then y else nt r n
def qf(l:List (Nat×(Nat×Nat×Nat×Nat)))(n:Nat):Option (Nat×Nat×Nat×Nat):=
 match l with
 | []=>none
 |(x,y)::r=>bif Nat.beq x n then some y else qf r n
def IC(l:List AV)(n:Nat):AV:=
 match l with
 | []=>.junk
 |x::r=>match n with |0=>x |n+1=>IC r n
def Eb(cs:List AV)(o:Nat)(v:AV):List AV:=
 match cs with
 | []=>[]
 |c::cs=>match o with |0=>v::cs |o+1=>c::Eb cs o v
def uw(h:Nat->HO)(r k j sz:Nat):Nat->HO:=
 match h r with
 |.cells cs=>match IC cs k with
  |.v (.slice none 0 0)=>match h j with
   |.free=>Az (Az h j (.tok sz 0)) r (.cells (Eb cs k (.slice (.id j sz) [])))
   |_=>h
  |_=>h
 |_=>h
def rsv(h:Nat->HO):AV->AV
 |.ref r off=>match h r with |.ro cs=>.cptr (cs.drop off) |_=>.ref r off
 |.mref r=>match h r with |.rom sh BF=>.cmap sh BF |_=>.mref r
 |a=>a
def one:AV->Bool
 |.v x=>x.oneCell'
 |.agg _ |.tup _ |.junk=>false
 |_=>true
def Gd:List AV->Bool
 | []=>true
 |a::r=>match one a with |true=>Gd r |false=>false
def tq:AV->List AV
 |.agg cs=>cs
 |a=>[a]
def AQ(a:Int):Prop:=-9223372036854775808<=a/\a<9223372036854775808
def K9(cs:List AV)(K:AV->Prop):Prop:=
 match cs with
 |a::_=>K a
 | []=>False
def H4(p:Prop)(K:AV->Prop):Prop:=(p->K (.v (.bool true)))/\(¬p->K (.v (.bool false)))
def Kx(T:FY)(t:Nat)(cs:List AV)(K:AV->Prop):Prop:=
 match(T t).d with
 |.struct _=>(T t).size<=cs.length/\K (.agg (cs.take (T t).size))
 |.array _ _=>(T t).size<=cs.length/\K (.agg (cs.take (T t).size))
 |.bool=>K9 cs fun |.v (.bool b)=>(b=true->K (.v (.bool true)))/\(b=false->K (.v (.bool false))) |_=>False
 |.other=>False
 |_=>K9 cs K
def WD:List AV->List AV->Prop
 | [],[]=>True
 |.v (.int _ a)::r,.v (.int _ b)::s=>a=b/\WD r s
 |.v (.string a)::r,.v (.string b)::s=>a=b/\WD r s
 |.v (.bool a)::r,.v (.bool b)::s=>a=b/\WD r s
 |_,_=>False
def pY:IntKind->IntKind->Bool
 |.i64,.i64 |.u8,.u8 |.u32,.u32 |.i32,.i32 |.u64,.u64 |.u16,.u16 |.i16,.i16 |.i8,.i8=>true
 |_,_=>false
def MP(f:Nat->Option (List KS)):Nat->List (Nat×Nat)->Option (List KS)
 |_,[]=>some []
 |n,(t,o)::r=>match Nat.beq o n with
  |true=>match f t with
   |some a=>match MP f (n+a.length) r with
    |some b=>some (a++b)
    |none=>none
   |none=>none
  |false=>none
def G2(T:FY):Nat->Nat->Option (List KS)
 |0,_=>none
 |n+1,t=>match(T t).d with
  |.int k=>match(T t).size with |1=>some [.int k] |_=>none
  |.string=>match(T t).size with |1=>some [.str] |_=>none
  |.bool=>match(T t).size with |1=>some [.bool] |_=>none
  |.struct fs=>match(T t).eqok with
   |true=>match MP (G2 T n) 0 fs with
    |some l=>match Nat.beq l.length (T t).size with |true=>some l |false=>none
    |none=>none
   |false=>none
  |_=>none
def Ms:KS->Value->Bool
 |.int k,.int k' _=>pY k k'
 |.str,.string _=>true
 |.bool,.bool _=>true
 |_,_=>false
def Xe:List KS->List AV->Bool
 | [],[]=>true
 |k::r,.v x::s=>match Ms k x with |true=>Xe r s |false=>false
 |_,_=>false
def pH(T:FY)(t:Nat)(x y:AV)(K:AV->Prop):Prop:=
 match(T t).d with
 |.bool=>match x,y with
  |.v (.bool a),.v (.bool b)=>K (.v (.bool (a == b)))
  |_,_=>False
 |.struct _=>match x,y with
  |.agg xs,.agg ys=>match G2 T 8 t with
   |some l=>match Xe l xs with
    |true=>match Xe l ys with
     |true=>H4 (WD xs ys) K
     |false=>False
    |false=>False
   |none=>False
  |_,_=>False
 |.slice _=>match x,y with
  |.slice _ es,.v (.slice none 0 0)=>(es≠[]->K (.v (.bool false)))/\(es=[]->K (.v (.bool true))/\K (.v (.bool false)))
  |.v (.slice none 0 0),.v (.slice none 0 0)=>K (.v (.bool true))
  |_,_=>False
 |.ptr _=>match x,y with
  |.v (.pointer none),.v (.pointer none)=>K (.v (.bool true))
  |.cptr _,.v (.pointer none)=>K (.v (.bool false))
  |.ref _ _,.v (.pointer none)=>K (.v (.bool false))
  |.eref _ _ _ _ _,.v (.pointer none)=>K (.v (.bool false))
  |_,_=>False
 |_=>False
def df:AV->Prop
 |.v (.bool true)=>K (.v (.bool false))
 |.v (.bool false)=>K (.v (.bool true))
 |_=>False
def TS(k:IntKind)(a b:Int):Int:=
 match op with
 |.and=>k.wrap (BitVec.ofInt k.bits a &&& BitVec.ofInt k.bits b).toNat
 |.or=>k.wrap (BitVec.ofInt k.bits a |||BitVec.ofInt k.bits b).toNat
 |_=>k.wrap (BitVec.ofInt k.bits a ^^^ BitVec.ofInt k.bits b).toNat
def l6(k:IntKind)(a b:Int):Int:=
 match op with
 |.shl=>k.wrap (a*2 ^ min b.toNat k.bits)
 |_=>a.fdiv (2 ^ min b.toNat k.bits)
def SO(k:IntKind)(a b:Int)(K:AV->Prop):Prop:=
 match op with
 |.shl=>0<=b/\K (.v (.int k (l6 .shl k a b)))
 |.shr=>0<=b/\K (.v (.int k (l6 .shr k a b)))
 |_=>False
def UZ(k:IntKind)(a b:Int)(K:AV->Prop):Prop:=
 match op with
 |.quo=>(0<=a/\0<b/\k.wrap (a / b)=a / b)/\K (.v (.int k (a / b)))
 |.rem=>(0<=a/\0<b)/\K (.v (.int k (a % b)))
 |.and=>K (.v (.int k (TS .and k a b)))
 |.or=>K (.v (.int k (TS .or k a b)))
 |.xor=>K (.v (.int k (TS .xor k a b)))
 |.add=>K (.v (.int k (k.wrap (a+b))))
 |.sub=>K (.v (.int k (k.wrap (a-b))))
 |.mul=>K (.v (.int k (k.wrap (a*b))))
 |op=>SO op k a b K
def QV(k:IntKind)(a b:Int)(K:AV->Prop):Prop:=
 match k with
 |.i64=>match op with
  |.add=>AQ (a+b)/\K (.v (.int .i64 (a+b)))
  |.sub=>AQ (a-b)/\K (.v (.int .i64 (a-b)))
  |.mul=>AQ (a*b)/\K (.v (.int .i64 (a*b)))
  |.quo=>(0<=a/\0<b/\AQ a)/\K (.v (.int .i64 (a / b)))
  |.rem=>(0<=a/\0<b)/\K (.v (.int .i64 (a % b)))
  |op=>UZ op .i64 a b K
 |k=>UZ op k a b K
def QY(T:FY)(op:BinOp)(t:Nat)(x y:AV)(K:AV->Prop):Prop:=
 match x,y with
 |.v (.int k a),.v (.int k' b)=>match pY k k' with
  |false=>SO op k a b K
  |true=>match op with
   |.eql=>H4 (a=b) K
   |.neq=>H4 (a≠b) K
   |.lss=>H4 (a<b) K
   |.leq=>H4 (a<=b) K
   |.gtr=>H4 (b<a) K
   |.geq=>H4 (b<=a) K
   |op=>QV op k a b K
 |.v (.string a),.v (.string b)=>match op with
   |.eql=>H4 (a=b) K
   |.neq=>H4 (a≠b) K
   |.lss=>H4 (Op.bytesLess a.toList b.toList=true) K
   |.geq=>H4 (Op.bytesLess a.toList b.toList=false) K
   |.gtr=>H4 (Op.bytesLess b.toList a.toList=true) K
   |.leq=>H4 (Op.bytesLess b.toList a.toList=false) K
   |.add=>((a.size+b.size:Nat):Int)<=9223372036854775807/\K (.v (.string (a++b)))
   |_=>False
 |x,y=>match op with
  |.eql=>pH T t x y K
  |.neq=>pH T t x y (df K)
  |_=>False
def Wh(T:FY)(op:BinOp)(t:Nat)(Y:Operand)(x y:AV)(K:AV->Prop):Prop:=
 match Y with
 |.const .nilIface=>match x with
  |.v .nilIface=>match(T t).d with
   |.iface=>match op with
    |.eql=>K (.v (.bool true))
    |.neq=>K (.v (.bool false))
    |_=>False
   |_=>False
  |_=>False
 |_=>QY T op t x y K
def T3(T:FY)(s t:Nat)(x:AV)(K:AV->Prop):Prop:=
 match(T s).d,(T t).d,x with
 |.int _,.int .i64,.v (.int _ n)=>AQ n/\K (.v (.int .i64 n))
 |.int _,.int k,.v (.int _ n)=>K (.v (.int k (k.wrap n)))
 |.string,.string,.v (.string s)=>K (.v (.string s))
 |.slice e,.string,.slice _ es=>match(T e).d with
  |.int .u8=>∃l:List UInt8,es=l.map (fun b=>[AV.v (.int .u8 b.toNat)])/\K (.v (.string ⟨l.toArray⟩))
  |_=>False
 |_,_,_=>False
def Vf(fs:List (Nat×Nat))(n:Nat):Option (Nat×Nat):=
 match fs with
 | []=>none
 |x::r=>match n with |0=>some x |n+1=>Vf r n
def Ru(T:FY)(s f:Nat)(x:AV)(K:AV->Prop):Prop:=
 match(T s).d with
 |.struct fs=>match Vf fs f with
  |some (t,o)=>match(T t).size with
   |0=>False
   |_+1=>match x with
    |.cptr cs=>K (.cptr (cs.drop o))
    |.ref r off=>K (.ref r (off+o))
    |.eref r n z i off=>K (.eref r n z i (off+o))
    |_=>False
  |none=>False
 |_=>False
def XG(T:FY)(t:Nat)(cs:List AV)(K:AV->Prop):Prop:=Kx T t cs K
def NM(T:FY)(s f:Nat)(x:AV)(K:AV->Prop):Prop:=
 match(T s).d,x with
 |.struct fs,.agg cs=>match Vf fs f with
  |some (t,o)=>XG T t (cs.drop o) K
  |none=>False
 |_,_=>False
def Ix(T:FY)(t:Nat)(x ix:AV)(K:AV->Prop):Prop:=
 match(T t).d,ix with
 |.slice e,.v (.int .i64 i)=>match(T e).size with
  |0=>False
  |_+1=>match x with
   |.slice _ es=>∃cs,(0<=i/\es[i.toNat]?=some cs)/\cs.length=(T e).size/\K (.cptr cs)
   |.msl r n=>(0<=i/\i<n)/\K (.eref r n (T e).size i.toNat 0)
   |_=>False
 |.array n e,.v (.int .i64 i)=>match(T e).size with
  |0=>False
  |_+1=>match x with
   |.cptr cs=>(0<=i/\i<n)/\K (.cptr (cs.drop (i.toNat*(T e).size)))
   |.ref r off=>(0<=i/\i<n)/\K (.ref r (off+i.toNat*(T e).size))
   |_=>False
 |_,_=>False
def RW(T:FY)(t:Nat)(x ix:AV)(K:AV->Prop):Prop:=
 match(T t).d,x,ix with
 |.string,.v (.string s),.v (.int _ i)=>∃b:UInt8,(0<=i/\s.data[i.toNat]?=some b)/\K (.v (.int .u8 b.toNat))
 |.array n e,.agg cs,.v (.int .i64 i)=>(0<=i/\i<n)/\XG T e (cs.drop (i.toNat*(T e).size)) K
 |_,_,_=>False
def Ce(t:Nat->AV):Option Operand->Option (Option Int)
 |none=>some none
 |some x=>match ev t x with |.v (.int .i64 i)=>some (some i) |_=>none
def over{α:Type}(cs:List α)(o:Nat)(vs:List α):List α:=
 match cs with
 | []=>[]
 |c::cs=>match o with
  |o+1=>c::over cs o vs
  |0=>match vs with
   | []=>c::cs
   |v::vs=>v::over cs 0 vs
structure Gh where
 ρ:Nat->Value
 ln:Nat->Nat
 tk:Nat->Bool
 own:Nat->Option Nat
 S:Nat->Nat->Prop
def IK:List KS->List Value->Bool
 | [],[]=>true
 |k::r,v::s=>match Ms k v with |true=>IK r s |false=>false
 |_,_=>false
def VN(v:Value):Bool:=
 match sh.agg,v with
 |true,.agg cs=>IK sh.l cs.toList
 |false,v=>IK sh.l [v]
 |_,_=>false
def GJ(es:Array MapEntry)(ck:Nat)(BF:List (Value×AV)):Prop:=
 es.size=BF.length/\(∀(i:Nat) (kv:Value×AV) (e:MapEntry),BF[i]?=some kv->es[i]?=some e->e.key=kv.1) /\
 (∀kv∈BF,VN sh kv.1=true)/\(BF.map (·.1)).Nodup/\(∀(i:Nat) (e:MapEntry),es[i]?=some e->e.born<ck) /\
 ∀(i j:Nat) (e e' : MapEntry),es[i]?=some e->es[j]?=some e'->e.born=e'.born->i=j
inductive AT(g:Gh)(w:World):(Nat->Prop)->AV->Value->Prop
 |v (U:Nat->Prop) (x:Value):AT g w U (.v x) x
 |junk (U:Nat->Prop) (x:Value):AT g w U .junk x
 |snil (U:Nat->Prop) (a:Option Addr) (cap:Nat):AT g w U (.slice .none []) (.slice a 0 cap)
 |slice (U:Nat->Prop) (es:List (List AV)) (b off sz cap:Nat) (val:Nat->Nat->Value) (hc:es.length<=cap)
   (hl:∀(i:Nat) (cs:List AV),es[i]?=some cs->cs.length=sz)
   (CZ:∀(i:Nat) (cs:List AV) (j:Nat) (av:AV),es[i]?=some cs->cs[j]?=some av ->
    g.S b (off+i*sz+j)/\w.cell? ⟨b,off+i*sz+j,none⟩=some (val i j)/\(val i j).oneCell'=true)
   (DH:∀(i:Nat) (cs:List AV) (j:Nat) (av:AV),es[i]?=some cs->cs[j]?=some av->AT g w (fun _=>False) av (val i j)) :
   AT g w U (.slice .none es) (.slice (some ⟨b,off,none⟩) es.length cap)
 |tok (U:Nat->Prop) (r sz:Nat) (es:List (List AV)) (x:Value) (h:AT g w U (.slice .none es) x) (hl:∀c∈es,c.length=sz) (hu:U r) (ht:g.tk r=true) (hn:es.length<=g.ln r)
   (hx:es.length=g.ln r->x=g.ρ r):AT g w U (.slice (.id r sz) es) x
 |ver (U:Nat->Prop) (r sz v:Nat) (es:List (List AV)) (x:Value) (h:AT g w U (.slice .none es) x) (hl:∀c∈es,c.length=sz) (hu:U r) (ht:g.tk r=true) (hn:v<=g.ln r)
   (hx:v=g.ln r->x=g.ρ r):AT g w U (.slice (.ver r sz v) es) x
 |full (U:Nat->Prop) (sz:Nat) (es:List (List AV)) (x:Value) (h:AT g w U (.slice .none es) x) (hl:∀c∈es,c.length=sz) (hx:∃a,x=.slice a es.length es.length):AT g w U (.slice (.full sz) es) x
 |msl (U:Nat->Prop) (r n:Nat) (a:Option Addr) (cap:Nat) (hu:U r) (ht:g.tk r=true) (hn:n<=g.ln r) (ha:n=0\/∃b,a=some ⟨b,0,none⟩) (hx:n=g.ln r->.slice a n cap=g.ρ r) :
   AT g w U (.msl r n) (.slice a n cap)
 |agg (U:Nat->Prop) (cs:List AV) (vs:Array Value) (hs:vs.size=cs.length) (h1:∀(i:Nat) (x:Value),vs[i]?=some x->x.oneCell'=true)
   (h:∀(i:Nat) (av:AV) (x:Value),cs[i]?=some av->vs[i]?=some x->AT g w U av x):AT g w U (.agg cs) (.agg vs)
 |tup (U:Nat->Prop) (cs:List AV) (vs:Array Value) (hs:vs.size=cs.length)
   (h:∀(i:Nat) (av:AV) (x:Value),cs[i]?=some av->vs[i]?=some x->AT g w U av x):AT g w U (.tup cs) (.tuple vs)
 |cptr (U:Nat->Prop) (cs:List AV) (b off:Nat) (val:Nat->Value)
   (CZ:∀(j:Nat) (av:AV),cs[j]?=some av->g.S b (off+j)/\w.cell? ⟨b,off+j,none⟩=some (val j)/\(val j).oneCell'=true)
   (DH:∀(j:Nat) (av:AV),cs[j]?=some av->AT g w (fun _=>False) av (val j)) :
   AT g w U (.cptr cs) (.pointer (some ⟨b,off,none⟩))
 |ref (U:Nat->Prop) (r off b:Nat) (hu:U r) (ht:g.tk r=false) (hx:g.ρ r=.pointer (some ⟨b,0,none⟩)):AT g w U (.ref r off) (.pointer (some ⟨b,off,none⟩))
 |eref (U:Nat->Prop) (r n sz i off b cap:Nat) (hu:U r) (ht:g.tk r=true) (hn:i<n/\n<=g.ln r) (hx:n=g.ln r->g.ρ r=.slice (some ⟨b,0,none⟩) n cap) :
   AT g w U (.eref r n sz i off) (.pointer (some ⟨b,i*sz+off,none⟩))
 |mref (U:Nat->Prop) (r b:Nat) (hu:U r) (ht:g.tk r=false) (hx:g.ρ r=.map (some b)):AT g w U (.mref r) (.map (some b))
 |cmap (U:Nat->Prop) (sh:D7) (BF:List (Value×AV)) (b:Nat) (es:Array MapEntry) (ck:Nat) (hS:g.S b 0) (hb:w.heap[b]?=some (.map es ck)) (hm:GJ sh es ck BF)
   (h:∀(i:Nat) (kv:Value×AV) (e:MapEntry),BF[i]?=some kv->es[i]?=some e->AT g w (fun _=>False) kv.2 e.val):AT g w U (.cmap sh BF) (.map (some b))
 |clo (U:Nat->Prop) (f:Nat) (cs:List AV) (vs:Array Value) (hs:vs.size=cs.length)
   (h:∀(i:Nat) (av:AV) (x:Value),cs[i]?=some av->vs[i]?=some x->AT g w U av x):AT g w U (.clo f cs) (.func (.func f) #[] vs)
def HO.live:HO->Prop
 |.free |.dead |.vox _ |.ro _ |.rom _ _=>False
 |_=>True
def Aw(h:Nat->HO)(r:Nat):Prop:=h r≠.free
def ES:Nat->Prop:=fun _=>False
def BR(g:Gh)(w:World)(U:Nat->Prop)(cs:List AV)(vs:List Value):Prop:=
 vs.length=cs.length/\(∀x∈vs,x.oneCell'=true)/\∀(i:Nat) (av:AV) (x:Value),cs[i]?=some av->vs[i]?=some x->AT g w U av x
def Nu:List Nat->Code->Bool
 |bs,.block id c=>Nu (id::bs) c
 |bs,.seq a b=>Nu bs a||Nu bs b
 |bs,.cond _ a b=>Nu bs a||Nu bs b
 |bs,.loop c=>Nu bs c
 |bs,.exit id=>!(bs.any fun i=>Nat.beq i id)
 |_,_=>false
def qj:Obj->Bool
 |.loop r=>Nu [] r.body
 |_=>false
def PD(w:World)(b:Nat)(vs:Array Value)(E:TypeId):Prop:=∃f:Nat×Nat,w.heap[b]?=some (.cells vs E f)/\(f=(0,0)\/vs.size<=f.1)
theorem PD.eq{w w' : World}{b:Nat}(h:PD w b vs E)(e:w'.heap[b]?=w.heap[b]?):PD w' b vs E:=by
 obtain⟨f,h1,h2⟩:=h;exact⟨f,e.trans h1,h2⟩
theorem PD.of{w:World}{b:Nat}(h:w.heap[b]?=some (.cells vs E (0,0))):PD w b vs E:=⟨_,h,.inl rfl⟩
def Wi:Nat:=104
def u8T:Nat:=5
def Do(g:Gh)(w:World)(U:Nat->Prop)(r:Nat):HO->Prop
  |.free |.dead=>True
  |.cells cs=>g.tk r=false/\∃b E vs,g.own r=some b/\g.ρ r=.pointer (some ⟨b,0,none⟩)/\w.heap[b]?=some (.cells vs E (0,0))/\BR g w U cs vs.toList/\∀o,¬g.S b o
  |.ro cs=>g.tk r=false/\∃b,g.ρ r=.pointer (some ⟨b,0,none⟩)/\AT g w ES (.cptr cs) (.pointer (some ⟨b,0,none⟩))
  |.tok sz n=>g.tk r=true/\g.ln r=n/\∃a cap,g.ρ r=.slice a n cap/\(n=cap/\g.own r=none \/
      n<=cap/\∃b E vs off,a=some ⟨b,off,none⟩/\g.own r=some b/\PD w b vs E/\vs.size=off+cap*sz/\∀o,g.S b o->o<off+n*sz)
  |.var sz v n=>g.tk r=true/\g.ln r=v/\∃a cap,g.ρ r=.slice a n cap/\(n=cap/\g.own r=none \/
      n<=cap/\∃b E vs off,a=some ⟨b,off,none⟩/\g.own r=some b/\PD w b vs E/\vs.size=off+cap*sz/\∀o,g.S b o->o<off+n*sz)
  |.vox v=>g.tk r=true/\g.ln r=v
  |.arr sz es=>g.tk r=true/\g.ln r=es.length/\(∀cs∈es,cs.length=sz)/\(es=[]/\g.ρ r=.slice none 0 0/\g.own r=none \/
      ∃b cap E vs,g.ρ r=.slice (some ⟨b,0,none⟩) es.length cap/\g.own r=some b/\es.length<=cap/\w.heap[b]?=some (.cells vs E (0,0))/\vs.size=cap*sz /\
        BR g w ES es.flatten (vs.toList.take (es.length*sz))/\∀o,¬g.S b o)
  |.map sh BF=>g.tk r=false/\∃b es ck,g.own r=some b/\g.ρ r=.map (some b)/\w.heap[b]?=some (.map es ck)/\GJ sh es ck BF /\
      (∀(i:Nat) (kv:Value×AV) (e:MapEntry),BF[i]?=some kv->es[i]?=some e->AT g w ES kv.2 e.val)/\∀o,¬g.S b o
  |.mapU sh BF=>g.tk r=false/\∃b es ck,g.own r=some b/\g.ρ r=.map (some b)/\w.heap[b]?=some (.map es ck)/\GJ sh es ck BF /\
      (∀(i:Nat) (kv:Value×AV) (e:MapEntry),BF[i]?=some kv->es[i]?=some e->AT g w U kv.2 e.val)/\∀o,¬g.S b o
  |.rom sh BF=>g.tk r=false/\∃b,g.ρ r=.map (some b)/\AT g w ES (.cmap sh BF) (.map (some b))
  |.iter all rem DD=>g.tk r=false/\∃b mb I2 seen st es ck,g.own r=some b/\g.ρ r=.pointer (some ⟨b,0,none⟩)/\w.heap[b]?=some (.mapIter (some mb) I2 seen st) /\
      g.S mb 0/\w.heap[mb]?=some (.map es ck)/\(∃sh,GJ sh es ck all)/\I2=ck/\st=ck /\
      (∀(i:Nat) (kv:Value×AV) (e:MapEntry),all[i]?=some kv->es[i]?=some e->AT g w ES kv.2 e.val) /\
      (rem.Nodup/\∀kv∈rem,kv∈all)/\(∀(i:Nat) (kv:Value×AV) (e:MapEntry),all[i]?=some kv->es[i]?=some e->(kv∈rem↔e.born∉seen)) /\
      (match DD with | none=>True | some kv=>∃(i:Nat) (e:MapEntry),all[i]?=some kv/\es[i]?=some e/\seen.back?=some e.born)/\∀o,¬g.S b o
  |.hol sz es i c a=>g.tk r=true/\g.ln r=es.length/\(∀cs∈es,cs.length=sz)/\∃b cap E vs,g.ρ r=.slice (some ⟨b,0,none⟩) es.length cap/\g.own r=some b/\es.length<=cap/\w.heap[b]?=some (.cells vs E (0,0))/\vs.size=cap*sz /\
        BR g w ES es.flatten (vs.toList.take (es.length*sz))/\(∀o,¬g.S b o)/\i*sz+c<es.length*sz/\∃x,vs[i*sz+c]?=some x/\AT g w U a x
  |.raw b ob=>g.tk r=false/\g.own r=some b/\w.heap[b]?=some ob/\qj ob=true/\∀o,¬g.S b o
  |.bld x=>g.tk r=false/\∃b p v,g.own r=some b/\g.ρ r=.pointer (some ⟨b,0,none⟩)/\w.heap[b]?=some (.cells #[p,v] Wi (0,0))/\(p=.pointer none\/p=.pointer (some ⟨b,0,none⟩))/\AT g w U x v/\∀o,¬g.S b o
  |.bbf n=>g.tk r=true/\g.ln r=n/\(n=0/\g.ρ r=.slice none 0 0/\g.own r=none\/∃b cap DD,g.ρ r=.slice (some ⟨b,0,none⟩) n cap/\g.own r=some b/\(0<n/\n<=cap)/\cap<=maxLen/\w.heap[b]?=some (.cells DD u8T (0,0))/\DD.size=cap/\∀o,g.S b o->o<n)
def gB:Nat:=0
def qQ:List (Nat×Nat×Option Value):=[]
def UP(g:Gh)(w:World):Prop:=(g.S gB 0/\∃m,w.cell? ⟨gB,0,none⟩=some (.int .i64 m))/\∀x∈qQ,g.S x.1 x.2.1/\w.cell? ⟨x.1,x.2.1,none⟩=x.2.2
structure Cm(w0:World)(g0:Gh)(h0:Nat->HO)(h:Nat->HO)(g:Gh)(w:World):Prop where
 os:w.os=w0.os
 tape:w.tape=w0.tape
 output:w.output=w0.output
 size:w0.heap.size<=w.heap.size
 frame:∀b,b<w0.heap.size->(∀r,(h0 r).live->g0.own r≠some b)->w.heap[b]?=w0.heap[b]?
 slt:∀b o,g.S b o->b<w.heap.size
 objs:∀r,Do g w (Aw h) r (h r)
 inj:∀r r' b,(h r).live->(h r').live->g.own r=some b->g.own r'=some b->r=r'
 loc:∀r b,(h r).live->g.own r=some b->b<w.heap.size/\(w0.heap.size<=b\/∃r',(h0 r').live/\g0.own r'=some b)
 sg:∀b o,g.S b o->g0.S b o\/w0.heap.size<=b\/∃r',(h0 r').live/\g0.own r'=some b
 glob:UP g w
def En(g:Gh)(w:World)(g' : Gh)(w' : World):Prop:=
 ∀b o,g.S b o->g'.S b o/\w'.cell? ⟨b,o,none⟩=w.cell? ⟨b,o,none⟩/\∀es ck,w.heap[b]?=some (.map es ck)->w'.heap[b]?=some (.map es ck)
def I4(g g' : Gh)(U:Nat->Prop):Prop:=
 ∀i,U i->g'.tk i=g.tk i/\g.ln i<=g'.ln i/\(g.tk i=false->g'.ρ i=g.ρ i)/\(g'.ln i=g.ln i->g'.ρ i=g.ρ i)
structure Le(h:Nat->HO)(g:Gh)(w:World)(h' : Nat->HO)(g' : Gh)(w' : World):Prop where
 gh:I4 g g' (Aw h)
 us:∀i,Aw h i->Aw h' i
 keeps:En g w g' w'
def Fb (P : Program) (f : Nat) : Prop := ∃ fn, P.funcs[f]? = some fn /\ (fn.name == "runtime.NumGoroutine") = false /\ fn.body.isNone = false
def AW(P:Program)(f:Nat)(args:List AV)(h0:Nat->HO)(Q:AV->(Nat->HO)->Prop):Prop:=
 Fb P f/\∀(g:Gh) (w:World) (vals:Array Value),vals.size=args.length->(∀(i:Nat) (av:AV) (x:Value),args[i]?=some av->vals[i]?=some x->AT g w (Aw h0) av x) ->
  Cm w g h0 h0 g w ->
  Calls P f vals w fun e w'=>∃v r h' g',e=.returned v/\Q r h'/\AT g' w' (Aw h') r v/\Cm w g h0 h' g' w'/\Le h0 g w h' g' w'
def KP(P:Program)(f:Nat)(args:List AV)(res:AV):Prop:=AW P f args Ab fun r h'=>r=res/\h'=Ab
def H1(P:Program)(Y:Gh->World->Prop)(l:Nat)(args:List AV)(h0:Nat->HO)(Q:AV->(Nat->HO)->Prop):Prop:=
 ∀(g:Gh) (w:World) (vals:Array Value),vals.size=args.length->(∀(i:Nat) (av:AV) (x:Value),args[i]?=some av->vals[i]?=some x->AT g w (Aw h0) av x) ->
  Cm w g h0 h0 g w->Y g w ->
  YieldAt Fence.wide 0 P l vals w fun e w'=>∃v r h' g',e=.returned v/\Q r h'/\AT g' w' (Aw h') r v/\Cm w g h0 h' g' w'/\Le h0 g w h' g' w'
def ne(P:Program)(Y:Gh->World->Prop)(f:Nat)(args:List AV)(h0:Nat->HO)(Q:AV->(Nat->HO)->Prop):Prop:=
 Fb P f/\∀(g:Gh) (w:World) (vals:Array Value),vals.size=args.length->(∀(i:Nat) (av:AV) (x:Value),args[i]?=some av->vals[i]?=some x->AT g w (Aw h0) av x) ->
  Cm w g h0 h0 g w->Y g w ->
  Calls P f vals w fun e w'=>∃v r h' g',e=.returned v/\Q r h'/\AT g' w' (Aw h') r v/\Cm w g h0 h' g' w'/\Le h0 g w h' g' w'
def Fv(P:Program)(Y:Nat->Gh->World->Prop)(F:AV)(args:List AV)(h:Nat->HO)(Q:AV->(Nat->HO)->Prop):Prop:=
 match F with
 |.v (.func (.func f) ⟨[]⟩ ⟨[]⟩)=>AW P f args h Q
 |.clo f caps=>AW P f (args++caps) h Q
 |.v (.func (.yield l) ⟨[]⟩ ⟨[]⟩)=>H1 P (Y l) l args h Q
 |_=>False
def Oz(P:Program)(F:AV)(args:List AV)(res:AV):Prop:=
 match F with
 |.v (.func (.func f) ⟨[]⟩ ⟨[]⟩)=>KP P f args res
 |.clo f caps=>KP P f (args++caps) res
 |_=>False
structure Cx where
 P:Program
 T:FY
 pl:MF
 ext:Bool
 nid:Nat
 yp:Nat->List (Nat×Nat)->Gh->World->Prop
variable (cx:Cx)
def I8(d:Nat):Nat:=bif HR cx.pl.dyn d then cx.nid else d
abbrev HK:=AV->(Nat->HO)->Prop
def QS(T:FY)(d:Option Nat)(h:Nat->HO)(e:Nat)(K:HK):Prop:=
 match d with
 |none=>False
 |some d=>match h d with
  |.free=>match(T e).d with
   |.other=>False
   |_=>match Nat.beq e Wi with
    |true=>match h 1001,Nat.beq d 1001,(T e).zc with
     |.free,false,[.pointer none,.slice none 0 0]=>K (.ref d 0) (Az (Az h 1001 (.bbf 0)) d (.bld (.slice (.id 1001 1) [])))
     |_,_,_=>False
    |false=>match Gd ((T e).zc.map .v)with
     |true=>K (.ref d 0) (Az h d (.cells ((T e).zc.map .v)))
     |false=>False
  |_=>False
def GC(n:Nat)(a:AV)(K:List AV->Prop):Prop:=
 match a with
 |.agg cs=>match Nat.beq cs.length n with
  |true=>K cs
  |false=>False
 |a=>match one a with
  |true=>match n with
   |1=>K [a]
   |_=>False
  |false=>False
def bJ(d:Option Nat)(h:Nat->HO)(e:Nat)(x:AV)(K:HK):Prop:=
 match d with
 |none=>False
 |some d=>match h d with
  |.free=>match(cx.T e).d with
   |.other=>False
   |_=>GC (cx.T e).size x fun cs=>match HR cx.pl.frz d with
    |true=>K (.ref d 0) (Az h d (.ro (cs.map (str h))))
    |false=>K (.ref d 0) (Az h d (.cells cs))
  |_=>False
def Nb(h:Nat->HO)(t:Nat)(p x:AV)(K:HK):Prop:=
 match(cx.T t).d with
 |.other=>False
 |_=>GC (cx.T t).size x fun vs=>match p with
  |.ref r off=>match h r with
   |.cells cs=>off+vs.length<=cs.length/\(match HR cx.pl.frz r with
    |true=>K (.v undef) (Az h r (.ro ((over cs off vs).map (str h))))
    |false=>K (.v undef) (Az h r (.cells (over cs off vs))))
   |_=>False
  |.eref r n sz i off=>match h r with
   |.arr GW es=>match Nat.beq sz GW with
    |true=>n=es.length/\∃cs,es[i]?=some cs/\off+vs.length<=sz/\(match vs with
     | [.msl j m]=>K (.v undef) (Az h r (.hol sz (es.set i (over cs off [.junk])) i off (.msl j m)))
     |_=>K (.v undef) (Az h r (.arr sz (es.set i (over cs off (vs.map (str h)))))))
    |false=>False
   |_=>False
  |_=>False
def Iz(T:FY)(h:Nat->HO)(t:Nat)(p:AV)(K:AV->Prop):Prop:=
 match p with
 |.cptr cs=>Kx T t cs K
 |.ref r off=>match h r with
  |.cells cs=>Kx T t (cs.drop off) K
  |.ro cs=>Kx T t (cs.drop off) K
  |_=>False
 |.eref r n sz i off=>match h r with
  |.arr GW es=>match Nat.beq sz GW with
   |true=>n=es.length/\∃cs,es[i]?=some cs/\Kx T t (cs.drop off) K
   |false=>False
  |.hol GW es i' c a=>match Nat.beq sz GW with
   |true=>(n=es.length/\i=i'/\off=c)/\Kx T t [a] K
   |false=>False
  |_=>False
 |_=>False
def Jt(pl:Nat->Option (Nat×Nat))(cs:List AV)(t:Nat->AV)(ps:List (Nat×Operand))(K:List AV->Prop):Prop:=
 match ps with
 | []=>K cs
 |(i,x)::r=>match pl i with
  |none=>False
  |some (o,n)=>GC n (ev t x) fun vs=>match Nat.ble (o+n) cs.length with
   |true=>Jt pl (over cs o vs) t r K
   |false=>False
def No(T:FY):List (Nat×Nat)->Bool
 | []=>true
 |(t,_)::r=>match(T t).size with |0=>false |_+1=>No T r
def OF(T:FY)(ty:Nat)(t:Nat->AV)(ps:List (Nat×Operand))(K:AV->Prop):Prop:=
 match Gd ((T ty).zc.map .v)with
 |false=>False
 |true=>match(T ty).d with
  |.struct fs=>match No T fs with
   |false=>False
   |true=>Jt (fun i=>match Vf fs i with |some (t,o)=>some (o,(T t).size) |none=>none) ((T ty).zc.map .v) t ps fun cs=>K (.agg cs)
  |.array _ e=>match(T e).size with
   |0=>False
   |_+1=>Jt (fun i=>some (i*(T e).size,(T e).size)) ((T ty).zc.map .v) t ps fun cs=>K (.agg cs)
  |_=>False
def PL(n sz:Nat)(h:Nat->HO)(es:List (List AV))(t:Nat->AV)(ps:List (Nat×Operand))(K:List (List AV)->Prop):Prop:=
 match ps with
 | []=>K es
 |(i,x)::r=>match Nat.blt i n with
  |true=>GC sz (ev t x) fun vs=>PL n sz h (es.set i (vs.map (str h))) t r K
  |false=>False
abbrev JQ(b:ByteArray):List (List AV):=b.data.toList.map fun c=>[AV.v (.int .u8 c.toNat)]
def Yx(d:Option Nat)(h:Nat->HO)(s t:Nat)(x:AV)(K:HK):Prop:=
 match(cx.T s).d,(cx.T t).d,x with
 |.string,.slice e,.v (.string b)=>match(cx.T e).d,d with
  |.int .u8,some d=>match h (I8 cx d)with
   |.free=>K (.slice (.id (I8 cx d) 1) (JQ b)) (Az h (I8 cx d) (.tok 1 (JQ b).length))
   |_=>False
  |_,_=>False
 |_,_,_=>T3 cx.T s t x fun v=>K v h
def Ek(d:Option Nat)(h:Nat->HO)(sz:Nat)(es:List (List AV))(K:HK):Prop:=
 match d with
 |none=>False
 |some d=>match h (I8 cx d)with
  |.free=>match Gf cx.pl.arr d with
   |some _=>K (.msl (I8 cx d) es.length) (Az h (I8 cx d) (.arr sz es))
   |none=>K (.slice (.id (I8 cx d) sz) es) (Az h (I8 cx d) (.tok sz es.length))
  |_=>False
def HB(d:Option Nat)(h:Nat->HO)(ty n:Nat)(t:Nat->AV)(ps:List (Nat×Operand))(K:HK):Prop:=
 match(cx.T ty).d with
 |.slice e=>match Gd ((cx.T e).zc.map .v),Nat.beq (cx.T e).zc.length (cx.T e).size with
  |true,true=>match(cx.T e).size with
   |0=>False
   |_+1=>match Nat.ble (n*(cx.T e).size) 16777216 with
    |true=>PL n (cx.T e).size h (List.replicate n ((cx.T e).zc.map .v)) t ps fun es=>Ek cx d h (cx.T e).size es K
    |false=>False
  |_,_=>False
 |_=>False
def JB(t:Nat->AV)(h:Nat->HO)(fn:Fn)(first captured:List Operand)(K:AV->Prop):Prop:=
 match fn,first with
 |.func f,[]=>K (.clo f (captured.map fun x=>rsv h (ev t x)))
 |_,_=>False
def BJ(sz:Nat):List (List AV)->Prop
 | []=>True
 |c::r=>c.length=sz/\BJ sz r
def JZ(h:Nat->HO)(x:AV)(K:List (List AV)->Prop):Prop:=
 match x with
 |.slice _ es=>K es
 |.v (.slice none 0 0)=>K []
 |.msl r n=>match h r with
  |.arr _ es=>n=es.length/\K es
  |_=>False
 |_=>False
def Hs(d:Option Nat)(h:Nat->HO)(ty:Nat)(s x:AV)(K:HK):Prop:=
 match(cx.T ty).d with
 |.slice e=>match Nat.beq (cx.T e).zc.length (cx.T e).size with
  |false=>False
  |true=>match(cx.T e).size with
   |0=>False
   |_+1=>JZ h x fun es2=>match s with
    |.v (.slice none 0 0)=>(BJ (cx.T e).size es2/\es2.length*(cx.T e).bytes<=140737488355328/\es2.length<=9223372036854775807)/\Ek cx d h (cx.T e).size es2 K
    |.slice (.full GW) es=>match Nat.beq GW (cx.T e).size with
     |true=>(BJ (cx.T e).size es2/\0<es2.length/\(es.length+es2.length)*(cx.T e).bytes<=140737488355328/\es.length+es2.length<=9223372036854775807)/\Ek cx d h (cx.T e).size (es++es2) K
     |false=>False
    |.slice (.id r GW) es=>match h r with
     |.tok sz n=>match Nat.beq sz (cx.T e).size,Nat.beq GW sz with
      |true,true=>(BJ sz es2/\es.length=n/\(es.length+es2.length)*(cx.T e).bytes<=140737488355328/\es.length+es2.length<=9223372036854775807) /\
        K (.slice (.id r sz) (es++es2)) (Az h r (.tok sz (es.length+es2.length)))
      |_,_=>False
     |_=>False
    |.msl r n=>match h r with
     |.arr sz es=>match Nat.beq sz (cx.T e).size with
      |true=>(BJ sz es2/\es.length=n/\(es.length+es2.length)*(cx.T e).bytes<=140737488355328/\es.length+es2.length<=9223372036854775807) /\
        K (.msl r (es.length+es2.length)) (Az h r (.arr sz (es++es2)))
      |false=>False
     |_=>False
    |_=>False
 |_=>False
abbrev Ia:=List (Nat×Nat)
variable (σ:Ia)
inductive p9 | pure | rel | gen (σ:Ia) (nn:Nat) | geny (σ:Ia) (nn:Nat)
def BY(σ:Ia)(n:Nat):Option Nat:=
 match σ with
 | []=>none
 |(i,j)::r=>bif Nat.beq i n then some j else BY r n
def Hi(σ:Ia)(n:Nat):Option Nat:=
 match σ with
 | []=>none
 |(i,j)::r=>bif Nat.beq j n then some i else Hi r n
def DM:Ia->Bool
 | []=>true
 |(i,j)::r=>(match BY r i,Hi r j with |none,none=>true |_,_=>false)&&Nat.ble 1000 j&&Nat.blt j 2000&&DM r
def Gk:Ia->Bool
 | []=>true
 |(i,j)::r=>(match BY r i,Hi r j with |none,none=>true |_,_=>false)&&Gk r
def ren0(h:Nat->HO):AV->AV
 |.slice (.id r sz) es=>match f r with |some r'=>.slice (.id r' sz) es |none=>.slice .none es
 |.slice (.ver r sz v) es=>match f r with |some r'=>.slice (.ver r' sz v) es |none=>.slice .none es
 |.msl r n=>match f r with |some r'=>.msl r' n |none=>.junk
 |.ref r off=>match f r with |some r'=>.ref r' off |none=>str0 h (.ref r off)
 |.eref r n sz i off=>match f r with |some r'=>.eref r' n sz i off |none=>.junk
 |.mref r=>match f r with |some r'=>.mref r' |none=>str0 h (.mref r)
 |a=>str0 h a
def ren1(h:Nat->HO):AV->AV
 |.agg cs=>.agg (cs.map (ren0 f h))
 |.clo g cs=>.clo g (cs.map (ren0 f h))
 |a=>ren0 f h a
def ren(h:Nat->HO):AV->AV
 |.tup cs=>.tup (cs.map (ren1 f h))
 |a=>ren1 f h a
def HO.ren(h:Nat->HO):HO->HO
 |.cells cs=>.cells (cs.map (ren1 f h))
 |.mapU sh BF=>.mapU sh (BF.map fun p=>(p.1,ren1 f h p.2))
 |.hol sz es i c a=>.hol sz es i c (ren1 f h a)
 |.bld x=>.bld (ren1 f h x)
 |o=>o
def Ae(l:List (Nat×HO))(hb:Nat->HO)(i:Nat):HO:=match l with | []=>hb i | (j,v)::r=>bif Nat.beq i j then v else Ae r hb i
def VJ(f:Nat->Option Nat)(h:Nat->HO):Ia->List (Nat×HO)
 | []=>[]
 |(i,j)::r=>(j,(h i).ren f h)::VJ f h r
def EW(h:Nat->HO):Nat->HO:=Ae (VJ (BY σ) h σ) Ab
def Bl(d k:Nat):Nat:=10000+100*d+k
def ED(d nn:Nat)(j:Nat):Option Nat:=
 match Hi σ j with
 |some i=>some i
 |none=>match Nat.ble 2000 j&&Nat.blt j (2000+nn)with |true=>some (Bl d (j-2000)) |false=>none
def Dx(d nn:Nat)(h h' : Nat->HO):Nat->HO:=fun i=>
 match BY σ i with
 |some j=>(h' j).ren (ED σ d nn) h'
 |none=>match Nat.ble (Bl d 0) i&&Nat.blt i (Bl d nn)with |true=>(h' (2000+(i-Bl d 0))).ren (ED σ d nn) h' |false=>h i
def Du(h:Nat->HO)(d:Nat):Nat->Bool
 |0=>true
 |k+1=>(match h (Bl d k)with |.free=>true |_=>false)&&Du h d k
def Cv(σ:Ia)(d nn:Nat):Bool:=
 match σ with
 | []=>true
 |(i,_)::r=>!(Nat.ble (Bl d 0) i&&Nat.blt i (Bl d nn))&&Cv r d nn
def QW(l:List (Nat×Nat))(d:Option Nat):Option Nat:=match d with | none=>none | some d=>Gf l d
def aJ:AV->Bool | .tup _=>false | _=>true
def So:List AV->Bool
 | []=>true
 |a::r=>match aJ a with |true=>So r |false=>false
def UJ:List AV->Option (List Value)
 | []=>some []
 |.v x::r=>match UJ r with |some l=>some (x::l) |none=>none
 |_=>none
def Qg(k:Nat)(d:Option Nat)(h:Nat->HO)(F:AV)(args:List AV)(K:HK):Prop:=
 match d,F,args with
 |some d,.v (.func (.func f) ⟨[]⟩ ⟨[]⟩),.msl r n::l=>match UJ l with
  |some vs=>match h r with
   |.arr sz es=>match k with
    |0=>∃n' EZ,AW cx.P f (.msl 1000 n::vs.map .v) (Ae [(1000,.arr sz es)] Ab) (fun r' h'=>r'=.msl 1000 n'/\h'=Ae [(1000,.arr sz EZ)] Ab)/\K (.msl r n') (Az h r (.arr sz EZ))
    |_+1=>∃n' EZ,(Du h d 1&&Nat.blt r 10000000&&!Nat.beq r (Bl d 0))=true/\AW cx.P f (.msl 1000 n::vs.map .v) (Ae [(1000,.arr sz es)] Ab) (fun r' h'=>r'=.msl 2000 n'/\h'=Ae [(1000,.dead),(2000,.arr sz EZ)] Ab) /\
      K (.msl (Bl d 0) n') (Az (Az h r .dead) (Bl d 0) (.arr sz EZ))
   |_=>False
  |none=>False
 |_,_,_=>False
def VS(d:Option Nat)(st:St)(F:AV)(args:List AV)(K:HK):Prop:=
 match d with
 |none=>False
 |some d=>∃sz es,(Du st.h d 1&&aJ F&&So args)=true/\Fv cx.P (fun l=>cx.yp l []) (str st.h F) (args.map (str st.h)) Ab (fun r h'=>r=.slice (.id 2000 sz) es/\h'=Ae [(2000,.tok sz es.length)] Ab) /\
   K (.slice (.id (Bl d 0) sz) es) (Az st.h (Bl d 0) (.tok sz es.length))
def Ta(d:Option Nat)(st:St)(F:AV)(args:List AV)(K:HK):Prop:=
  match d,F,UJ args with
  |some _,.v (.func (.yield l) ⟨[]⟩ ⟨[]⟩),some vs=>match st.h 1000,st.h 1001 with
    |.cells [.slice (.id r sz) es],.tok bi n=>(r=1001/\bi=sz)/\∃v EZ n',H1 cx.P (cx.yp l [(1000,1000),(1001,1001)]) l (vs.map .v) (Ae [(1000,.cells [.slice (.id 1001 sz) es]),(1001,.tok sz n)] Ab)
          (fun r h'=>r=.v v/\h'=Ae [(1000,.cells [.slice (.id 1001 sz) EZ]),(1001,.tok sz n')] Ab) /\
        K (.v v) (Az (Az st.h 1001 (.tok sz n')) 1000 (.cells [.slice (.id 1001 sz) EZ]))
    |_,_=>False
  |_,_,_=>False
def kf:List Nat:=[1000,1001,1002,1003,1004,1005,1006,1007,10900,5]
def fT:AV->Option (Nat×List AV)
 |.v (.func (.func f) ⟨[]⟩ ⟨[]⟩)=>some (f,[])
 |.clo f caps=>some (f,caps)
 |_=>none
def WR(d:Option Nat)(st:St)(F:AV)(args:List AV)(K:HK):Prop:=
 match d,fT F with
 |some d,some (f,caps)=>∃(σ:Ia) (H0 Hn:List (Nat×HO)) (args' : List AV) (res:AV),
   (∀h2:Nat->HO,(∀r∈kf,h2 r=st.h r)->EW σ h2=Ae H0 Ab/\args.map (ren (BY σ) h2)++caps.map (ren0 (BY σ) h2)=args')/\(DM σ&&Cv σ d 0&&σ.all fun p=>HR kf p.1)=true /\
   AW cx.P f args' (Ae H0 Ab) (fun r h'=>r=res/\h'=Ae Hn Ab)/\K (ren (ED σ d 0) (Ae Hn Ab) res) (Dx σ d 0 st.h (Ae Hn Ab))
 |_,_=>False
def Qc(k:Nat)(d:Option Nat)(st:St)(F:AV)(args:List AV)(K:HK):Prop:=
 match Nat.beq k 4 with
 |true=>WR cx d st F args K
 |false=>Qg cx k d st.h F args K
def FM(dr:Bool)(d:Option Nat)(st:St)(F:AV)(args:List AV)(K:HK):Prop:=
 match dr with
 |true=>match QW cx.pl.dc d with
  |none=>∃res,Oz cx.P (str st.h F) (args.map (str st.h)) res/\K res st.h
  |some 0=>match d with
   |none=>False
   |some d=>∃n sz es,(Du st.h d 1&&aJ F&&So args)=true/\Fv cx.P (fun l=>cx.yp l []) (str st.h F) (args.map (str st.h)) Ab (fun r h'=>r=.msl 2000 n/\h'=Ae [(2000,.arr sz es)] Ab) /\
     K (.msl (Bl d 0) n) (Az st.h (Bl d 0) (.arr sz es))
  |some (k+1)=>match Nat.beq k 2 with
   |true=>VS cx d st F args K
   |false=>match Nat.beq k 3 with
    |true=>Ta cx d st F args K
    |false=>Qc cx k d st F args K
 |false=>∃m:p9,match m with
  |.pure=>∃res,Oz cx.P (str st.h F) (args.map (str st.h)) res/\K res st.h
  |.rel=>Fv cx.P (fun _ _ _=>True) (str st.h F) (args.map (str st.h)) Ab fun r h'=>h'=Ab/\K r st.h
  |.gen σ nn=>match d with
   |none=>False
   |some d=>(DM σ&&Du st.h d nn&&Cv σ d nn)=true /\
     Fv cx.P (fun l=>cx.yp l σ) (ren (BY σ) st.h F) (args.map (ren (BY σ) st.h)) (EW σ st.h) fun r h'=>K (ren (ED σ d nn) h' r) (Dx σ d nn st.h h')
  |.geny σ nn=>match d with
   |none=>False
   |some d=>(DM σ&&Du st.h d nn&&Cv σ d nn)=true /\
     match ren (BY σ) st.h F with
     |.clo f caps=>ne cx.P (fun g w=>∀l,cx.yp l σ g w) f (args.map (ren (BY σ) st.h)++caps) (EW σ st.h) fun r h'=>K (ren (ED σ d nn) h' r) (Dx σ d nn st.h h')
     |_=>False
def VU:List AV->Option (List Value)
 | []=>some []
 |.v x::r=>match VU r with |some l=>some (x::l) |none=>none
 |_=>none
def oP:AV->Option Value
 |.v x=>some x
 |.agg cs=>match VU cs with |some l=>some (.agg l.toArray) |none=>none
 |_=>none
def He(T:FY)(t:Nat):Option D7:=
 match(T t).d with
 |.struct _=>match G2 T 8 t with |some l=>some ⟨true,l⟩ |none=>none
 |_=>match G2 T 1 t with |some l=>some ⟨false,l⟩ |none=>none
def ld:KS->KS->Bool
 |.int k,.int k'=>pY k k'
 |.str,.str=>true
 |.bool,.bool=>true
 |_,_=>false
def Sa:List KS->List KS->Bool
 | [],[]=>true
 |a::r,b::s=>match ld a b with |true=>Sa r s |false=>false
 |_,_=>false
def pp(a b:D7):Bool:=
 match a.agg,b.agg with
 |true,true=>Sa a.l b.l
 |false,false=>Sa a.l b.l
 |_,_=>false
def Ja(T:FY)(ty:Nat)(sh:D7)(k:AV)(K:Value->Prop):Prop:=
 match(T ty).d with
 |.map kt _=>match He T kt with
  |some yC=>match pp sh yC with
   |true=>match oP k with
    |some kx=>match VN sh kx with
     |true=>K kx
     |false=>False
    |none=>False
   |false=>False
  |none=>False
 |_=>False
open Classical in
noncomputable def Ej(BF:List (Value×AV))(k:Value)(a:AV):List (Value×AV):=
 if ∃a',(k,a')∈BF then BF.map fun p=>if p.1=k then(k,a)else p else BF++[(k,a)]
def JC(T:FY)(mku:List Nat)(d:Option Nat)(h:Nat->HO)(ty:Nat)(K:HK):Prop:=
 match d with
 |none=>False
 |some d=>match h d with
  |.free=>match(T ty).d with
   |.map kt _=>match He T kt with
    |some sh=>match HR mku d with
     |true=>K (.mref d) (Az h d (.mapU sh []))
     |false=>K (.mref d) (Az h d (.map sh []))
    |none=>False
   |_=>False
  |_=>False
def GD(T:FY)(h:Nat->HO)(ty:Nat)(m k x:AV)(K:HK):Prop:=
 match m with
 |.mref r=>match h r with
  |.map sh BF=>Ja T ty sh k fun kx=>K (.v undef) (Az h r (.map sh (Ej BF kx (str h x))))
  |.mapU sh BF=>Ja T ty sh k fun kx=>K (.v undef) (Az h r (.mapU sh (Ej BF kx x)))
  |_=>False
 |_=>False
def Je(T:FY)(t:Nat)(K:AV->Prop):Prop:=
 match(T t).d with
 |.other=>False
 |_=>match(T t).zero with
  |.agg cs=>match Gd (cs.toList.map .v)with |true=>K (.agg (cs.toList.map .v)) |false=>False
  |z=>K (.v z)
def K7(T:FY)(ty:Nat)(ok:Bool)(BF:List (Value×AV))(kx:Value)(K:AV->Prop):Prop:=
 match(T ty).d with
 |.map _ e=>match ok with
  |true=>(∀a,(kx,a)∈BF->K (.tup [a,.v (.bool true)]))/\((∀a,(kx,a)∉BF)->Je T e fun z=>K (.tup [z,.v (.bool false)]))
  |false=>(∀a,(kx,a)∈BF->K a)/\((∀a,(kx,a)∉BF)->Je T e K)
 |_=>False
def K6(T:FY)(ty:Nat)(ok:Bool)(BF:List (Value×AV))(kx:Value)(K:AV->Prop):Prop:=
 match(T ty).d with
 |.map _ e=>match ok with
  |true=>(∃a,((kx,a)∈BF/\∀b,(kx,b)∈BF->b=a)/\K (.tup [a,.v (.bool true)]))\/((∀a,(kx,a)∉BF)/\Je T e fun z=>K (.tup [z,.v (.bool false)]))
  |false=>(∃a,((kx,a)∈BF/\∀b,(kx,b)∈BF->b=a)/\K a)\/((∀a,(kx,a)∉BF)/\Je T e K)
 |_=>False
def LW(T:FY)(h:Nat->HO)(ty:Nat)(m k:AV)(ok:Bool)(K:AV->Prop):Prop:=
 match m with
 |.cmap sh BF=>Ja T ty sh k fun kx=>K6 T ty ok BF kx K
 |.mref r=>match h r with
  |.map sh BF=>Ja T ty sh k fun kx=>K6 T ty ok BF kx K
  |.mapU sh BF=>Ja T ty sh k fun kx=>K6 T ty ok BF kx K
  |.rom sh BF=>Ja T ty sh k fun kx=>K6 T ty ok BF kx K
  |_=>False
 |_=>False
def LX(T:FY)(h:Nat->HO)(ty:Nat)(m k:AV)(ok:Bool)(K:AV->Prop):Prop:=
 match m with
 |.cmap sh BF=>Ja T ty sh k fun kx=>K7 T ty ok BF kx K
 |.mref r=>match h r with
  |.map sh BF=>Ja T ty sh k fun kx=>K7 T ty ok BF kx K
  |.mapU sh BF=>Ja T ty sh k fun kx=>K7 T ty ok BF kx K
  |.rom sh BF=>Ja T ty sh k fun kx=>K7 T ty ok BF kx K
  |_=>False
 |_=>False
def Zu(d:Option Nat)(h:Nat->HO)(x:AV)(K:HK):Prop:=
 match d with
 |none=>False
 |some d=>match h d with
  |.free=>match x with
   |.cmap _ BF=>K (.ref d 0) (Az h d (.iter BF BF none))
   |.mref r=>match h r with
    |.rom _ BF=>K (.ref d 0) (Az h d (.iter BF BF none))
    |.map sh BF=>K (.ref d 0) (Az (Az h r (.rom sh BF)) d (.iter BF BF none))
    |_=>False
   |_=>False
  |_=>False
def g8(h:Nat->HO)(x:AV)(K:HK):Prop:=
 match x with
 |.ref r 0=>match h r with
  |.iter all rem _=>(rem=[]->K (.tup [.v (.bool false)]) h) /\
    (∀kv Ol,rem.Perm (kv::Ol)->K (.tup [.v (.bool true),.v kv.1,kv.2]) (Az h r (.iter all Ol (some kv))))
  |_=>False
 |_=>False
def YC(h:Nat->HO)(x:AV)(K:AV->Prop):Prop:=
 match x with
 |.ref r 0=>match h r with
  |.iter _ _ (some kv)=>K (.tup [.v kv.1,kv.2])
  |_=>False
 |_=>False
def PS(T:FY)(t:Nat)(h:Nat->HO)(x:AV)(K:AV->Prop):Prop:=
 match(T t).d with
 |.slice _=>match x with
  |.slice _ es=>K (.v (.int .i64 es.length))
  |.msl _ n=>K (.v (.int .i64 n))
  |.v (.slice none 0 0)=>K (.v (.int .i64 0))
  |_=>False
 |.string=>match x with
  |.v (.string s)=>K (.v (.int .i64 s.size))
  |_=>False
 |.map _ _=>match x with
  |.cmap _ BF=>K (.v (.int .i64 BF.length))
  |.mref r=>match h r with
   |.map _ BF=>K (.v (.int .i64 BF.length))
   |.mapU _ BF=>K (.v (.int .i64 BF.length))
   |.rom _ BF=>K (.v (.int .i64 BF.length))
   |_=>False
  |_=>False
 |_=>False
def Hr(d:Option Nat)(h:Nat->HO)(ty:Nat)(x:AV)(lo hi mx:Option (Option Int))(K:HK):Prop:=
 match lo,hi,mx with
 |some lo,some hi,some mx=>match(cx.T ty).d with
  |.string=>match mx,x with
   |none,.v (.string s)=>(0<=lo.getD 0/\lo.getD 0<=hi.getD s.size/\hi.getD s.size<=s.size)/\K (.v (.string (s.extract (lo.getD 0).toNat (hi.getD s.size).toNat))) h
   |_,_=>False
  |.slice e=>match(cx.T e).size with
   |0=>False
   |_+1=>match x with
    |.slice _ es=>match mx with
     |none=>(0<=lo.getD 0/\lo.getD 0<=hi.getD es.length/\hi.getD es.length<=es.length) /\
       (∀cs∈es,cs.length=(cx.T e).size)/\K (.slice .none ((es.take (hi.getD es.length).toNat).drop (lo.getD 0).toNat)) h
     |some m=>match d,hi with
      |some d,some hi=>match Gf cx.pl.arr d with
       |some _=>(0<=lo.getD 0/\lo.getD 0<=hi/\m=hi/\hi<=es.length)/\(∀cs∈es,cs.length=(cx.T e).size) /\
         K (.slice (.full (cx.T e).size) ((es.take hi.toNat).drop (lo.getD 0).toNat)) h
       |none=>match h d with
        |.free=>(0<=lo.getD 0/\lo.getD 0<=hi/\m=hi/\hi<=es.length)/\(∀cs∈es,cs.length=(cx.T e).size) /\
          K (.slice (.id d (cx.T e).size) ((es.take hi.toNat).drop (lo.getD 0).toNat)) (Az h d (.tok (cx.T e).size (hi.toNat-(lo.getD 0).toNat)))
        |_=>False
      |_,_=>False
    |.v (.slice none 0 0)=>(lo.getD 0=0/\hi.getD 0=0/\mx.getD 0=0)/\(mx=none\/hi≠none)/\K (.v (.slice none 0 0)) h
    |.msl r n=>match h r with
     |.arr sz es=>match Nat.beq sz (cx.T e).size with
      |true=>(n=es.length/\0<=lo.getD 0/\lo.getD 0<=hi.getD es.length/\hi.getD es.length<=es.length/\(mx=none\/(mx=hi/\hi≠none))) /\
        K (.slice .none ((es.take (hi.getD es.length).toNat).drop (lo.getD 0).toNat)) (Az h r .dead)
      |false=>False
     |_=>False
    |_=>False
  |_=>False
 |_,_,_=>False
def SH(d:Option Nat)(h:Nat->HO)(ty:Nat)(x:AV)(lo:Option (Option Int))(hi mx:Option Operand)(K:HK):Prop:=
 match d,lo,hi,mx with
 |some d,some (some lo),none,none=>match(cx.T ty).d with
  |.slice e=>match(cx.T e).size with
   |0=>False
   |_+1=>match x with
    |.slice (.id r sz) es=>match h r with
     |.tok GW n=>match h (I8 cx d)with
      |.free=>match Nat.beq GW sz,Nat.beq sz (cx.T e).size with
       |true,true=>(es.length=n/\0<=lo/\lo<=es.length)/\K (.slice (.id (I8 cx d) sz) (es.drop lo.toNat)) (Az (Az h r .dead) (I8 cx d) (.tok sz (es.drop lo.toNat).length))
       |_,_=>False
      |_=>False
     |_=>False
    |_=>False
  |_=>False
 |_,_,_,_=>False
def iz(d:Option Nat)(h:Nat->HO)(ty:Nat)(x:AV)(hi:Option (Option Int))(K:HK):Prop:=
 match d,hi with
 |some d,some (some hi)=>match(cx.T ty).d with
  |.slice e=>match(cx.T e).size with
   |0=>False
   |_+1=>match x with
    |.msl r n=>match h r with
     |.arr sz es=>match h (I8 cx d)with
      |.free=>match Nat.beq sz (cx.T e).size,Nat.blt r 10000000&&Nat.blt 0 (I8 cx d)with
       |true,true=>(n=es.length/\0<=hi/\hi<=es.length)/\K (.msl (I8 cx d) hi.toNat) (Az (Az h r .dead) (I8 cx d) (.arr sz (es.take hi.toNat)))
       |_,_=>False
      |_=>False
     |_=>False
    |_=>False
  |_=>False
 |_,_=>False
def SA(d:Option Nat)(h:Nat->HO)(ty:Nat)(x:AV)(lo:Option Operand)(hi:Option (Option Int))(mx:Option Operand)(K:HK):Prop:=
 match lo,mx with
 |none,none=>iz cx d h ty x hi K
 |_,_=>False
def Yk(T:FY)(h:Nat->HO)(ty:Nat)(x:AV)(hi mx:Option Operand)(K:AV->Prop):Prop:=
 match hi,mx,(T ty).d,x with
 |none,none,.array n e,.ref r 0=>match(T e).size,h r with
  |1,.ro cs=>n=cs.length/\K (.slice .none (cs.map fun c=>[c]))
  |_,_=>False
 |_,_,_,_=>False
def iJ(d:Option Nat)(h:Nat->HO)(ty:Nat)(x:AV)(t:Nat->AV)(lo hi mx:Option Operand)(K:HK):Prop:=
 match lo with
 |none=>match(cx.T ty).d with
  |.array _ _=>Yk cx.T h ty x hi mx fun v=>K v h
  |_=>SA cx d h ty x none (Ce t hi) mx K
 |some lo=>SH cx d h ty x (Ce t (some lo)) hi mx K
def unT:AV->AV
 |.slice _ es=>.slice .none es
 |a=>a
def Ns(d:Option Nat)(h:Nat->HO)(x:AV)(K:HK):Prop:=
 match d with
 |none=>K x h
 |some d=>match Gf cx.pl.tok d with
  |some sz=>match Nat.beq sz 0 with
   |true=>K (unT x) h
   |false=>match x with
    |.v (.slice none 0 0)=>match h d with
     |.free=>K (.slice (.id d sz) []) (Az h d (.tok sz 0))
     |_=>False
    |x=>K x h
  |none=>match Gf cx.pl.arr d with
   |some sz=>match x with
    |.v (.slice none 0 0)=>match h d with
     |.free=>K (.msl d 0) (Az h d (.arr sz []))
     |_=>False
    |x=>K x h
   |none=>K x h
def lw(l:List AV)(n:Nat):Option AV:=
 match l with
 | []=>none
 |x::r=>match n with |0=>some x |n+1=>lw r n
def KX(i:Nat)(K:AV->Prop):Prop:=
 match x with
 |.tup vs=>match lw vs i with
  |some a=>K a
  |none=>False
 |_=>False
def JE:Prop:=
 match x with
 |.ref r o=>K (.ref r o)
 |.eref r n z i o=>K (.eref r n z i o)
 |.cptr cs=>K (.cptr cs)
 |.clo f cs=>K (.clo f cs)
 |.v (.func (.func f) a b)=>K (.v (.func (.func f) a b))
 |_=>False
def XI(c a b:AV)(K:AV->Prop):Prop:=
 match c with
 |.v (.bool true)=>K a
 |.v (.bool false)=>K b
 |_=>False
def ll(f:Int->Int->Int)(x y:AV)(K:AV->Prop):Prop:=
 match x,y with
 |.v (.int k a),.v (.int k' b)=>match pY k k' with
  |true=>K (.v (.int k (f a b)))
  |false=>False
 |_,_=>False
def IA(d:Option Nat)(h:Nat->HO)(ty:Nat)(len cap:AV)(K:HK):Prop:=
 match(cx.T ty).d,len,cap with
 |.slice e,.v (.int .i64 n),.v (.int .i64 c)=>match Gd ((cx.T e).zc.map .v)with
  |true=>match Nat.beq (cx.T e).zc.length (cx.T e).size with
   |true=>match(cx.T e).size with
    |0=>False
    |_+1=>(0<=n/\n<=c/\c*(cx.T e).bytes<=140737488355328/\c<=9223372036854775807)/\Ek cx d h (cx.T e).size (List.replicate n.toNat ((cx.T e).zc.map .v)) K
   |false=>False
  |false=>False
 |_,_,_=>False
def XW(op:UnOp)(x:AV)(K:AV->Prop):Prop:=
 match op,x with
 |.not,x=>df K x
 |.neg,.v (.int .i64 a)=>AQ (-a)/\K (.v (.int .i64 (-a)))
 |.xor,.v (.int k a)=>K (.v (.int k (TS .xor k (if k.signed then -1 else k.max) a)))
 |_,_=>False
def Fl(d:Option Nat)(h:Nat->HO)(b:Builtin)(Gw:List Nat)(args:List AV)(K:HK):Prop:=
 match b,args,Gw with
 |.len,[x],[t]=>PS cx.T t h x fun v=>K v h
 |.append,[s,x],[t,t']=>match Nat.beq t t' with
  |true=>Hs cx d h t s x K
  |false=>False
 |.max,[x,y],_=>ll max x y fun v=>K v h
 |.min,[x,y],_=>ll min x y fun v=>K v h
 |_,_,_=>False
def Fg(dr:Bool)(o:Oper)(st:St)(K:HK):Prop:=
 match o.op with
 |.move x=>K (ev st.t x) st.h
 |.assign x=>Ns cx o.dst st.h (ev st.t x) K
 |.pick c a b=>XI (ev st.t c) (ev st.t a) (ev st.t b) fun v=>K v st.h
 |.alloc e=>QS cx.T o.dst st.h e K
 |.box e x=>bJ cx o.dst st.h e (ev st.t x) K
 |.build ty ps=>OF cx.T ty st.t ps.toList fun v=>K v st.h
 |.buildSlice ty n ps=>HB cx o.dst st.h ty n st.t ps.toList K
 |.insert ty m k x=>GD cx.T st.h ty (ev st.t m) (ev st.t k) (ev st.t x) K
 |.load ty x=>Iz cx.T st.h ty (ev st.t x) fun v=>K v st.h
 |.store ty p x=>Nb cx st.h ty (ev st.t p) (ev st.t x) K
 |.nilCheck x=>JE (ev st.t x) fun v=>K v st.h
 |.binOp op ty x y _=>Wh cx.T op ty y (ev st.t x) (ev st.t y) fun v=>K v st.h
 |.unOp op _ x=>XW op (ev st.t x) fun v=>K v st.h
 |.convert s ty x=>match dr with
  |true=>T3 cx.T s ty (ev st.t x) fun v=>K v st.h
  |false=>Yx cx o.dst st.h s ty (ev st.t x) K
 |.makeFunc fn first cap=>JB st.t st.h fn first.toList cap.toList fun v=>K v st.h
 |.makeMap ty none=>JC cx.T cx.pl.mku o.dst st.h ty K
 |.makeSlice ty n c=>IA cx o.dst st.h ty (ev st.t n) (ev st.t c) K
 |.slice ty x lo hi mx=>match dr with
  |true=>match QW cx.pl.tok o.dst with
   |none=>Hr cx o.dst st.h ty (ev st.t x) (Ce st.t lo) (Ce st.t hi) (Ce st.t mx) K
   |some _=>SA cx o.dst st.h ty (ev st.t x) lo (Ce st.t hi) mx K
  |false=>match QW cx.pl.tok o.dst with
   |none=>Hr cx o.dst st.h ty (ev st.t x) (Ce st.t lo) (Ce st.t hi) (Ce st.t mx) K
   |some _=>iJ cx o.dst st.h ty (ev st.t x) st.t lo hi mx K
 |.fieldAddr s x f=>Ru cx.T s f (ev st.t x) fun v=>K v st.h
 |.field s x f=>NM cx.T s f (ev st.t x) fun v=>K v st.h
 |.indexAddr ty x ix=>Ix cx.T ty (ev st.t x) (ev st.t ix) fun v=>K v st.h
 |.index ty x ix=>RW cx.T ty (ev st.t x) (ev st.t ix) fun v=>K v st.h
 |.lookup ty x ix ok=>match dr with
  |true=>LW cx.T st.h ty (ev st.t x) (ev st.t ix) ok fun v=>K v st.h
  |false=>LX cx.T st.h ty (ev st.t x) (ev st.t ix) ok fun v=>K v st.h
 |.mapUpdate ty m k x=>GD cx.T st.h ty (ev st.t m) (ev st.t k) (ev st.t x) K
 |.range ty x=>match(cx.T ty).d with |.map _ _=>Zu o.dst st.h (ev st.t x) K |_=>False
 |.next it false=>g8 st.h (ev st.t it) K
 |.entry it=>YC st.h (ev st.t it) fun v=>K v st.h
 |.extract x i=>KX (ev st.t x) i fun v=>K v st.h
 |.call c=>match c.callee with
  |.builtin b=>Fl cx o.dst st.h b c.argTypes.toList (c.args.toList.map (ev st.t)) K
  |.value f=>FM cx dr o.dst st (ev st.t f) (c.args.toList.map (ev st.t)) K
  |_=>False
 |_=>False
def Kf(ops:List Oper)(j:Nat):Option Nat:=match ops with | []=>none | o::r=>match j with | 0=>o.dst | j+1=>Kf r j
def iB(o:Oper)(st:St):St:=
 match o.dst with
 |none=>st
 |some d=>match qf cx.pl.tz d with
  |some (r,k,j,sz)=>⟨st.t,uw st.h r k j sz⟩
  |none=>match nt cx.pl.fz d with
   | []=>st
   |l=>⟨st.t,NS st.h l⟩
def uz(o:Oper)(st:St)(K:St->Prop):Prop:=
 match o.dst with
 |none=>K st
 |some d=>match Gf cx.pl.ak d with
  |none=>K st
  |some s=>match st.t s with
   |.msl r n=>match st.h r with
    |.arr sz es=>n=es.length/\K ⟨IG st.t s (.slice (.id r sz) es),Az st.h r (.tok sz es.length)⟩
    |_=>K st
   |_=>K st
def eT(dr:Bool)(o:Oper)(st:St)(K:St->Prop):Prop:=
 match dr with
 |true=>Fg cx true o st fun v h=>K (st.put o.dst v h)
 |false=>uz cx o (iB cx o st) fun DV=>Fg cx false o DV fun v h=>K (DV.put o.dst v h)
def H3(dr:Bool)(all:List Oper)(o:Oper)(st:St)(K:St->Prop):Prop:=
 match o.guard with
 |none=>eT cx dr o st K
 |some (j,want)=>match Kf all j with
  |none=>False
  |some d=>match st.t d,want with
   |.v (.bool true),true=>eT cx dr o st K
   |.v (.bool false),false=>eT cx dr o st K
   |.v (.bool true),false=>K (st.put o.dst (.v undef) st.h)
   |.v (.bool false),true=>K (st.put o.dst (.v undef) st.h)
   |.v (.tuple _),_=>K (st.put o.dst (.v undef) st.h)
   |_,_=>False
def Xd(o2:Oper):Bool:=
 match o2.op with
 |.call c=>match c.callee with
  |.builtin .clear=>match o.op with
   |.slice ty _ (some _) none none=>match o.dst,o2.dst,c.args.toList,c.argTypes.toList,o.guard,o2.guard with
    |some d,none,[.tmp d'],[ty'],none,none=>Nat.beq d d'&&Nat.beq ty ty'
    |_,_,_,_,_,_=>false
   |_=>false
  |_=>false
 |_=>false
def qI(d:Nat)(st:St)(r i sz:Nat)(es:List (List AV))(z:List Value)(K:St->Prop):Prop:=
 match z.all Value.oneCell' with
 |true=>K ⟨IG st.t d .junk,Az st.h r (.arr sz (es.take i++List.replicate (es.length-i) (z.map AV.v)))⟩
 |false=>False
def jY(o:Oper)(st:St)(K:St->Prop):Prop:=
 match o.op with
 |.slice ty x (some lo) none none=>match o.dst with
  |some d=>match(cx.T ty).d with
   |.slice e=>match ev st.t x with
    |.msl r n=>match ev st.t lo with
     |.v (.int .i64 i)=>match st.h r with
      |.arr sz es=>match Nat.beq sz (cx.T e).size with
       |true=>match(cx.T e).size with
        |0=>False
        |_+1=>match Nat.beq (cx.T e).zc.length sz with
         |true=>(n=es.length/\0<=i/\i<=es.length)/\qI d st r i.toNat sz es (cx.T e).zc K
         |false=>False
       |false=>False
      |_=>False
     |_=>False
    |_=>False
   |_=>False
  |none=>False
 |_=>False
def Wg(cx:Cx)(all l:List Oper)(st:St)(K:St->Prop):Prop:=
 match l with
 | []=>K st
 | [o]=>H3 cx false all o st K
 |o::o2::r=>match Xd o o2 with
  |true=>jY cx o st fun DV=>Wg cx all r DV K
  |false=>H3 cx false all o st fun DV=>Wg cx all (o2::r) DV K
def W6:AV->List Nat
 |.ref r _=>[r]
 |.mref r=>[r]
 |_=>[]
def kW:List AV->List Nat
 | []=>[]
 |a::r=>W6 a++kW r
def Vr:AV->List Nat
 |.agg cs=>kW cs
 |.clo _ cs=>kW cs
 |a=>W6 a
def oM:List AV->List Nat
 | []=>[]
 |a::r=>Vr a++oM r
def W5:AV->List Nat
 |.agg cs=>oM cs
 |a=>Vr a
def RS:List AV->List Nat
 | []=>[]
 |a::r=>W5 a++RS r
abbrev ET:=List Nat×Option Nat
def HD(d:Option Nat)(l:List Nat):Option ET:=match d with | some d=>some (d::l,some d) | none=>none
def cW:AV->List Nat
 |.msl r _=>[r]
 |_=>[]
def Vg(d:Option Nat)(s x:AV):Option ET:=
 match s with
 |.v (.slice none 0 0)=>HD (d.map (I8 cx)) (cW x)
 |.slice (.full _) _=>HD (d.map (I8 cx)) (cW x)
 |.slice (.id r _) _=>HD (some r) (cW x)
 |.msl r _=>HD (some r) (cW x)
 |_=>none
def ab(d:Option Nat)(args:List AV):Option ET:=
 match d with
 |some d=>match args with
  |.msl r _::_=>some ([r,Bl d 0],some (r+10000000*Bl d 0))
  |_=>none
 |none=>none
theorem YH{d:Option Nat}{args:List AV}{f:ET}(h:ab d args=some f):∃d' r n l,d=some d'/\args=.msl r n::l/\f=([r,Bl d' 0],some (r+10000000*Bl d' 0)):=by
 unfold ab at h;split at h
 .split at h
  .cases h;exact⟨_,_,_,_,rfl,rfl,rfl⟩
  .cases h
 .cases h
def fO(d:Option Nat)(x:AV):Option ET:=
 match d with
 |some d=>match x with
  |.msl r _=>some ([r,d],some (r+10000000*d))
  |_=>none
 |none=>none
theorem YI{d:Option Nat}{x:AV}{f:ET}(h:fO d x=some f):∃d' r n,d=some d'/\x=.msl r n/\f=([r,d'],some (r+10000000*d')):=by
 unfold fO at h;split at h
 .split at h
  .cases h;exact⟨_,_,_,rfl,rfl,rfl⟩
  .cases h
 .cases h
def fP(args:List AV):Option ET:=match UJ args with | some _=>some ([1000,1001],some 10010001000) | none=>none
def UW:Nat:=99999999999999
def fN(k:Nat)(d:Option Nat)(args:List AV):Option ET:=
 match Nat.beq k 3 with
 |true=>some (kf,some UW)
 |false=>ab d args
def Gp(d:Option Nat)(c:Callee)(t:Nat->AV)(args:List AV):Option ET:=
 match c,args with
 |.builtin .len,[.mref r]=>some ([r],none)
 |.builtin .len,[_]=>some ([],none)
 |.builtin .max,_=>some ([],none)
 |.builtin .min,_=>some ([],none)
 |.builtin .append,[s,x]=>Vg cx d s x
 |.value f,args=>match QW cx.pl.dc d with
  |none=>some (W5 (ev t f)++RS args,none)
  |some 0=>HD (d.map fun d=>Bl d 0) (W5 (ev t f)++RS args)
  |some 1=>match args with |.msl r _::_=>some ([r],some r) |_=>none
  |some (k+2)=>match Nat.beq k 1 with
   |true=>HD (d.map fun d=>Bl d 0) (W5 (ev t f)++RS args)
   |false=>match Nat.beq k 2 with
    |true=>fP args
    |false=>fN k d args
 |_,_=>none
def Ey(o:Oper)(st:St):Option ET:=
 match o.op with
 |.move _ |.pick .. |.nilCheck _ |.unOp .. |.convert .. |.fieldAddr .. |.field .. |.indexAddr .. |.index .. |.extract .. |.build ..=>some ([],none)
 |.binOp _ _ x _ _=>match ev st.t x with |.slice ..=>none |_=>some ([],none)
 |.assign x=>match ev st.t x with |.v (.slice ..)=>none |_=>some ([],none)
 |.load _ p=>match ev st.t p with |.cptr _=>some ([],none) |.ref r _=>some ([r],none) |.eref r ..=>some ([r],none) |_=>none
 |.call c=>Gp cx o.dst c.callee st.t (c.args.toList.map (ev st.t))
 |.alloc e=>match Nat.beq e Wi with |true=>none |false=>HD o.dst []
 |.box _ x=>HD o.dst (W5 (ev st.t x))
 |.buildSlice _ _ ps=>HD (o.dst.map (I8 cx)) (RS (ps.toList.map fun p=>ev st.t p.2))
 |.store _ p x=>match ev st.t p with
  |.ref r _=>match HR cx.pl.frz r with |true=>none |false=>HD (some r) []
  |.eref r ..=>HD (some r) (W5 (ev st.t x))
  |_=>none
 |.slice _ x _ _ mx=>match QW cx.pl.tok o.dst with
  |some _=>fO (o.dst.map (I8 cx)) (ev st.t x)
  |none=>match mx,ev st.t x with
   |none,.msl ..=>none
   |none,_=>some ([],none)
   |some _,.slice ..=>HD o.dst []
   |_,_=>none
 |.makeFunc _ _ cap=>some (RS (cap.toList.map (ev st.t)),none)
 |.mapUpdate _ m _ x=>match ev st.t m with |.mref r=>HD (some r) (W5 (ev st.t x)) |_=>none
 |.makeSlice ..=>HD (o.dst.map (I8 cx)) []
 |.lookup _ m _ _=>match ev st.t m with |.cmap ..=>some ([],none) |.mref r=>some ([r],none) |_=>none
 |.makeMap ..=>HD o.dst []
 |_=>none
def Mp(all:List Oper)(o:Oper)(st:St):Option ET:=
 match o.guard with
 |none=>Ey cx o st
 |some (j,want)=>match Kf all j with
  |none=>none
  |some d=>match st.t d,want with
   |.v (.bool true),true=>Ey cx o st
   |.v (.bool false),false=>Ey cx o st
   |_,_=>some ([],none)
def rY(l:List Nat):Bool:=match l with | []=>true | _=>false
def XD(l:List Nat)(r:Nat):Bool:=bif Nat.beq r UW then rY l else !HR l r&&(Nat.blt r 10000000||(!HR l (r % 10000000)&&!HR l (r / 10000000)))
def Rm(a b:ET):Bool:=
 (match a.2 with | some r=>XD b.1 r | none=>true)&&(match b.2 with | some r=>XD a.1 r | none=>true)
def NU(i:Nat)(D:List Nat):Bool:=o.after.toList.any fun e=>Region.binds .any e&&(Nat.beq e.on i||HR D e.on)
def OK(i:Nat)(D:List Nat)(k:Nat):List Oper->List Nat
 | []=>D
 |o::r=>match NU o i D with
  |true=>OK i (k::D) (k+1) r
  |false=>OK i D (k+1) r
def SV(i:Nat)(D:List Nat)(k:Nat):List Oper->Bool
 | []=>true
 |o::r=>(NU o i D||!HR D k)&&SV i D (k+1) r
def HA(ops:Array Oper)(oi:Oper)(fi:ET)(D:List Nat)(k:Nat):List Oper->List ET->Bool
 |o::r,f::fs=>(HR D k||(oi.apart ops o&&Rm fi f))&&HA ops oi fi D (k+1) r fs
 | [],[]=>true
 |_,_=>false
def KW(ops:Array Oper)(all:List Oper)(k:Nat):List Oper->List ET->Bool
 |o::r,f::fs=>
  let D:=OK k [] 0 all
  (o.after.toList.all fun e=>!Region.binds .any e||Nat.blt e.on k)&&SV k D 0 all&&(D.all fun j=>Nat.blt k j&&Nat.blt j all.length)&&HA ops o f D (k+1) r fs&&KW ops all (k+1) r fs
 | [],[]=>true
 |_,_=>false
def Rn(ops:Array Oper)(fs:List ET):Bool:=Region.noSelect ops&&KW ops ops.toList 0 ops.toList fs
def Wf(cx:Cx)(ops:Array Oper)(l:List Oper)(fs:List ET)(st:St)(K:St->Prop):Prop:=
 match l with
 | []=>Rn ops fs.reverse=true/\K st
 |o::r=>match Mp cx ops.toList o st with
  |some f=>H3 cx true ops.toList o st fun DV=>Wf cx ops r (f::fs) DV K
  |none=>False
def Rs(l:List (Nat×AV))(i:Nat):AV:=match l with | []=>.junk | (j,v)::r=>bif Nat.beq i j then v else Rs r i
structure LS where
 t:List (Nat×AV)
 h:List (Nat×HO)
 hb:Nat->HO
def LS.st(s:LS):St:=⟨Rs s.t,Ae s.h s.hb⟩
def Qr(h:Nat->HO)(r:Nat):Bool:=match h r with | .free=>false | _=>true
def ids0(h:Nat->HO):AV->Bool
 |.slice (.id r _) _=>Qr h r
 |.slice (.ver r _ _) _=>Qr h r
 |.msl r _=>Qr h r
 |.ref r _=>Qr h r
 |.eref r _ _ _ _=>Qr h r
 |.mref r=>Qr h r
 |.agg _ |.tup _ |.clo ..=>false
 |_=>true
def W8(h:Nat->HO):List AV->Bool
 | []=>true
 |a::r=>match ids0 h a with |true=>W8 h r |false=>false
def RT(h:Nat->HO):AV->Bool
 |.agg cs=>W8 h cs
 |.tup cs=>W8 h cs
 |.clo _ cs=>W8 h cs
 |a=>ids0 h a
def PQ(h:Nat->HO):List (Value×AV)->Bool
 | []=>true
 |p::r=>match RT h p.2 with |true=>PQ h r |false=>false
def kX(h:Nat->HO):List AV->Bool
 | []=>true
 |a::r=>match RT h a with |true=>kX h r |false=>false
def W7(h:Nat->HO):HO->Bool
 |.cells cs=>kX h cs
 |.mapU _ BF=>PQ h BF
 |.hol _ _ _ _ a=>RT h a
 |.bld x=>RT h x
 |_=>true
def ui(st:St)(h:Nat->HO):List (Nat×AV)->Prop
 | []=>True
 |(j,a)::r=>(st.t j=a/\RT h a=true)/\ui st h r
def uh(st:St)(h:Nat->HO):List (Nat×HO)->Prop
 | []=>True
 |(j,o)::r=>(st.h j=o/\W7 h o=true)/\uh st h r
def St.le(st:St)(s:LS):Prop:=
 ui st s.st.h s.t/\uh st s.st.h s.h/\(∀j,s.hb j=.free\/(st.h j=s.hb j/\W7 s.st.h (s.hb j)=true)) /\
 match cx.ext with
 |false=>True
 |true=>∀j,1000<=j->j<2000->st.h j≠.free->s.st.h j≠.free
def LJ(ops:Array Oper)(dr:Bool)(st:St)(K:St->Prop):Prop:=
 match dr with
 |false=>Wg cx ops.toList ops.toList st K
 |true=>Wf cx ops ops.toList [] st K
inductive Ex | normal | exit (id:Nat) | ret
def uE(h:Nat->HO)(o k:Nat)(K:(Nat->HO)->Prop):Prop:=
 match h o with
 |.cells cs=>match IC cs k with
  |.msl r n=>match h r with
   |.arr sz es=>n=es.length/\K (Az (Az h r (.tok sz es.length)) o (.cells (Eb cs k (.slice (.id r sz) es))))
   |_=>K h
  |_=>K h
 |_=>K h
def uB(h:Nat->HO)(o k j:Nat)(K:(Nat->HO)->Prop):Prop:=
 match h o with
 |.cells cs=>match IC cs k with
  |.msl r n=>match h r with
   |.arr sz es=>match h j with
    |.free=>n=es.length/\K (Az (Az (Az h r .dead) j (.arr sz es)) o (.cells (Eb cs k (.msl j n))))
    |_=>False
   |_=>False
  |_=>False
 |_=>False
def yG(h:Nat->HO)(o k d:Nat)(K:(Nat->HO)->Prop):Prop:=
 match h o with
 |.cells cs=>match IC cs k with
  |.slice (.ver r sz v) es=>match h r with
   |.var GW v' _=>match h d with
    |.free=>(v=v'/\sz=GW)/\K (Az (Az (Az h r (.vox v)) d (.tok sz es.length)) o (.cells (Eb cs k (.slice (.id d sz) es))))
    |_=>False
   |_=>False
  |_=>K h
 |_=>False
def ut(h:Nat->HO)(o k r:Nat)(K:(Nat->HO)->Prop):Prop:=
 match h o with
 |.cells cs=>match IC cs k with
  |.slice (.id d sz) es=>match h d with
   |.tok GW n=>match h r with
    |.vox v=>(es.length=n/\sz=GW)/\K (Az (Az (Az h d .dead) r (.var sz (v+1) n)) o (.cells (Eb cs k (.slice (.ver r sz (v+1)) es))))
    |_=>False
   |_=>False
  |_=>K h
 |_=>False
def xy(h:Nat->HO)(r:Nat)(K:(Nat->HO)->Prop):Prop:=
 match h r with
 |.free=>K (Az h r (.vox 0))
 |_=>False
def ur(h:Nat->HO)(o k:Nat)(K:(Nat->HO)->Prop):Prop:=
 match h o with
 |.cells cs=>match IC cs k with
  |.mref r=>match h r with
   |.rom sh BF=>K (Az h o (.cells (Eb cs k (.cmap sh BF))))
   |_=>False
  |_=>False
 |_=>False
def yO(h:Nat->HO)(o k j sz:Nat)(K:(Nat->HO)->Prop):Prop:=
 match h o with
 |.cells cs=>match IC cs k with
  |.v (.slice none 0 0)=>match h j with
   |.free=>K (Az (Az h j (.arr sz [])) o (.cells (Eb cs k (.msl j 0))))
   |_=>False
  |_=>False
 |_=>False
def vN(id:Nat)(h:Nat->HO)(K:(Nat->HO)->Prop):Prop:=
 match Gf cx.pl.ak (850000+id)with
 |some v=>K (fS h v)
 |none=>K h
def uq(id:Nat)(h:Nat->HO)(K:(Nat->HO)->Prop):Prop:=
 match Gf cx.pl.ak (800000+id)with
 |some v=>ur h (v % 10000) (v / 10000 % 100) K
 |none=>K h
def sy(id:Nat)(h:Nat->HO)(K:(Nat->HO)->Prop):Prop:=
 match Gf cx.pl.ak (810000+id)with
 |some v=>ur h (v % 10000) (v / 10000 % 100) K
 |none=>K h
def p8(id:Nat)(h:Nat->HO)(K:(Nat->HO)->Prop):Prop:=
 match Gf cx.pl.ak (900000+id)with
 |some v=>yO h (v % 10000) (v / 10000 % 100) (v / 1000000 % 10000) (v / 10000000000) K
 |none=>K h
def wX(h:Nat->HO)(r:Nat)(K:(Nat->HO)->Prop):Prop:=
 match h r with
 |.hol sz es i c (.msl j m)=>match Nat.beq r j with
  |true=>False
  |false=>match h j with
   |.arr bi qs=>m=qs.length/\∃cs,es[i]?=some cs/\c<sz/\K (Az (Az (Az h j (.tok bi qs.length)) j .dead) r (.arr sz (es.set i (over cs c [.slice .none qs]))))
   |_=>False
 |_=>False
def pz(id:Nat)(h:Nat->HO)(K:(Nat->HO)->Prop):Prop:=
 match Gf cx.pl.ak (500000+id)with
 |some v=>yG h (v % 10000) (v / 10000 % 100) (v / 1000000) K
 |none=>match Gf cx.pl.ak (600000+id)with
  |some v=>ut h (v % 10000) (v / 10000 % 100) (v / 1000000) K
  |none=>match Gf cx.pl.ak (700000+id)with
   |some v=>xy h v K
   |none=>match Gf cx.pl.ak (950000+id)with
    |some v=>wX h v K
    |none=>vN cx id h fun h=>uq cx id h fun h=>sy cx id h fun h=>p8 cx id h K
def uC(st:St)(s k:Nat)(K:St->Prop):Prop:=
 match st.t s with
 |.msl r n=>match st.h r with
  |.arr sz es=>match k with
   |0=>n=es.length/\K ⟨IG st.t s (.slice .none es),Az (Az st.h r (.tok sz es.length)) r .dead⟩
   |k+1=>match Nat.beq r (k+1)with
    |true=>K st
    |false=>match st.h (k+1)with
     |.free=>n=es.length/\K ⟨IG st.t s (.msl (k+1) n),Az (Az st.h r .dead) (k+1) (.arr sz es)⟩
     |_=>False
  |_=>K st
 |_=>K st
def qJ(id:Nat)(st:St)(K:St->Prop):Prop:=
 match HR cx.pl.cut id with
 |true=>match Gf cx.pl.ak (100000+id)with
  |none=>match Gf cx.pl.ak (200000+id)with
   |none=>match Gf cx.pl.ak (300000+id)with
    |none=>pz cx id st.h fun h'=>∃s:LS,St.le cx ⟨st.t,h'⟩ s/\K s.st
    |some v=>uB st.h (v % 10000) (v / 10000 % 100) (v / 1000000) fun h'=>∃s:LS,St.le cx ⟨st.t,h'⟩ s/\K s.st
   |some v=>uC st (v % 1000) (v / 1000) fun DV=>∃s:LS,St.le cx DV s/\K s.st
  |some v=>uE st.h (v % 1000) (v / 1000) fun h'=>∃s:LS,St.le cx ⟨st.t,h'⟩ s/\K s.st
 |false=>K st
def Qj(cx:Cx)(c:Code)(Q:Ex->St->Prop)(st:St):Prop:=
 match c with
 |.skip=>Q .normal st
 |.label _=>Q .normal st
 |.region id ops dr=>qJ cx id st fun st=>match cx.pl.dyn with
  | []=>LJ cx ops dr st (Q .normal)
  |_=>∃n,LJ { cx with nid:=n } ops dr st (Q .normal)
 |.seq a b=>Qj cx a (fun e DV=>match e with |.normal=>Qj cx b Q DV |e=>Q e DV) st
 |.cond c a b=>match ev st.t c with
  |.v (.bool true)=>Qj cx a Q st
  |.v (.bool false)=>Qj cx b Q st
  |_=>False
 |.block id c=>Qj cx c (fun e DV=>match e with |.exit j=>(bif Nat.beq j id then Q .normal DV else Q (.exit j) DV) |e=>Q e DV) st
 |.loop c=>∃(α:Type) (I:α->LS) (μ:α->Nat),(∃x,St.le cx st (I x)) /\
   ∀x,Qj cx c (fun e DV=>match e with | .normal=>∃y,μ y<μ x/\St.le cx DV (I y) | e=>Q e DV) (I x).st
 |.exit id=>Q (.exit id) st
 |.ret=>Q .ret st
 |_=>False
def NH:List AV->Nat->AV
 | [],_=>.v undef
 |a::r,n=>match n with |0=>a |n+1=>NH r n
def lD(T:FY)(st:St):List ResultVar->(List AV->Prop)->Prop
 | [],K=>K []
 |.tmp i::r,K=>lD T st r fun l=>K (str st.h (st.t i)::l)
 |.cell a t::r,K=>Iz T st.h t (st.t a) fun v=>lD T st r fun l=>K (str st.h v::l)
def lB(st:St)(rs:List ResultVar)(K:AV->Prop):Prop:=
 lD cx.T ⟨st.t,NS st.h cx.pl.fin⟩ rs fun
  | [v]=>K v
  |vs=>K (.tup vs)
def nY(rs:List ResultVar)(K:AV->Prop)(e:Ex)(st:St):Prop:=
 match e with
 |.normal=>lB cx st rs K
 |.ret=>lB cx st rs K
 |.exit _=>False
def lE(T:FY)(st:St):List ResultVar->(List AV->Prop)->Prop
 | [],K=>K []
 |.tmp i::r,K=>lE T st r fun l=>K (st.t i::l)
 |.cell a t::r,K=>Iz T st.h t (st.t a) fun v=>lE T st r fun l=>K (v::l)
def dn(st:St)(rs:List ResultVar)(σ:Ia)(Q:AV->(Nat->HO)->Prop):Prop:=
 lE cx.T ⟨st.t,NS st.h cx.pl.fin⟩ rs fun
  | [v]=>Q (ren (BY σ) (NS st.h cx.pl.fin) v) (EW σ (NS st.h cx.pl.fin))
  |vs=>Q (ren (BY σ) (NS st.h cx.pl.fin) (.tup vs)) (EW σ (NS st.h cx.pl.fin))
def Wy(rs:List ResultVar)(σ:Ia)(Q:AV->(Nat->HO)->Prop)(e:Ex)(st:St):Prop:=
 match e with
 |.normal=>dn cx st rs σ Q
 |.ret=>dn cx st rs σ Q
 |.exit _=>False
def HC(σ:Ia):List (Nat×HO)->Bool
 | []=>true
 |(i,_)::r=>Nat.ble 1000 i&&Nat.blt i 2000&&(match BY σ i with |some j=>Nat.beq j i |none=>false)&&HC σ r
theorem yN{n m:Nat}{b:Prop}(k:b)(h:n <= m := by exact DB rfl):n <= m /\ b := ⟨h,k⟩
abbrev nzA:AV := .v (.slice none 0 0)
abbrev pC(a c:List Nat):MF := ⟨a,[],[],[],[],[],[],[],[],[],c⟩
abbrev pT(a:List Nat)(b:List (Nat×Nat))(c:List Nat):MF := ⟨a,b,[],[],[],[],[],[],[],[],c⟩
end Go.Eng
