/- Lemmas 4. -/
import Derived.Test.YteaiieomnhbmgaaGreatDoorBA00
import Derived.WalkKit
import Derived.Still
import Derived.RangeFuncSeq
import Derived.OrdersIn
import Derived.TacticsIn
namespace Go.Eng
variable {vs:Array Value}{E:TypeId}(op:BinOp)(f:Nat->Option Nat)(o:Oper)
theorem Wk{p:Prop}(h:p:=by kernel_rfl):p:=h
abbrev CS:=ByteArray
theorem A0a{A:Type}{x:Option A}{a b:A}(h:x=some a)(k:a=b:=by kernel_rfl):x=some b:=h.trans (congrArg some k)
inductive Tk | none | full (sz:Nat) | id (r sz:Nat) | ver (r sz v:Nat)
inductive KS | int (k:IntKind) | str | bool
structure EU where
 agg:Bool
 l:List KS
variable (sh:EU)
inductive AV
 |v (x:Value)
 |slice (tk:Tk) (es:List (List AV))
 |msl (r n:Nat)
 |agg (cs:List AV)
 |tup (vs:List AV)
 |cptr (cs:List AV)
 |ref (r off:Nat)
 |eref (r n sz i off:Nat)
 |mref (r:Nat)
 |cmap (sh:EU) (B1:List (Value×AV))
 |clo (f:Nat) (caps:List AV)
 |junk
abbrev C0:=List (List AV)
variable (x:AV)(K:AV->Prop)
inductive HO
 |free
 |dead
 |cells (cs:List AV)
 |ro (cs:List AV)
 |tok (sz n:Nat)
 |var (sz v n:Nat)
 |vox (v:Nat)
 |arr (sz:Nat) (es:C0)
 |map (sh:EU) (B1:List (Value×AV))
 |mapU (sh:EU) (B1:List (Value×AV))
 |rom (sh:EU) (B1:List (Value×AV))
 |iter (all rem:List (Value×AV)) (Ei:Option (Value×AV))
 |raw (b:Nat) (ob:Obj)
 |hol (sz:Nat) (es:C0) (i c:Nat) (a:AV)
 |bld (x:AV)
 |bbf (n:Nat)
structure St where
 t:Nat->AV
 h:Nat->HO
def Ac:Nat->HO:=fun _=>.free
def AL(h:Nat->HO)(r:Nat)(o:HO):Nat->HO:=fun i=>bif Nat.beq i r then o else h i
def Ka(t:Nat->AV)(d:Nat)(v:AV):Nat->AV:=fun i=>bif Nat.beq i d then v else t i
def St.put(st:St)(d:Option Nat)(v:AV)(h:Nat->HO):St:=
 match d with
 |none=>⟨st.t,h⟩
 |some d=>⟨Ka st.t d v,h⟩
def ev(t:Nat->AV):Operand->AV
 |.tmp i=>t i
 |.const v=>.v v
 |.global g=>.v (.pointer (some ⟨g,0,none⟩))
 |.func f=>.v (.func (.func f) #[] #[])
inductive TD
 |int (k:IntKind) |bool |string |slice (e:Nat) |array (n e:Nat) |struct (fs:List (Nat×Nat)) |ptr (e:Nat) |map (k e:Nat) |func |iface |other
structure TI where
 d:TD
 size:Nat
 bytes:Nat
 zero:Value
 eqok:Bool
def TI.zc(i:TI):List Value:=match i.zero with | .agg cs=>cs.toList | v=>[v]
abbrev GF:=Nat->TI
structure Qz where
 frz:List Nat
 tok:List (Nat×Nat)
 arr:List (Nat×Nat)
 fz:List (Nat×List Nat)
 fin:List Nat
 mku:List Nat
 dyn:List Nat
 tz:List (Nat×(Nat×Nat×Nat×Nat))
 dc:List (Nat×Nat)
 ak:List (Nat×Nat)
 cut:List Nat
def I0(l:List Nat)(n:Nat):Bool:=
 match l with
 | []=>false
 |x::r=>bif Nat.beq x n then true else I0 r n
def GT(l:List (Nat×Nat))(n:Nat):Option Nat:=
 match l with
 | []=>none
 |(x,y)::r=>bif Nat.beq x n then some y else GT r n
def str0(h:Nat->HO):AV->AV
 |.slice _ es=>.slice .none es
 |.ref r off=>match h r with |.ro cs=>.cptr (cs.drop off) |_=>.junk
 |.mref r=>match h r with |.rom sh B1=>.cmap sh B1 |_=>.junk
 |.v x=>.v x
 |.cptr cs=>.cptr cs
 |.cmap s m=>.cmap s m
 |_=>.junk
def str(h:Nat->HO):AV->AV
 |.agg cs=>.agg (cs.map (str0 h))
 |.clo f cs=>.clo f (cs.map (str0 h))
 |a=>str0 h a
def SW(h:Nat->HO)(B1:List (Value×AV)):List (Value×AV):=B1.map fun p=>(p.1,str h p.2)
def mZ(h:Nat->HO)(r:Nat):Nat->HO:=
 match h r with
 |.cells cs=>AL h r (.ro (cs.map (str h)))
 |.map sh B1=>AL h r (.rom sh B1)
 |.mapU sh B1=>AL h r (.rom sh (SW h B1))
 |_=>h
def PJ(h:Nat->HO):List Nat->Nat->HO
 | []=>h
 |r::l=>PJ (mZ h r) l
def vN(l:List (Nat×List Nat))(n:Nat):List Nat:=
 match l with
 | []=>[]
 |(x,y)::r=>bif Nat.beq x n then y else vN r n
def zl(l:List (Nat×(Nat×Nat×Nat×Nat)))(n:Nat):Option (Nat×Nat×Nat×Nat):=
 match l with
 | []=>none
 |(x,y)::r=>bif Nat.beq x n then some y else zl r n
def JX(l:List AV)(n:Nat):AV:=
 match l with
 | []=>.junk
 |x::r=>match n with |0=>x |n+1=>JX r n
def EV(cs:List AV)(o:Nat)(v:AV):List AV:=
 match cs with
 | []=>[]
 |c::cs=>match o with |0=>v::cs |o+1=>c::EV cs o v
def tz1(h:Nat->HO)(r k j sz:Nat):Nat->HO:=
 match h r with
 |.cells cs=>match JX cs k with
  |.v (.slice none 0 0)=>match h j with
   |.free=>AL (AL h j (.tok sz 0)) r (.cells (EV cs k (.slice (.id j sz) [])))
   |_=>h
  |_=>h
 |_=>h
def rsv(h:Nat->HO):AV->AV
 |.ref r off=>match h r with |.ro cs=>.cptr (cs.drop off) |_=>.ref r off
 |.mref r=>match h r with |.rom sh B1=>.cmap sh B1 |_=>.mref r
 |a=>a
def one:AV->Bool
 |.v x=>x.oneCell'
 |.agg _ |.tup _ |.junk=>false
 |_=>true
def GS:List AV->Bool
 | []=>true
 |a::r=>match one a with |true=>GS r |false=>false
def Acs:AV->List AV
 |.agg cs=>cs
 |a=>[a]
def Av(a:Int):Prop:=-9223372036854775808<=a/\a<9223372036854775808
def L8(cs:List AV)(K:AV->Prop):Prop:=
 match cs with
 |a::_=>K a
 | []=>False
def I9(p:Prop)(K:AV->Prop):Prop:=(p->K (.v (.bool true)))/\(¬p->K (.v (.bool false)))
def Mb(T:GF)(t:Nat)(cs:List AV)(K:AV->Prop):Prop:=
 match(T t).d with
 |.struct _=>(T t).size<=cs.length/\K (.agg (cs.take (T t).size))
 |.array _ _=>(T t).size<=cs.length/\K (.agg (cs.take (T t).size))
 |.bool=>L8 cs fun |.v (.bool b)=>(b=true->K (.v (.bool true)))/\(b=false->K (.v (.bool false))) |_=>False
 |.other=>False
 |_=>L8 cs K
def qy:List AV->List AV->Prop
 | [],[]=>True
 |.v (.int _ a)::r,.v (.int _ b)::s=>a=b/\qy r s
 |.v (.string a)::r,.v (.string b)::s=>a=b/\qy r s
 |.v (.bool a)::r,.v (.bool b)::s=>a=b/\qy r s
 |_,_=>False
def y6:IntKind->IntKind->Bool
 |.i64,.i64 |.u8,.u8 |.u32,.u32 |.i32,.i32 |.u64,.u64 |.u16,.u16 |.i16,.i16 |.i8,.i8=>true
 |_,_=>false
def Ol(f:Nat->Option (List KS)):Nat->List (Nat×Nat)->Option (List KS)
 |_,[]=>some []
 |n,(t,o)::r=>match Nat.beq o n with
  |true=>match f t with
   |some a=>match Ol f (n+a.length) r with
    |some b=>some (a++b)
    |none=>none
   |none=>none
  |false=>none
def HQ(T:GF):Nat->Nat->Option (List KS)
 |0,_=>none
 |n+1,t=>match(T t).d with
  |.int k=>match(T t).size with |1=>some [.int k] |_=>none
  |.string=>match(T t).size with |1=>some [.str] |_=>none
  |.bool=>match(T t).size with |1=>some [.bool] |_=>none
  |.struct fs=>match(T t).eqok with
   |true=>match Ol (HQ T n) 0 fs with
    |some l=>match Nat.beq l.length (T t).size with |true=>some l |false=>none
    |none=>none
   |false=>none
  |_=>none
def NZ:KS->Value->Bool
 |.int k,.int k' _=>y6 k k'
 |.str,.string _=>true
 |.bool,.bool _=>true
 |_,_=>false
def bm:List KS->List AV->Bool
 | [],[]=>true
 |k::r,.v x::s=>match NZ k x with |true=>bm r s |false=>false
 |_,_=>false
def yK(T:GF)(t:Nat)(x y:AV)(K:AV->Prop):Prop:=
 match(T t).d with
 |.bool=>match x,y with
  |.v (.bool a),.v (.bool b)=>K (.v (.bool (a == b)))
  |_,_=>False
 |.struct _=>match x,y with
  |.agg xs,.agg ys=>match HQ T 8 t with
   |some l=>match bm l xs with
    |true=>match bm l ys with
     |true=>I9 (qy xs ys) K
     |false=>False
    |false=>False
   |none=>False
  |_,_=>False
 |.slice _=>match x,y with
  |.slice _ es,.v (.slice none 0 0)=>(es≠[]->K (.v (.bool false)))/\(es=[]->K (.v (.bool true))/\K (.v (.bool false)))
  |.v (.slice none 0 0),.v (.slice none 0 0)=>K (.v (.bool true))
  |_,_=>False
 |.ptr _=>match x,y with
  |.v (.pointer none),.v (.pointer none)=>K (.v (.bool true))
  |.cptr _,.v (.pointer none)=>K (.v (.bool false))
  |.ref _ _,.v (.pointer none)=>K (.v (.bool false))
  |.eref _ _ _ _ _,.v (.pointer none)=>K (.v (.bool false))
  |_,_=>False
 |_=>False
def ko:AV->Prop
 |.v (.bool true)=>K (.v (.bool false))
 |.v (.bool false)=>K (.v (.bool true))
 |_=>False
def I8(k:IntKind)(a b:Int):Int:=
 match op with
 |.and=>k.wrap (BitVec.ofInt k.bits a &&& BitVec.ofInt k.bits b).toNat
 |.or=>k.wrap (BitVec.ofInt k.bits a |||BitVec.ofInt k.bits b).toNat
 |_=>k.wrap (BitVec.ofInt k.bits a ^^^ BitVec.ofInt k.bits b).toNat
def Gf(k:IntKind)(a b:Int):Int:=
 match op with
 |.shl=>k.wrap (a*2 ^ min b.toNat k.bits)
 |_=>a.fdiv (2 ^ min b.toNat k.bits)
def Vz(k:IntKind)(a b:Int)(K:AV->Prop):Prop:=
 match op with
 |.shl=>0<=b/\K (.v (.int k (Gf .shl k a b)))
 |.shr=>0<=b/\K (.v (.int k (Gf .shr k a b)))
 |_=>False
def Yc(k:IntKind)(a b:Int)(K:AV->Prop):Prop:=
 match op with
 |.quo=>(0<=a/\0<b/\k.wrap (a / b)=a / b)/\K (.v (.int k (a / b)))
 |.rem=>(0<=a/\0<b)/\K (.v (.int k (a % b)))
 |.and=>K (.v (.int k (I8 .and k a b)))
 |.or=>K (.v (.int k (I8 .or k a b)))
 |.xor=>K (.v (.int k (I8 .xor k a b)))
 |.add=>K (.v (.int k (k.wrap (a+b))))
 |.sub=>K (.v (.int k (k.wrap (a-b))))
 |.mul=>K (.v (.int k (k.wrap (a*b))))
 |op=>Vz op k a b K
def TG(k:IntKind)(a b:Int)(K:AV->Prop):Prop:=
 match k with
 |.i64=>match op with
  |.add=>Av (a+b)/\K (.v (.int .i64 (a+b)))
  |.sub=>Av (a-b)/\K (.v (.int .i64 (a-b)))
  |.mul=>Av (a*b)/\K (.v (.int .i64 (a*b)))
  |.quo=>(0<=a/\0<b/\Av a)/\K (.v (.int .i64 (a / b)))
  |.rem=>(0<=a/\0<b)/\K (.v (.int .i64 (a % b)))
  |op=>Yc op .i64 a b K
 |k=>Yc op k a b K
def TK(T:GF)(op:BinOp)(t:Nat)(x y:AV)(K:AV->Prop):Prop:=
 match x,y with
 |.v (.int k a),.v (.int k' b)=>match y6 k k' with
  |false=>Vz op k a b K
  |true=>match op with
   |.eql=>I9 (a=b) K
   |.neq=>I9 (a≠b) K
   |.lss=>I9 (a<b) K
   |.leq=>I9 (a<=b) K
   |.gtr=>I9 (b<a) K
   |.geq=>I9 (b<=a) K
   |op=>TG op k a b K
 |.v (.string a),.v (.string b)=>match op with
   |.eql=>I9 (a=b) K
   |.neq=>I9 (a≠b) K
   |.lss=>I9 (Op.bytesLess a.toList b.toList=true) K
   |.geq=>I9 (Op.bytesLess a.toList b.toList=false) K
   |.gtr=>I9 (Op.bytesLess b.toList a.toList=true) K
   |.leq=>I9 (Op.bytesLess b.toList a.toList=false) K
   |.add=>((a.size+b.size:Nat):Int)<=9223372036854775807/\K (.v (.string (a++b)))
   |_=>False
 |x,y=>match op with
  |.eql=>yK T t x y K
  |.neq=>yK T t x y (ko K)
  |_=>False
def ZX(T:GF)(op:BinOp)(t:Nat)(Y:Operand)(x y:AV)(K:AV->Prop):Prop:=
 match Y with
 |.const .nilIface=>match x with
  |.v .nilIface=>match(T t).d with
   |.iface=>match op with
    |.eql=>K (.v (.bool true))
    |.neq=>K (.v (.bool false))
    |_=>False
   |_=>False
  |_=>False
 |_=>TK T op t x y K
def WS(T:GF)(s t:Nat)(x:AV)(K:AV->Prop):Prop:=
 match(T s).d,(T t).d,x with
 |.int _,.int .i64,.v (.int _ n)=>Av n/\K (.v (.int .i64 n))
 |.int _,.int k,.v (.int _ n)=>K (.v (.int k (k.wrap n)))
 |.string,.string,.v (.string s)=>K (.v (.string s))
 |.slice e,.string,.slice _ es=>match(T e).d with
  |.int .u8=>∃l:List UInt8,es=l.map (fun b=>[AV.v (.int .u8 b.toNat)])/\K (.v (.string ⟨l.toArray⟩))
  |_=>False
 |_,_,_=>False
def YD(fs:List (Nat×Nat))(n:Nat):Option (Nat×Nat):=
 match fs with
 | []=>none
 |x::r=>match n with |0=>some x |n+1=>YD r n
def Ud(T:GF)(s f:Nat)(x:AV)(K:AV->Prop):Prop:=
 match(T s).d with
 |.struct fs=>match YD fs f with
  |some (t,o)=>match(T t).size with
   |0=>False
   |_+1=>match x with
    |.cptr cs=>K (.cptr (cs.drop o))
    |.ref r off=>K (.ref r (off+o))
    |.eref r n z i off=>K (.eref r n z i (off+o))
    |_=>False
  |none=>False
 |_=>False
def bU(T:GF)(t:Nat)(cs:List AV)(K:AV->Prop):Prop:=Mb T t cs K
def PA(T:GF)(s f:Nat)(x:AV)(K:AV->Prop):Prop:=
 match(T s).d,x with
 |.struct fs,.agg cs=>match YD fs f with
  |some (t,o)=>bU T t (cs.drop o) K
  |none=>False
 |_,_=>False
def JQ(T:GF)(t:Nat)(x ix:AV)(K:AV->Prop):Prop:=
 match(T t).d,ix with
 |.slice e,.v (.int .i64 i)=>match(T e).size with
  |0=>False
  |_+1=>match x with
   |.slice _ es=>∃cs,(0<=i/\es[i.toNat]?=some cs)/\cs.length=(T e).size/\K (.cptr cs)
   |.msl r n=>(0<=i/\i<n)/\K (.eref r n (T e).size i.toNat 0)
   |_=>False
 |.array n e,.v (.int .i64 i)=>match(T e).size with
  |0=>False
  |_+1=>match x with
   |.cptr cs=>(0<=i/\i<n)/\K (.cptr (cs.drop (i.toNat*(T e).size)))
   |.ref r off=>(0<=i/\i<n)/\K (.ref r (off+i.toNat*(T e).size))
   |_=>False
 |_,_=>False
def UH(T:GF)(t:Nat)(x ix:AV)(K:AV->Prop):Prop:=
 match(T t).d,x,ix with
 |.string,.v (.string s),.v (.int _ i)=>∃b:UInt8,(0<=i/\s.data[i.toNat]?=some b)/\K (.v (.int .u8 b.toNat))
 |.array n e,.agg cs,.v (.int .i64 i)=>(0<=i/\i<n)/\bU T e (cs.drop (i.toNat*(T e).size)) K
 |_,_,_=>False
def CU(t:Nat->AV):Option Operand->Option (Option Int)
 |none=>some none
 |some x=>match ev t x with |.v (.int .i64 i)=>some (some i) |_=>none
def over{α:Type}(cs:List α)(o:Nat)(vs:List α):List α:=
 match cs with
 | []=>[]
 |c::cs=>match o with
  |o+1=>c::over cs o vs
  |0=>match vs with
   | []=>c::cs
   |v::vs=>v::over cs 0 vs
structure Gh where
 ρ:Nat->Value
 ln:Nat->Nat
 tk:Nat->Bool
 own:Nat->Option Nat
 S:Nat->Nat->Prop
def Kf:List KS->List Value->Bool
 | [],[]=>true
 |k::r,v::s=>match NZ k v with |true=>Kf r s |false=>false
 |_,_=>false
def Zl(v:Value):Bool:=
 match sh.agg,v with
 |true,.agg cs=>Kf sh.l cs.toList
 |false,v=>Kf sh.l [v]
 |_,_=>false
def Hm(es:Array MapEntry)(ck:Nat)(B1:List (Value×AV)):Prop:=
 es.size=B1.length/\(∀(i:Nat) (kv:Value×AV) (e:MapEntry),B1[i]?=some kv->es[i]?=some e->e.key=kv.1) /\
 (∀kv∈B1,Zl sh kv.1=true)/\(B1.map (·.1)).Nodup/\(∀(i:Nat) (e:MapEntry),es[i]?=some e->e.born<ck) /\
 ∀(i j:Nat) (e e' : MapEntry),es[i]?=some e->es[j]?=some e'->e.born=e'.born->i=j
inductive Ba(g:Gh)(w:World):(Nat->Prop)->AV->Value->Prop
 |v (U:Nat->Prop) (x:Value):Ba g w U (.v x) x
 |junk (U:Nat->Prop) (x:Value):Ba g w U .junk x
 |snil (U:Nat->Prop) (a:Option Addr) (cap:Nat):Ba g w U (.slice .none []) (.slice a 0 cap)
 |slice (U:Nat->Prop) (es:C0) (b off sz cap:Nat) (val:Nat->Nat->Value) (hc:es.length<=cap)
   (hl:∀(i:Nat) (cs:List AV),es[i]?=some cs->cs.length=sz)
   (DN:∀(i:Nat) (cs:List AV) (j:Nat) (av:AV),es[i]?=some cs->cs[j]?=some av ->
    g.S b (off+i*sz+j)/\w.cell? ⟨b,off+i*sz+j,none⟩=some (val i j)/\(val i j).oneCell'=true)
   (En:∀(i:Nat) (cs:List AV) (j:Nat) (av:AV),es[i]?=some cs->cs[j]?=some av->Ba g w (fun _=>False) av (val i j)) :
   Ba g w U (.slice .none es) (.slice (some ⟨b,off,none⟩) es.length cap)
 |tok (U:Nat->Prop) (r sz:Nat) (es:C0) (x:Value) (h:Ba g w U (.slice .none es) x) (hl:∀c∈es,c.length=sz) (hu:U r) (ht:g.tk r=true) (hn:es.length<=g.ln r)
   (hx:es.length=g.ln r->x=g.ρ r):Ba g w U (.slice (.id r sz) es) x
 |ver (U:Nat->Prop) (r sz v:Nat) (es:C0) (x:Value) (h:Ba g w U (.slice .none es) x) (hl:∀c∈es,c.length=sz) (hu:U r) (ht:g.tk r=true) (hn:v<=g.ln r)
   (hx:v=g.ln r->x=g.ρ r):Ba g w U (.slice (.ver r sz v) es) x
 |full (U:Nat->Prop) (sz:Nat) (es:C0) (x:Value) (h:Ba g w U (.slice .none es) x) (hl:∀c∈es,c.length=sz) (hx:∃a,x=.slice a es.length es.length):Ba g w U (.slice (.full sz) es) x
 |msl (U:Nat->Prop) (r n:Nat) (a:Option Addr) (cap:Nat) (hu:U r) (ht:g.tk r=true) (hn:n<=g.ln r) (ha:n=0\/∃b,a=some ⟨b,0,none⟩) (hx:n=g.ln r->.slice a n cap=g.ρ r) :
   Ba g w U (.msl r n) (.slice a n cap)
 |agg (U:Nat->Prop) (cs:List AV) (vs:Array Value) (hs:vs.size=cs.length) (h1:∀(i:Nat) (x:Value),vs[i]?=some x->x.oneCell'=true)
   (h:∀(i:Nat) (av:AV) (x:Value),cs[i]?=some av->vs[i]?=some x->Ba g w U av x):Ba g w U (.agg cs) (.agg vs)
 |tup (U:Nat->Prop) (cs:List AV) (vs:Array Value) (hs:vs.size=cs.length)
   (h:∀(i:Nat) (av:AV) (x:Value),cs[i]?=some av->vs[i]?=some x->Ba g w U av x):Ba g w U (.tup cs) (.tuple vs)
 |cptr (U:Nat->Prop) (cs:List AV) (b off:Nat) (val:Nat->Value)
   (DN:∀(j:Nat) (av:AV),cs[j]?=some av->g.S b (off+j)/\w.cell? ⟨b,off+j,none⟩=some (val j)/\(val j).oneCell'=true)
   (En:∀(j:Nat) (av:AV),cs[j]?=some av->Ba g w (fun _=>False) av (val j)) :
   Ba g w U (.cptr cs) (.pointer (some ⟨b,off,none⟩))
 |ref (U:Nat->Prop) (r off b:Nat) (hu:U r) (ht:g.tk r=false) (hx:g.ρ r=.pointer (some ⟨b,0,none⟩)):Ba g w U (.ref r off) (.pointer (some ⟨b,off,none⟩))
 |eref (U:Nat->Prop) (r n sz i off b cap:Nat) (hu:U r) (ht:g.tk r=true) (hn:i<n/\n<=g.ln r) (hx:n=g.ln r->g.ρ r=.slice (some ⟨b,0,none⟩) n cap) :
   Ba g w U (.eref r n sz i off) (.pointer (some ⟨b,i*sz+off,none⟩))
 |mref (U:Nat->Prop) (r b:Nat) (hu:U r) (ht:g.tk r=false) (hx:g.ρ r=.map (some b)):Ba g w U (.mref r) (.map (some b))
 |cmap (U:Nat->Prop) (sh:EU) (B1:List (Value×AV)) (b:Nat) (es:Array MapEntry) (ck:Nat) (hS:g.S b 0) (hb:w.heap[b]?=some (.map es ck)) (hm:Hm sh es ck B1)
   (h:∀(i:Nat) (kv:Value×AV) (e:MapEntry),B1[i]?=some kv->es[i]?=some e->Ba g w (fun _=>False) kv.2 e.val):Ba g w U (.cmap sh B1) (.map (some b))
 |clo (U:Nat->Prop) (f:Nat) (cs:List AV) (vs:Array Value) (hs:vs.size=cs.length)
   (h:∀(i:Nat) (av:AV) (x:Value),cs[i]?=some av->vs[i]?=some x->Ba g w U av x):Ba g w U (.clo f cs) (.func (.func f) #[] vs)
def HO.live:HO->Prop
 |.free |.dead |.vox _ |.ro _ |.rom _ _=>False
 |_=>True
def AI(h:Nat->HO)(r:Nat):Prop:=h r≠.free
def Fp:Nat->Prop:=fun _=>False
def Cs(g:Gh)(w:World)(U:Nat->Prop)(cs:List AV)(vs:List Value):Prop:=
 vs.length=cs.length/\(∀x∈vs,x.oneCell'=true)/\∀(i:Nat) (av:AV) (x:Value),cs[i]?=some av->vs[i]?=some x->Ba g w U av x
def Pj:List Nat->Code->Bool
 |bs,.block id c=>Pj (id::bs) c
 |bs,.seq a b=>Pj bs a||Pj bs b
 |bs,.cond _ a b=>Pj bs a||Pj bs b
 |bs,.loop c=>Pj bs c
 |bs,.exit id=>!(bs.any fun i=>Nat.beq i id)
 |_,_=>false
def zq:Obj->Bool
 |.loop r=>Pj [] r.body
 |_=>false
def RO(w:World)(b:Nat)(vs:Array Value)(E:TypeId):Prop:=∃f:Nat×Nat,w.heap[b]?=some (.cells vs E f)/\(f=(0,0)\/vs.size<=f.1)
theorem RO.eq{w w' : World}{b:Nat}(h:RO w b vs E)(e:w'.heap[b]?=w.heap[b]?):RO w' b vs E:=by
 obtain⟨f,h1,h2⟩:=h;exact⟨f,e.trans h1,h2⟩
theorem RO.of{w:World}{b:Nat}(h:w.heap[b]?=some (.cells vs E (0,0))):RO w b vs E:=⟨_,h,.inl rfl⟩
def ZY:Nat:=104
def u8T:Nat:=5
def DR(g:Gh)(w:World)(U:Nat->Prop)(r:Nat):HO->Prop
  |.free |.dead=>True
  |.cells cs=>g.tk r=false/\∃b E vs,g.own r=some b/\g.ρ r=.pointer (some ⟨b,0,none⟩)/\w.heap[b]?=some (.cells vs E (0,0))/\Cs g w U cs vs.toList/\∀o,¬g.S b o
  |.ro cs=>g.tk r=false/\∃b,g.ρ r=.pointer (some ⟨b,0,none⟩)/\Ba g w Fp (.cptr cs) (.pointer (some ⟨b,0,none⟩))
  |.tok sz n=>g.tk r=true/\g.ln r=n/\∃a cap,g.ρ r=.slice a n cap/\(n=cap/\g.own r=none \/
      n<=cap/\∃b E vs off,a=some ⟨b,off,none⟩/\g.own r=some b/\RO w b vs E/\vs.size=off+cap*sz/\∀o,g.S b o->o<off+n*sz)
  |.var sz v n=>g.tk r=true/\g.ln r=v/\∃a cap,g.ρ r=.slice a n cap/\(n=cap/\g.own r=none \/
      n<=cap/\∃b E vs off,a=some ⟨b,off,none⟩/\g.own r=some b/\RO w b vs E/\vs.size=off+cap*sz/\∀o,g.S b o->o<off+n*sz)
  |.vox v=>g.tk r=true/\g.ln r=v
  |.arr sz es=>g.tk r=true/\g.ln r=es.length/\(∀cs∈es,cs.length=sz)/\(es=[]/\g.ρ r=.slice none 0 0/\g.own r=none \/
      ∃b cap E vs,g.ρ r=.slice (some ⟨b,0,none⟩) es.length cap/\g.own r=some b/\es.length<=cap/\w.heap[b]?=some (.cells vs E (0,0))/\vs.size=cap*sz /\
        Cs g w Fp es.flatten (vs.toList.take (es.length*sz))/\∀o,¬g.S b o)
  |.map sh B1=>g.tk r=false/\∃b es ck,g.own r=some b/\g.ρ r=.map (some b)/\w.heap[b]?=some (.map es ck)/\Hm sh es ck B1 /\
      (∀(i:Nat) (kv:Value×AV) (e:MapEntry),B1[i]?=some kv->es[i]?=some e->Ba g w Fp kv.2 e.val)/\∀o,¬g.S b o
  |.mapU sh B1=>g.tk r=false/\∃b es ck,g.own r=some b/\g.ρ r=.map (some b)/\w.heap[b]?=some (.map es ck)/\Hm sh es ck B1 /\
      (∀(i:Nat) (kv:Value×AV) (e:MapEntry),B1[i]?=some kv->es[i]?=some e->Ba g w U kv.2 e.val)/\∀o,¬g.S b o
  |.rom sh B1=>g.tk r=false/\∃b,g.ρ r=.map (some b)/\Ba g w Fp (.cmap sh B1) (.map (some b))
  |.iter all rem Ei=>g.tk r=false/\∃b mb KE seen st es ck,g.own r=some b/\g.ρ r=.pointer (some ⟨b,0,none⟩)/\w.heap[b]?=some (.mapIter (some mb) KE seen st) /\
      g.S mb 0/\w.heap[mb]?=some (.map es ck)/\(∃sh,Hm sh es ck all)/\KE=ck/\st=ck /\
      (∀(i:Nat) (kv:Value×AV) (e:MapEntry),all[i]?=some kv->es[i]?=some e->Ba g w Fp kv.2 e.val) /\
      (rem.Nodup/\∀kv∈rem,kv∈all)/\(∀(i:Nat) (kv:Value×AV) (e:MapEntry),all[i]?=some kv->es[i]?=some e->(kv∈rem↔e.born∉seen)) /\
      (match Ei with | none=>True | some kv=>∃(i:Nat) (e:MapEntry),all[i]?=some kv/\es[i]?=some e/\seen.back?=some e.born)/\∀o,¬g.S b o
  |.hol sz es i c a=>g.tk r=true/\g.ln r=es.length/\(∀cs∈es,cs.length=sz)/\∃b cap E vs,g.ρ r=.slice (some ⟨b,0,none⟩) es.length cap/\g.own r=some b/\es.length<=cap/\w.heap[b]?=some (.cells vs E (0,0))/\vs.size=cap*sz /\
        Cs g w Fp es.flatten (vs.toList.take (es.length*sz))/\(∀o,¬g.S b o)/\i*sz+c<es.length*sz/\∃x,vs[i*sz+c]?=some x/\Ba g w U a x
  |.raw b ob=>g.tk r=false/\g.own r=some b/\w.heap[b]?=some ob/\zq ob=true/\∀o,¬g.S b o
  |.bld x=>g.tk r=false/\∃b p v,g.own r=some b/\g.ρ r=.pointer (some ⟨b,0,none⟩)/\w.heap[b]?=some (.cells #[p,v] ZY (0,0))/\(p=.pointer none\/p=.pointer (some ⟨b,0,none⟩))/\Ba g w U x v/\∀o,¬g.S b o
  |.bbf n=>g.tk r=true/\g.ln r=n/\(n=0/\g.ρ r=.slice none 0 0/\g.own r=none\/∃b cap Ei,g.ρ r=.slice (some ⟨b,0,none⟩) n cap/\g.own r=some b/\(0<n/\n<=cap)/\cap<=maxLen/\w.heap[b]?=some (.cells Ei u8T (0,0))/\Ei.size=cap/\∀o,g.S b o->o<n)
def gB:Nat:=0
def m6:List (Nat×Nat×Option Value):=(1,20,none)::(List.range 20).map fun i=>(1,i,some (.int .u64 ((10 ^ i:Nat):Int)))
def X2(g:Gh)(w:World):Prop:=(g.S gB 0/\∃m,w.cell? ⟨gB,0,none⟩=some (.int .i64 m))/\∀x∈m6,g.S x.1 x.2.1/\w.cell? ⟨x.1,x.2.1,none⟩=x.2.2
structure CV(w0:World)(g0:Gh)(h0:Nat->HO)(h:Nat->HO)(g:Gh)(w:World):Prop where
 os:w.os=w0.os
 tape:w.tape=w0.tape
 output:w.output=w0.output
 size:w0.heap.size<=w.heap.size
 frame:∀b,b<w0.heap.size->(∀r,(h0 r).live->g0.own r≠some b)->w.heap[b]?=w0.heap[b]?
 slt:∀b o,g.S b o->b<w.heap.size
 objs:∀r,DR g w (AI h) r (h r)
 inj:∀r r' b,(h r).live->(h r').live->g.own r=some b->g.own r'=some b->r=r'
 loc:∀r b,(h r).live->g.own r=some b->b<w.heap.size/\(w0.heap.size<=b\/∃r',(h0 r').live/\g0.own r'=some b)
 sg:∀b o,g.S b o->g0.S b o\/w0.heap.size<=b\/∃r',(h0 r').live/\g0.own r'=some b
 glob:X2 g w
def Eu(g:Gh)(w:World)(g' : Gh)(w' : World):Prop:=
 ∀b o,g.S b o->g'.S b o/\w'.cell? ⟨b,o,none⟩=w.cell? ⟨b,o,none⟩/\∀es ck,w.heap[b]?=some (.map es ck)->w'.heap[b]?=some (.map es ck)
def KG(g g' : Gh)(U:Nat->Prop):Prop:=
 ∀i,U i->g'.tk i=g.tk i/\g.ln i<=g'.ln i/\(g.tk i=false->g'.ρ i=g.ρ i)/\(g'.ln i=g.ln i->g'.ρ i=g.ρ i)
structure Le(h:Nat->HO)(g:Gh)(w:World)(h' : Nat->HO)(g' : Gh)(w' : World):Prop where
 gh:KG g g' (AI h)
 us:∀i,AI h i->AI h' i
 keeps:Eu g w g' w'
def Fz (P : Program) (f : Nat) : Prop := ∃ fn, P.funcs[f]? = some fn /\ (fn.name == "runtime.NumGoroutine") = false /\ fn.body.isNone = false
def AP(P:Program)(f:Nat)(args:List AV)(h0:Nat->HO)(Q:AV->(Nat->HO)->Prop):Prop:=
 Fz P f/\∀(g:Gh) (w:World) (vals:Array Value),vals.size=args.length->(∀(i:Nat) (av:AV) (x:Value),args[i]?=some av->vals[i]?=some x->Ba g w (AI h0) av x) ->
  CV w g h0 h0 g w ->
  Calls P f vals w fun e w'=>∃v r h' g',e=.returned v/\Q r h'/\Ba g' w' (AI h') r v/\CV w g h0 h' g' w'/\Le h0 g w h' g' w'
def IG(P:Program)(f:Nat)(args:List AV)(res:AV):Prop:=AP P f args Ac fun r h'=>r=res/\h'=Ac
def I6(P:Program)(Y:Gh->World->Prop)(l:Nat)(args:List AV)(h0:Nat->HO)(Q:AV->(Nat->HO)->Prop):Prop:=
 ∀(g:Gh) (w:World) (vals:Array Value),vals.size=args.length->(∀(i:Nat) (av:AV) (x:Value),args[i]?=some av->vals[i]?=some x->Ba g w (AI h0) av x) ->
  CV w g h0 h0 g w->Y g w ->
  YieldAt Fence.wide 0 P l vals w fun e w'=>∃v r h' g',e=.returned v/\Q r h'/\Ba g' w' (AI h') r v/\CV w g h0 h' g' w'/\Le h0 g w h' g' w'
def vA(P:Program)(Y:Gh->World->Prop)(f:Nat)(args:List AV)(h0:Nat->HO)(Q:AV->(Nat->HO)->Prop):Prop:=
 Fz P f/\∀(g:Gh) (w:World) (vals:Array Value),vals.size=args.length->(∀(i:Nat) (av:AV) (x:Value),args[i]?=some av->vals[i]?=some x->Ba g w (AI h0) av x) ->
  CV w g h0 h0 g w->Y g w ->
  Calls P f vals w fun e w'=>∃v r h' g',e=.returned v/\Q r h'/\Ba g' w' (AI h') r v/\CV w g h0 h' g' w'/\Le h0 g w h' g' w'
def F9(P:Program)(Y:Nat->Gh->World->Prop)(F:AV)(args:List AV)(h:Nat->HO)(Q:AV->(Nat->HO)->Prop):Prop:=
 match F with
 |.v (.func (.func f) ⟨[]⟩ ⟨[]⟩)=>AP P f args h Q
 |.clo f caps=>AP P f (args++caps) h Q
 |.v (.func (.yield l) ⟨[]⟩ ⟨[]⟩)=>I6 P (Y l) l args h Q
 |_=>False
def Qy(P:Program)(F:AV)(args:List AV)(res:AV):Prop:=
 match F with
 |.v (.func (.func f) ⟨[]⟩ ⟨[]⟩)=>IG P f args res
 |.clo f caps=>IG P f (args++caps) res
 |_=>False
structure Cx where
 P:Program
 T:GF
 pl:Qz
 ext:Bool
 nid:Nat
 yp:Nat->List (Nat×Nat)->Gh->World->Prop
variable (cx:Cx)
def KL(d:Nat):Nat:=bif I0 cx.pl.dyn d then cx.nid else d
abbrev HK:=AV->(Nat->HO)->Prop
def TE(T:GF)(d:Option Nat)(h:Nat->HO)(e:Nat)(K:HK):Prop:=
 match d with
 |none=>False
 |some d=>match h d with
  |.free=>match(T e).d with
   |.other=>False
   |_=>match Nat.beq e ZY with
    |true=>match h 1001,Nat.beq d 1001,(T e).zc with
     |.free,false,[.pointer none,.slice none 0 0]=>K (.ref d 0) (AL (AL h 1001 (.bbf 0)) d (.bld (.slice (.id 1001 1) [])))
     |_,_,_=>False
    |false=>match GS ((T e).zc.map .v)with
     |true=>K (.ref d 0) (AL h d (.cells ((T e).zc.map .v)))
     |false=>False
  |_=>False
def Hf(n:Nat)(a:AV)(K:List AV->Prop):Prop:=
 match a with
 |.agg cs=>match Nat.beq cs.length n with
  |true=>K cs
  |false=>False
 |a=>match one a with
  |true=>match n with
   |1=>K [a]
   |_=>False
  |false=>False
def je(d:Option Nat)(h:Nat->HO)(e:Nat)(x:AV)(K:HK):Prop:=
 match d with
 |none=>False
 |some d=>match h d with
  |.free=>match(cx.T e).d with
   |.other=>False
   |_=>Hf (cx.T e).size x fun cs=>match I0 cx.pl.frz d with
    |true=>K (.ref d 0) (AL h d (.ro (cs.map (str h))))
    |false=>K (.ref d 0) (AL h d (.cells cs))
  |_=>False
def OT(h:Nat->HO)(t:Nat)(p x:AV)(K:HK):Prop:=
 match(cx.T t).d with
 |.other=>False
 |_=>Hf (cx.T t).size x fun vs=>match p with
  |.ref r off=>match h r with
   |.cells cs=>off+vs.length<=cs.length/\(match I0 cx.pl.frz r with
    |true=>K (.v undef) (AL h r (.ro ((over cs off vs).map (str h))))
    |false=>K (.v undef) (AL h r (.cells (over cs off vs))))
   |_=>False
  |.eref r n sz i off=>match h r with
   |.arr HE es=>match Nat.beq sz HE with
    |true=>n=es.length/\∃cs,es[i]?=some cs/\off+vs.length<=sz/\(match vs with
     | [.msl j m]=>K (.v undef) (AL h r (.hol sz (es.set i (over cs off [.junk])) i off (.msl j m)))
     |_=>K (.v undef) (AL h r (.arr sz (es.set i (over cs off (vs.map (str h)))))))
    |false=>False
   |_=>False
  |_=>False
def JT(T:GF)(h:Nat->HO)(t:Nat)(p:AV)(K:AV->Prop):Prop:=
 match p with
 |.cptr cs=>Mb T t cs K
 |.ref r off=>match h r with
  |.cells cs=>Mb T t (cs.drop off) K
  |.ro cs=>Mb T t (cs.drop off) K
  |_=>False
 |.eref r n sz i off=>match h r with
  |.arr HE es=>match Nat.beq sz HE with
   |true=>n=es.length/\∃cs,es[i]?=some cs/\Mb T t (cs.drop off) K
   |false=>False
  |.hol HE es i' c a=>match Nat.beq sz HE with
   |true=>(n=es.length/\i=i'/\off=c)/\Mb T t [a] K
   |false=>False
  |_=>False
 |_=>False
def K8(pl:Nat->Option (Nat×Nat))(cs:List AV)(t:Nat->AV)(ps:List (Nat×Operand))(K:List AV->Prop):Prop:=
 match ps with
 | []=>K cs
 |(i,x)::r=>match pl i with
  |none=>False
  |some (o,n)=>Hf n (ev t x) fun vs=>match Nat.ble (o+n) cs.length with
   |true=>K8 pl (over cs o vs) t r K
   |false=>False
def Pc(T:GF):List (Nat×Nat)->Bool
 | []=>true
 |(t,_)::r=>match(T t).size with |0=>false |_+1=>Pc T r
def QF(T:GF)(ty:Nat)(t:Nat->AV)(ps:List (Nat×Operand))(K:AV->Prop):Prop:=
 match GS ((T ty).zc.map .v)with
 |false=>False
 |true=>match(T ty).d with
  |.struct fs=>match Pc T fs with
   |false=>False
   |true=>K8 (fun i=>match YD fs i with |some (t,o)=>some (o,(T t).size) |none=>none) ((T ty).zc.map .v) t ps fun cs=>K (.agg cs)
  |.array _ e=>match(T e).size with
   |0=>False
   |_+1=>K8 (fun i=>some (i*(T e).size,(T e).size)) ((T ty).zc.map .v) t ps fun cs=>K (.agg cs)
  |_=>False
def RU(n sz:Nat)(h:Nat->HO)(es:C0)(t:Nat->AV)(ps:List (Nat×Operand))(K:C0->Prop):Prop:=
 match ps with
 | []=>K es
 |(i,x)::r=>match Nat.blt i n with
  |true=>Hf sz (ev t x) fun vs=>RU n sz h (es.set i (vs.map (str h))) t r K
  |false=>False
abbrev Lu(b:CS):C0:=b.data.toList.map fun c=>[AV.v (.int .u8 c.toNat)]
def dz(d:Option Nat)(h:Nat->HO)(s t:Nat)(x:AV)(K:HK):Prop:=
 match(cx.T s).d,(cx.T t).d,x with
 |.string,.slice e,.v (.string b)=>match(cx.T e).d,d with
  |.int .u8,some d=>match h (KL cx d)with
   |.free=>K (.slice (.id (KL cx d) 1) (Lu b)) (AL h (KL cx d) (.tok 1 (Lu b).length))
   |_=>False
  |_,_=>False
 |_,_,_=>WS cx.T s t x fun v=>K v h
def E4(d:Option Nat)(h:Nat->HO)(sz:Nat)(es:C0)(K:HK):Prop:=
 match d with
 |none=>False
 |some d=>match h (KL cx d)with
  |.free=>match GT cx.pl.arr d with
   |some _=>K (.msl (KL cx d) es.length) (AL h (KL cx d) (.arr sz es))
   |none=>K (.slice (.id (KL cx d) sz) es) (AL h (KL cx d) (.tok sz es.length))
  |_=>False
def IJ(d:Option Nat)(h:Nat->HO)(ty n:Nat)(t:Nat->AV)(ps:List (Nat×Operand))(K:HK):Prop:=
 match(cx.T ty).d with
 |.slice e=>match GS ((cx.T e).zc.map .v),Nat.beq (cx.T e).zc.length (cx.T e).size with
  |true,true=>match(cx.T e).size with
   |0=>False
   |_+1=>match Nat.ble (n*(cx.T e).size) 16777216 with
    |true=>RU n (cx.T e).size h (List.replicate n ((cx.T e).zc.map .v)) t ps fun es=>E4 cx d h (cx.T e).size es K
    |false=>False
  |_,_=>False
 |_=>False
def Lc(t:Nat->AV)(h:Nat->HO)(fn:Fn)(first captured:List Operand)(K:AV->Prop):Prop:=
 match fn,first with
 |.func f,[]=>K (.clo f (captured.map fun x=>rsv h (ev t x)))
 |_,_=>False
def Bi(sz:Nat):C0->Prop
 | []=>True
 |c::r=>c.length=sz/\Bi sz r
def LC(h:Nat->HO)(x:AV)(K:C0->Prop):Prop:=
 match x with
 |.slice _ es=>K es
 |.v (.slice none 0 0)=>K []
 |.msl r n=>match h r with
  |.arr _ es=>n=es.length/\K es
  |_=>False
 |_=>False
def Ix(d:Option Nat)(h:Nat->HO)(ty:Nat)(s x:AV)(K:HK):Prop:=
 match(cx.T ty).d with
 |.slice e=>match Nat.beq (cx.T e).zc.length (cx.T e).size with
  |false=>False
  |true=>match(cx.T e).size with
   |0=>False
   |_+1=>LC h x fun es2=>match s with
    |.v (.slice none 0 0)=>(Bi (cx.T e).size es2/\es2.length*(cx.T e).bytes<=140737488355328/\es2.length<=9223372036854775807)/\E4 cx d h (cx.T e).size es2 K
    |.slice (.full HE) es=>match Nat.beq HE (cx.T e).size with
     |true=>(Bi (cx.T e).size es2/\0<es2.length/\(es.length+es2.length)*(cx.T e).bytes<=140737488355328/\es.length+es2.length<=9223372036854775807)/\E4 cx d h (cx.T e).size (es++es2) K
     |false=>False
    |.slice (.id r HE) es=>match h r with
     |.tok sz n=>match Nat.beq sz (cx.T e).size,Nat.beq HE sz with
      |true,true=>(Bi sz es2/\es.length=n/\(es.length+es2.length)*(cx.T e).bytes<=140737488355328/\es.length+es2.length<=9223372036854775807) /\
        K (.slice (.id r sz) (es++es2)) (AL h r (.tok sz (es.length+es2.length)))
      |_,_=>False
     |_=>False
    |.msl r n=>match h r with
     |.arr sz es=>match Nat.beq sz (cx.T e).size with
      |true=>(Bi sz es2/\es.length=n/\(es.length+es2.length)*(cx.T e).bytes<=140737488355328/\es.length+es2.length<=9223372036854775807) /\
        K (.msl r (es.length+es2.length)) (AL h r (.arr sz (es++es2)))
      |false=>False
     |_=>False
    |_=>False
 |_=>False
abbrev Jk:=List (Nat×Nat)
variable (σ:Jk)
inductive zb | pure | rel | gen (σ:Jk) (nn:Nat) | geny (σ:Jk) (nn:Nat)
def Cy(σ:Jk)(n:Nat):Option Nat:=
 match σ with
 | []=>none
 |(i,j)::r=>bif Nat.beq i n then some j else Cy r n
def If(σ:Jk)(n:Nat):Option Nat:=
 match σ with
 | []=>none
 |(i,j)::r=>bif Nat.beq j n then some i else If r n
def Er:Jk->Bool
 | []=>true
 |(i,j)::r=>(match Cy r i,If r j with |none,none=>true |_,_=>false)&&Nat.ble 1000 j&&Nat.blt j 2000&&Er r
def GX:Jk->Bool
 | []=>true
 |(i,j)::r=>(match Cy r i,If r j with |none,none=>true |_,_=>false)&&GX r
def ren0(h:Nat->HO):AV->AV
 |.slice (.id r sz) es=>match f r with |some r'=>.slice (.id r' sz) es |none=>.slice .none es
 |.slice (.ver r sz v) es=>match f r with |some r'=>.slice (.ver r' sz v) es |none=>.slice .none es
 |.msl r n=>match f r with |some r'=>.msl r' n |none=>.junk
 |.ref r off=>match f r with |some r'=>.ref r' off |none=>str0 h (.ref r off)
 |.eref r n sz i off=>match f r with |some r'=>.eref r' n sz i off |none=>.junk
 |.mref r=>match f r with |some r'=>.mref r' |none=>str0 h (.mref r)
 |a=>str0 h a
def ren1(h:Nat->HO):AV->AV
 |.agg cs=>.agg (cs.map (ren0 f h))
 |.clo g cs=>.clo g (cs.map (ren0 f h))
 |a=>ren0 f h a
def ren(h:Nat->HO):AV->AV
 |.tup cs=>.tup (cs.map (ren1 f h))
 |a=>ren1 f h a
def HO.ren(h:Nat->HO):HO->HO
 |.cells cs=>.cells (cs.map (ren1 f h))
 |.mapU sh B1=>.mapU sh (B1.map fun p=>(p.1,ren1 f h p.2))
 |.hol sz es i c a=>.hol sz es i c (ren1 f h a)
 |.bld x=>.bld (ren1 f h x)
 |o=>o
def Ai(l:List (Nat×HO))(hb:Nat->HO)(i:Nat):HO:=match l with | []=>hb i | (j,v)::r=>bif Nat.beq i j then v else Ai r hb i
def Zf(f:Nat->Option Nat)(h:Nat->HO):Jk->List (Nat×HO)
 | []=>[]
 |(i,j)::r=>(j,(h i).ren f h)::Zf f h r
def Fv(h:Nat->HO):Nat->HO:=Ai (Zf (Cy σ) h σ) Ac
def Bz(d k:Nat):Nat:=10000+100*d+k
def Fb(d nn:Nat)(j:Nat):Option Nat:=
 match If σ j with
 |some i=>some i
 |none=>match Nat.ble 2000 j&&Nat.blt j (2000+nn)with |true=>some (Bz d (j-2000)) |false=>none
def D8(d nn:Nat)(h h' : Nat->HO):Nat->HO:=fun i=>
 match Cy σ i with
 |some j=>(h' j).ren (Fb σ d nn) h'
 |none=>match Nat.ble (Bz d 0) i&&Nat.blt i (Bz d nn)with |true=>(h' (2000+(i-Bz d 0))).ren (Fb σ d nn) h' |false=>h i
def D3(h:Nat->HO)(d:Nat):Nat->Bool
 |0=>true
 |k+1=>(match h (Bz d k)with |.free=>true |_=>false)&&D3 h d k
def Di(σ:Jk)(d nn:Nat):Bool:=
 match σ with
 | []=>true
 |(i,_)::r=>!(Nat.ble (Bz d 0) i&&Nat.blt i (Bz d nn))&&Di r d nn
def TH(l:List (Nat×Nat))(d:Option Nat):Option Nat:=match d with | none=>none | some d=>GT l d
def gS:AV->Bool | .tup _=>false | _=>true
def U6:List AV->Bool
 | []=>true
 |a::r=>match gS a with |true=>U6 r |false=>false
def XW:List AV->Option (List Value)
 | []=>some []
 |.v x::r=>match XW r with |some l=>some (x::l) |none=>none
 |_=>none
def SA(k:Nat)(d:Option Nat)(h:Nat->HO)(F:AV)(args:List AV)(K:HK):Prop:=
 match d,F,args with
 |some d,.v (.func (.func f) ⟨[]⟩ ⟨[]⟩),.msl r n::l=>match XW l with
  |some vs=>match h r with
   |.arr sz es=>match k with
    |0=>∃n' FG,AP cx.P f (.msl 1000 n::vs.map .v) (Ai [(1000,.arr sz es)] Ac) (fun r' h'=>r'=.msl 1000 n'/\h'=Ai [(1000,.arr sz FG)] Ac)/\K (.msl r n') (AL h r (.arr sz FG))
    |_+1=>∃n' FG,(D3 h d 1&&Nat.blt r 10000000&&!Nat.beq r (Bz d 0))=true/\AP cx.P f (.msl 1000 n::vs.map .v) (Ai [(1000,.arr sz es)] Ac) (fun r' h'=>r'=.msl 2000 n'/\h'=Ai [(1000,.dead),(2000,.arr sz FG)] Ac) /\
      K (.msl (Bz d 0) n') (AL (AL h r .dead) (Bz d 0) (.arr sz FG))
   |_=>False
  |none=>False
 |_,_,_=>False
def Zp(d:Option Nat)(st:St)(F:AV)(args:List AV)(K:HK):Prop:=
 match d with
 |none=>False
 |some d=>∃sz es,(D3 st.h d 1&&gS F&&U6 args)=true/\F9 cx.P (fun l=>cx.yp l []) (str st.h F) (args.map (str st.h)) Ac (fun r h'=>r=.slice (.id 2000 sz) es/\h'=Ai [(2000,.tok sz es.length)] Ac) /\
   K (.slice (.id (Bz d 0) sz) es) (AL st.h (Bz d 0) (.tok sz es.length))
def VN(d:Option Nat)(st:St)(F:AV)(args:List AV)(K:HK):Prop:=
  match d,F,XW args with
  |some _,.v (.func (.yield l) ⟨[]⟩ ⟨[]⟩),some vs=>match st.h 1000,st.h 1001 with
    |.cells [.slice (.id r sz) es],.tok iv n=>(r=1001/\iv=sz)/\∃v FG n',I6 cx.P (cx.yp l [(1000,1000),(1001,1001)]) l (vs.map .v) (Ai [(1000,.cells [.slice (.id 1001 sz) es]),(1001,.tok sz n)] Ac)
          (fun r h'=>r=.v v/\h'=Ai [(1000,.cells [.slice (.id 1001 sz) FG]),(1001,.tok sz n')] Ac) /\
        K (.v v) (AL (AL st.h 1001 (.tok sz n')) 1000 (.cells [.slice (.id 1001 sz) FG]))
    |_,_=>False
  |_,_,_=>False
def rI:List Nat:=[1000,1001,1002,1003,1004,1005,1006,1007,10900,5]
def m0:AV->Option (Nat×List AV)
 |.v (.func (.func f) ⟨[]⟩ ⟨[]⟩)=>some (f,[])
 |.clo f caps=>some (f,caps)
 |_=>none
def aL(d:Option Nat)(st:St)(F:AV)(args:List AV)(K:HK):Prop:=
 match d,m0 F with
 |some d,some (f,caps)=>∃(σ:Jk) (H0 Hn:List (Nat×HO)) (args' : List AV) (res:AV),
   (∀h2:Nat->HO,(∀r∈rI,h2 r=st.h r)->Fv σ h2=Ai H0 Ac/\args.map (ren (Cy σ) h2)++caps.map (ren0 (Cy σ) h2)=args')/\(Er σ&&Di σ d 0&&σ.all fun p=>I0 rI p.1)=true /\
   AP cx.P f args' (Ai H0 Ac) (fun r h'=>r=res/\h'=Ai Hn Ac)/\K (ren (Fb σ d 0) (Ai Hn Ac) res) (D8 σ d 0 st.h (Ai Hn Ac))
 |_,_=>False
def Sw(k:Nat)(d:Option Nat)(st:St)(F:AV)(args:List AV)(K:HK):Prop:=
 match Nat.beq k 4 with
 |true=>aL cx d st F args K
 |false=>SA cx k d st.h F args K
def Gp(dr:Bool)(d:Option Nat)(st:St)(F:AV)(args:List AV)(K:HK):Prop:=
 match dr with
 |true=>match TH cx.pl.dc d with
  |none=>∃res,Qy cx.P (str st.h F) (args.map (str st.h)) res/\K res st.h
  |some 0=>match d with
   |none=>False
   |some d=>∃n sz es,(D3 st.h d 1&&gS F&&U6 args)=true/\F9 cx.P (fun l=>cx.yp l []) (str st.h F) (args.map (str st.h)) Ac (fun r h'=>r=.msl 2000 n/\h'=Ai [(2000,.arr sz es)] Ac) /\
     K (.msl (Bz d 0) n) (AL st.h (Bz d 0) (.arr sz es))
  |some (k+1)=>match Nat.beq k 2 with
   |true=>Zp cx d st F args K
   |false=>match Nat.beq k 3 with
    |true=>VN cx d st F args K
    |false=>Sw cx k d st F args K
 |false=>∃m:zb,match m with
  |.pure=>∃res,Qy cx.P (str st.h F) (args.map (str st.h)) res/\K res st.h
  |.rel=>F9 cx.P (fun _ _ _=>True) (str st.h F) (args.map (str st.h)) Ac fun r h'=>h'=Ac/\K r st.h
  |.gen σ nn=>match d with
   |none=>False
   |some d=>(Er σ&&D3 st.h d nn&&Di σ d nn)=true /\
     F9 cx.P (fun l=>cx.yp l σ) (ren (Cy σ) st.h F) (args.map (ren (Cy σ) st.h)) (Fv σ st.h) fun r h'=>K (ren (Fb σ d nn) h' r) (D8 σ d nn st.h h')
  |.geny σ nn=>match d with
   |none=>False
   |some d=>(Er σ&&D3 st.h d nn&&Di σ d nn)=true /\
     match ren (Cy σ) st.h F with
     |.clo f caps=>vA cx.P (fun g w=>∀l,cx.yp l σ g w) f (args.map (ren (Cy σ) st.h)++caps) (Fv σ st.h) fun r h'=>K (ren (Fb σ d nn) h' r) (D8 σ d nn st.h h')
     |_=>False
def Zt:List AV->Option (List Value)
 | []=>some []
 |.v x::r=>match Zt r with |some l=>some (x::l) |none=>none
 |_=>none
def xe:AV->Option Value
 |.v x=>some x
 |.agg cs=>match Zt cs with |some l=>some (.agg l.toArray) |none=>none
 |_=>none
def H6(T:GF)(t:Nat):Option EU:=
 match(T t).d with
 |.struct _=>match HQ T 8 t with |some l=>some ⟨true,l⟩ |none=>none
 |_=>match HQ T 1 t with |some l=>some ⟨false,l⟩ |none=>none
def su:KS->KS->Bool
 |.int k,.int k'=>y6 k k'
 |.str,.str=>true
 |.bool,.bool=>true
 |_,_=>false
def UN:List KS->List KS->Bool
 | [],[]=>true
 |a::r,b::s=>match su a b with |true=>UN r s |false=>false
 |_,_=>false
def xO(a b:EU):Bool:=
 match a.agg,b.agg with
 |true,true=>UN a.l b.l
 |false,false=>UN a.l b.l
 |_,_=>false
def KN(T:GF)(ty:Nat)(sh:EU)(k:AV)(K:Value->Prop):Prop:=
 match(T ty).d with
 |.map kt _=>match H6 T kt with
  |some sh'=>match xO sh sh' with
   |true=>match xe k with
    |some kx=>match Zl sh kx with
     |true=>K kx
     |false=>False
    |none=>False
   |false=>False
  |none=>False
 |_=>False
open Classical in
noncomputable def EM(B1:List (Value×AV))(k:Value)(a:AV):List (Value×AV):=
 if ∃a',(k,a')∈B1 then B1.map fun p=>if p.1=k then(k,a)else p else B1++[(k,a)]
def Ld(T:GF)(mku:List Nat)(d:Option Nat)(h:Nat->HO)(ty:Nat)(K:HK):Prop:=
 match d with
 |none=>False
 |some d=>match h d with
  |.free=>match(T ty).d with
   |.map kt _=>match H6 T kt with
    |some sh=>match I0 mku d with
     |true=>K (.mref d) (AL h d (.mapU sh []))
     |false=>K (.mref d) (AL h d (.map sh []))
    |none=>False
   |_=>False
  |_=>False
def Hj(T:GF)(h:Nat->HO)(ty:Nat)(m k x:AV)(K:HK):Prop:=
 match m with
 |.mref r=>match h r with
  |.map sh B1=>KN T ty sh k fun kx=>K (.v undef) (AL h r (.map sh (EM B1 kx (str h x))))
  |.mapU sh B1=>KN T ty sh k fun kx=>K (.v undef) (AL h r (.mapU sh (EM B1 kx x)))
  |_=>False
 |_=>False
def KQ(T:GF)(t:Nat)(K:AV->Prop):Prop:=
 match(T t).d with
 |.other=>False
 |_=>match(T t).zero with
  |.agg cs=>match GS (cs.toList.map .v)with |true=>K (.agg (cs.toList.map .v)) |false=>False
  |z=>K (.v z)
def MO(T:GF)(ty:Nat)(ok:Bool)(B1:List (Value×AV))(kx:Value)(K:AV->Prop):Prop:=
 match(T ty).d with
 |.map _ e=>match ok with
  |true=>(∀a,(kx,a)∈B1->K (.tup [a,.v (.bool true)]))/\((∀a,(kx,a)∉B1)->KQ T e fun z=>K (.tup [z,.v (.bool false)]))
  |false=>(∀a,(kx,a)∈B1->K a)/\((∀a,(kx,a)∉B1)->KQ T e K)
 |_=>False
def MN(T:GF)(ty:Nat)(ok:Bool)(B1:List (Value×AV))(kx:Value)(K:AV->Prop):Prop:=
 match(T ty).d with
 |.map _ e=>match ok with
  |true=>(∃a,((kx,a)∈B1/\∀b,(kx,b)∈B1->b=a)/\K (.tup [a,.v (.bool true)]))\/((∀a,(kx,a)∉B1)/\KQ T e fun z=>K (.tup [z,.v (.bool false)]))
  |false=>(∃a,((kx,a)∈B1/\∀b,(kx,b)∈B1->b=a)/\K a)\/((∀a,(kx,a)∉B1)/\KQ T e K)
 |_=>False
def Nt(T:GF)(h:Nat->HO)(ty:Nat)(m k:AV)(ok:Bool)(K:AV->Prop):Prop:=
 match m with
 |.cmap sh B1=>KN T ty sh k fun kx=>MN T ty ok B1 kx K
 |.mref r=>match h r with
  |.map sh B1=>KN T ty sh k fun kx=>MN T ty ok B1 kx K
  |.mapU sh B1=>KN T ty sh k fun kx=>MN T ty ok B1 kx K
  |.rom sh B1=>KN T ty sh k fun kx=>MN T ty ok B1 kx K
  |_=>False
 |_=>False
def Nu(T:GF)(h:Nat->HO)(ty:Nat)(m k:AV)(ok:Bool)(K:AV->Prop):Prop:=
 match m with
 |.cmap sh B1=>KN T ty sh k fun kx=>MO T ty ok B1 kx K
 |.mref r=>match h r with
  |.map sh B1=>KN T ty sh k fun kx=>MO T ty ok B1 kx K
  |.mapU sh B1=>KN T ty sh k fun kx=>MO T ty ok B1 kx K
  |.rom sh B1=>KN T ty sh k fun kx=>MO T ty ok B1 kx K
  |_=>False
 |_=>False
def fh(d:Option Nat)(h:Nat->HO)(x:AV)(K:HK):Prop:=
 match d with
 |none=>False
 |some d=>match h d with
  |.free=>match x with
   |.cmap _ B1=>K (.ref d 0) (AL h d (.iter B1 B1 none))
   |.mref r=>match h r with
    |.rom _ B1=>K (.ref d 0) (AL h d (.iter B1 B1 none))
    |.map sh B1=>K (.ref d 0) (AL (AL h r (.rom sh B1)) d (.iter B1 B1 none))
    |_=>False
   |_=>False
  |_=>False
def oE(h:Nat->HO)(x:AV)(K:HK):Prop:=
 match x with
 |.ref r 0=>match h r with
  |.iter all rem _=>(rem=[]->K (.tup [.v (.bool false)]) h) /\
    (∀kv Mq,rem.Perm (kv::Mq)->K (.tup [.v (.bool true),.v kv.1,kv.2]) (AL h r (.iter all Mq (some kv))))
  |_=>False
 |_=>False
def dB(h:Nat->HO)(x:AV)(K:AV->Prop):Prop:=
 match x with
 |.ref r 0=>match h r with
  |.iter _ _ (some kv)=>K (.tup [.v kv.1,kv.2])
  |_=>False
 |_=>False
def Sg(T:GF)(t:Nat)(h:Nat->HO)(x:AV)(K:AV->Prop):Prop:=
 match(T t).d with
 |.slice _=>match x with
  |.slice _ es=>K (.v (.int .i64 es.length))
  |.msl _ n=>K (.v (.int .i64 n))
  |.v (.slice none 0 0)=>K (.v (.int .i64 0))
  |_=>False
 |.string=>match x with
  |.v (.string s)=>K (.v (.int .i64 s.size))
  |_=>False
 |.map _ _=>match x with
  |.cmap _ B1=>K (.v (.int .i64 B1.length))
  |.mref r=>match h r with
   |.map _ B1=>K (.v (.int .i64 B1.length))
   |.mapU _ B1=>K (.v (.int .i64 B1.length))
   |.rom _ B1=>K (.v (.int .i64 B1.length))
   |_=>False
  |_=>False
 |_=>False
def Iu(d:Option Nat)(h:Nat->HO)(ty:Nat)(x:AV)(lo hi mx:Option (Option Int))(K:HK):Prop:=
 match lo,hi,mx with
 |some lo,some hi,some mx=>match(cx.T ty).d with
  |.string=>match mx,x with
   |none,.v (.string s)=>(0<=lo.getD 0/\lo.getD 0<=hi.getD s.size/\hi.getD s.size<=s.size)/\K (.v (.string (s.extract (lo.getD 0).toNat (hi.getD s.size).toNat))) h
   |_,_=>False
  |.slice e=>match(cx.T e).size with
   |0=>False
   |_+1=>match x with
    |.slice _ es=>match mx with
     |none=>(0<=lo.getD 0/\lo.getD 0<=hi.getD es.length/\hi.getD es.length<=es.length) /\
       (∀cs∈es,cs.length=(cx.T e).size)/\K (.slice .none ((es.take (hi.getD es.length).toNat).drop (lo.getD 0).toNat)) h
     |some m=>match d,hi with
      |some d,some hi=>match GT cx.pl.arr d with
       |some _=>(0<=lo.getD 0/\lo.getD 0<=hi/\m=hi/\hi<=es.length)/\(∀cs∈es,cs.length=(cx.T e).size) /\
         K (.slice (.full (cx.T e).size) ((es.take hi.toNat).drop (lo.getD 0).toNat)) h
       |none=>match h d with
        |.free=>(0<=lo.getD 0/\lo.getD 0<=hi/\m=hi/\hi<=es.length)/\(∀cs∈es,cs.length=(cx.T e).size) /\
          K (.slice (.id d (cx.T e).size) ((es.take hi.toNat).drop (lo.getD 0).toNat)) (AL h d (.tok (cx.T e).size (hi.toNat-(lo.getD 0).toNat)))
        |_=>False
      |_,_=>False
    |.v (.slice none 0 0)=>(lo.getD 0=0/\hi.getD 0=0/\mx.getD 0=0)/\(mx=none\/hi≠none)/\K (.v (.slice none 0 0)) h
    |.msl r n=>match h r with
     |.arr sz es=>match Nat.beq sz (cx.T e).size with
      |true=>(n=es.length/\0<=lo.getD 0/\lo.getD 0<=hi.getD es.length/\hi.getD es.length<=es.length/\(mx=none\/(mx=hi/\hi≠none))) /\
        K (.slice .none ((es.take (hi.getD es.length).toNat).drop (lo.getD 0).toNat)) (AL h r .dead)
      |false=>False
     |_=>False
    |_=>False
  |_=>False
 |_,_,_=>False
def Vn(d:Option Nat)(h:Nat->HO)(ty:Nat)(x:AV)(lo:Option (Option Int))(hi mx:Option Operand)(K:HK):Prop:=
 match d,lo,hi,mx with
 |some d,some (some lo),none,none=>match(cx.T ty).d with
  |.slice e=>match(cx.T e).size with
   |0=>False
   |_+1=>match x with
    |.slice (.id r sz) es=>match h r with
     |.tok HE n=>match h (KL cx d)with
      |.free=>match Nat.beq HE sz,Nat.beq sz (cx.T e).size with
       |true,true=>(es.length=n/\0<=lo/\lo<=es.length)/\K (.slice (.id (KL cx d) sz) (es.drop lo.toNat)) (AL (AL h r .dead) (KL cx d) (.tok sz (es.drop lo.toNat).length))
       |_,_=>False
      |_=>False
     |_=>False
    |_=>False
  |_=>False
 |_,_,_,_=>False
def pe(d:Option Nat)(h:Nat->HO)(ty:Nat)(x:AV)(hi:Option (Option Int))(K:HK):Prop:=
 match d,hi with
 |some d,some (some hi)=>match(cx.T ty).d with
  |.slice e=>match(cx.T e).size with
   |0=>False
   |_+1=>match x with
    |.msl r n=>match h r with
     |.arr sz es=>match h (KL cx d)with
      |.free=>match Nat.beq sz (cx.T e).size,Nat.blt r 10000000&&Nat.blt 0 (KL cx d)with
       |true,true=>(n=es.length/\0<=hi/\hi<=es.length)/\K (.msl (KL cx d) hi.toNat) (AL (AL h r .dead) (KL cx d) (.arr sz (es.take hi.toNat)))
       |_,_=>False
      |_=>False
     |_=>False
    |_=>False
  |_=>False
 |_,_=>False
def Vi(d:Option Nat)(h:Nat->HO)(ty:Nat)(x:AV)(lo:Option Operand)(hi:Option (Option Int))(mx:Option Operand)(K:HK):Prop:=
 match lo,mx with
 |none,none=>pe cx d h ty x hi K
 |_,_=>False
def df(T:GF)(h:Nat->HO)(ty:Nat)(x:AV)(hi mx:Option Operand)(K:AV->Prop):Prop:=
 match hi,mx,(T ty).d,x with
 |none,none,.array n e,.ref r 0=>match(T e).size,h r with
  |1,.ro cs=>n=cs.length/\K (.slice .none (cs.map fun c=>[c]))
  |_,_=>False
 |_,_,_,_=>False
def pm(d:Option Nat)(h:Nat->HO)(ty:Nat)(x:AV)(t:Nat->AV)(lo hi mx:Option Operand)(K:HK):Prop:=
 match lo with
 |none=>match(cx.T ty).d with
  |.array _ _=>df cx.T h ty x hi mx fun v=>K v h
  |_=>Vi cx d h ty x none (CU t hi) mx K
 |some lo=>Vn cx d h ty x (CU t (some lo)) hi mx K
def unT:AV->AV
 |.slice _ es=>.slice .none es
 |a=>a
def Pg(d:Option Nat)(h:Nat->HO)(x:AV)(K:HK):Prop:=
 match d with
 |none=>K x h
 |some d=>match GT cx.pl.tok d with
  |some sz=>match Nat.beq sz 0 with
   |true=>K (unT x) h
   |false=>match x with
    |.v (.slice none 0 0)=>match h d with
     |.free=>K (.slice (.id d sz) []) (AL h d (.tok sz 0))
     |_=>False
    |x=>K x h
  |none=>match GT cx.pl.arr d with
   |some sz=>match x with
    |.v (.slice none 0 0)=>match h d with
     |.free=>K (.msl d 0) (AL h d (.arr sz []))
     |_=>False
    |x=>K x h
   |none=>K x h
def sR(l:List AV)(n:Nat):Option AV:=
 match l with
 | []=>none
 |x::r=>match n with |0=>some x |n+1=>sR r n
def MK(i:Nat)(K:AV->Prop):Prop:=
 match x with
 |.tup vs=>match sR vs i with
  |some a=>K a
  |none=>False
 |_=>False
def Lh:Prop:=
 match x with
 |.ref r o=>K (.ref r o)
 |.eref r n z i o=>K (.eref r n z i o)
 |.cptr cs=>K (.cptr cs)
 |.clo f cs=>K (.clo f cs)
 |.v (.func (.func f) a b)=>K (.v (.func (.func f) a b))
 |_=>False
def bX(c a b:AV)(K:AV->Prop):Prop:=
 match c with
 |.v (.bool true)=>K a
 |.v (.bool false)=>K b
 |_=>False
def sI(f:Int->Int->Int)(x y:AV)(K:AV->Prop):Prop:=
 match x,y with
 |.v (.int k a),.v (.int k' b)=>match y6 k k' with
  |true=>K (.v (.int k (f a b)))
  |false=>False
 |_,_=>False
def JU(d:Option Nat)(h:Nat->HO)(ty:Nat)(len cap:AV)(K:HK):Prop:=
 match(cx.T ty).d,len,cap with
 |.slice e,.v (.int .i64 n),.v (.int .i64 c)=>match GS ((cx.T e).zc.map .v)with
  |true=>match Nat.beq (cx.T e).zc.length (cx.T e).size with
   |true=>match(cx.T e).size with
    |0=>False
    |_+1=>(0<=n/\n<=c/\c*(cx.T e).bytes<=140737488355328/\c<=9223372036854775807)/\E4 cx d h (cx.T e).size (List.replicate n.toNat ((cx.T e).zc.map .v)) K
   |false=>False
  |false=>False
 |_,_,_=>False
def cw(op:UnOp)(x:AV)(K:AV->Prop):Prop:=
 match op,x with
 |.not,x=>ko K x
 |.neg,.v (.int .i64 a)=>Av (-a)/\K (.v (.int .i64 (-a)))
 |.xor,.v (.int k a)=>K (.v (.int k (I8 .xor k (if k.signed then -1 else k.max) a)))
 |_,_=>False
def FY(d:Option Nat)(h:Nat->HO)(b:Builtin)(G7:List Nat)(args:List AV)(K:HK):Prop:=
 match b,args,G7 with
 |.len,[x],[t]=>Sg cx.T t h x fun v=>K v h
 |.append,[s,x],[t,t']=>match Nat.beq t t' with
  |true=>Ix cx d h t s x K
  |false=>False
 |.max,[x,y],_=>sI max x y fun v=>K v h
 |.min,[x,y],_=>sI min x y fun v=>K v h
 |_,_,_=>False
def FS(dr:Bool)(o:Oper)(st:St)(K:HK):Prop:=
 match o.op with
 |.move x=>K (ev st.t x) st.h
 |.assign x=>Pg cx o.dst st.h (ev st.t x) K
 |.pick c a b=>bX (ev st.t c) (ev st.t a) (ev st.t b) fun v=>K v st.h
 |.alloc e=>TE cx.T o.dst st.h e K
 |.box e x=>je cx o.dst st.h e (ev st.t x) K
 |.build ty ps=>QF cx.T ty st.t ps.toList fun v=>K v st.h
 |.buildSlice ty n ps=>IJ cx o.dst st.h ty n st.t ps.toList K
 |.insert ty m k x=>Hj cx.T st.h ty (ev st.t m) (ev st.t k) (ev st.t x) K
 |.load ty x=>JT cx.T st.h ty (ev st.t x) fun v=>K v st.h
 |.store ty p x=>OT cx st.h ty (ev st.t p) (ev st.t x) K
 |.nilCheck x=>Lh (ev st.t x) fun v=>K v st.h
 |.binOp op ty x y _=>ZX cx.T op ty y (ev st.t x) (ev st.t y) fun v=>K v st.h
 |.unOp op _ x=>cw op (ev st.t x) fun v=>K v st.h
 |.convert s ty x=>match dr with
  |true=>WS cx.T s ty (ev st.t x) fun v=>K v st.h
  |false=>dz cx o.dst st.h s ty (ev st.t x) K
 |.makeFunc fn first cap=>Lc st.t st.h fn first.toList cap.toList fun v=>K v st.h
 |.makeMap ty none=>Ld cx.T cx.pl.mku o.dst st.h ty K
 |.makeSlice ty n c=>JU cx o.dst st.h ty (ev st.t n) (ev st.t c) K
 |.slice ty x lo hi mx=>match dr with
  |true=>match TH cx.pl.tok o.dst with
   |none=>Iu cx o.dst st.h ty (ev st.t x) (CU st.t lo) (CU st.t hi) (CU st.t mx) K
   |some _=>Vi cx o.dst st.h ty (ev st.t x) lo (CU st.t hi) mx K
  |false=>match TH cx.pl.tok o.dst with
   |none=>Iu cx o.dst st.h ty (ev st.t x) (CU st.t lo) (CU st.t hi) (CU st.t mx) K
   |some _=>pm cx o.dst st.h ty (ev st.t x) st.t lo hi mx K
 |.fieldAddr s x f=>Ud cx.T s f (ev st.t x) fun v=>K v st.h
 |.field s x f=>PA cx.T s f (ev st.t x) fun v=>K v st.h
 |.indexAddr ty x ix=>JQ cx.T ty (ev st.t x) (ev st.t ix) fun v=>K v st.h
 |.index ty x ix=>UH cx.T ty (ev st.t x) (ev st.t ix) fun v=>K v st.h
 |.lookup ty x ix ok=>match dr with
  |true=>Nt cx.T st.h ty (ev st.t x) (ev st.t ix) ok fun v=>K v st.h
  |false=>Nu cx.T st.h ty (ev st.t x) (ev st.t ix) ok fun v=>K v st.h
 |.mapUpdate ty m k x=>Hj cx.T st.h ty (ev st.t m) (ev st.t k) (ev st.t x) K
 |.range ty x=>match(cx.T ty).d with |.map _ _=>fh o.dst st.h (ev st.t x) K |_=>False
 |.next it false=>oE st.h (ev st.t it) K
 |.entry it=>dB st.h (ev st.t it) fun v=>K v st.h
 |.extract x i=>MK (ev st.t x) i fun v=>K v st.h
 |.call c=>match c.callee with
  |.builtin b=>FY cx o.dst st.h b c.argTypes.toList (c.args.toList.map (ev st.t)) K
  |.value f=>Gp cx dr o.dst st (ev st.t f) (c.args.toList.map (ev st.t)) K
  |_=>False
 |_=>False
def LP(ops:List Oper)(j:Nat):Option Nat:=match ops with | []=>none | o::r=>match j with | 0=>o.dst | j+1=>LP r j
def pf(o:Oper)(st:St):St:=
 match o.dst with
 |none=>st
 |some d=>match zl cx.pl.tz d with
  |some (r,k,j,sz)=>⟨st.t,tz1 st.h r k j sz⟩
  |none=>match vN cx.pl.fz d with
   | []=>st
   |l=>⟨st.t,PJ st.h l⟩
def akK(o:Oper)(st:St)(K:St->Prop):Prop:=
 match o.dst with
 |none=>K st
 |some d=>match GT cx.pl.ak d with
  |none=>K st
  |some s=>match st.t s with
   |.msl r n=>match st.h r with
    |.arr sz es=>n=es.length/\K ⟨Ka st.t s (.slice (.id r sz) es),AL st.h r (.tok sz es.length)⟩
    |_=>K st
   |_=>K st
def lQ(dr:Bool)(o:Oper)(st:St)(K:St->Prop):Prop:=
 match dr with
 |true=>FS cx true o st fun v h=>K (st.put o.dst v h)
 |false=>akK cx o (pf cx o st) fun EC=>FS cx false o EC fun v h=>K (EC.put o.dst v h)
def I7(dr:Bool)(all:List Oper)(o:Oper)(st:St)(K:St->Prop):Prop:=
 match o.guard with
 |none=>lQ cx dr o st K
 |some (j,want)=>match LP all j with
  |none=>False
  |some d=>match st.t d,want with
   |.v (.bool true),true=>lQ cx dr o st K
   |.v (.bool false),false=>lQ cx dr o st K
   |.v (.bool true),false=>K (st.put o.dst (.v undef) st.h)
   |.v (.bool false),true=>K (st.put o.dst (.v undef) st.h)
   |.v (.tuple _),_=>K (st.put o.dst (.v undef) st.h)
   |_,_=>False
def bj(o2:Oper):Bool:=
 match o2.op with
 |.call c=>match c.callee with
  |.builtin .clear=>match o.op with
   |.slice ty _ (some _) none none=>match o.dst,o2.dst,c.args.toList,c.argTypes.toList,o.guard,o2.guard with
    |some d,none,[.tmp d'],[ty'],none,none=>Nat.beq d d'&&Nat.beq ty ty'
    |_,_,_,_,_,_=>false
   |_=>false
  |_=>false
 |_=>false
def zL(d:Nat)(st:St)(r i sz:Nat)(es:C0)(z:List Value)(K:St->Prop):Prop:=
 match z.all Value.oneCell' with
 |true=>K ⟨Ka st.t d .junk,AL st.h r (.arr sz (es.take i++List.replicate (es.length-i) (z.map AV.v)))⟩
 |false=>False
def rx(o:Oper)(st:St)(K:St->Prop):Prop:=
 match o.op with
 |.slice ty x (some lo) none none=>match o.dst with
  |some d=>match(cx.T ty).d with
   |.slice e=>match ev st.t x with
    |.msl r n=>match ev st.t lo with
     |.v (.int .i64 i)=>match st.h r with
      |.arr sz es=>match Nat.beq sz (cx.T e).size with
       |true=>match(cx.T e).size with
        |0=>False
        |_+1=>match Nat.beq (cx.T e).zc.length sz with
         |true=>(n=es.length/\0<=i/\i<=es.length)/\zL d st r i.toNat sz es (cx.T e).zc K
         |false=>False
       |false=>False
      |_=>False
     |_=>False
    |_=>False
   |_=>False
  |none=>False
 |_=>False
def ZU(cx:Cx)(all l:List Oper)(st:St)(K:St->Prop):Prop:=
 match l with
 | []=>K st
 | [o]=>I7 cx false all o st K
 |o::o2::r=>match bj o o2 with
  |true=>rx cx o st fun EC=>ZU cx all r EC K
  |false=>I7 cx false all o st fun EC=>ZU cx all (o2::r) EC K
def aX:AV->List Nat
 |.ref r _=>[r]
 |.mref r=>[r]
 |_=>[]
def se:List AV->List Nat
 | []=>[]
 |a::r=>aX a++se r
def YS:AV->List Nat
 |.agg cs=>se cs
 |.clo _ cs=>se cs
 |a=>aX a
def w9:List AV->List Nat
 | []=>[]
 |a::r=>YS a++w9 r
def aW:AV->List Nat
 |.agg cs=>w9 cs
 |a=>YS a
def UC:List AV->List Nat
 | []=>[]
 |a::r=>aW a++UC r
abbrev Ft:=List Nat×Option Nat
def IM(d:Option Nat)(l:List Nat):Option Ft:=match d with | some d=>some (d::l,some d) | none=>none
def kc:AV->List Nat
 |.msl r _=>[r]
 |_=>[]
def YE(d:Option Nat)(s x:AV):Option Ft:=
 match s with
 |.v (.slice none 0 0)=>IM (d.map (KL cx)) (kc x)
 |.slice (.full _) _=>IM (d.map (KL cx)) (kc x)
 |.slice (.id r _) _=>IM (some r) (kc x)
 |.msl r _=>IM (some r) (kc x)
 |_=>none
def gn(d:Option Nat)(args:List AV):Option Ft:=
 match d with
 |some d=>match args with
  |.msl r _::_=>some ([r,Bz d 0],some (r+10000000*Bz d 0))
  |_=>none
 |none=>none
theorem dF{d:Option Nat}{args:List AV}{f:Ft}(h:gn d args=some f):∃d' r n l,d=some d'/\args=.msl r n::l/\f=([r,Bz d' 0],some (r+10000000*Bz d' 0)):=by
 unfold gn at h;split at h
 .split at h
  .cases h;exact⟨_,_,_,_,rfl,rfl,rfl⟩
  .cases h
 .cases h
def mU(d:Option Nat)(x:AV):Option Ft:=
 match d with
 |some d=>match x with
  |.msl r _=>some ([r,d],some (r+10000000*d))
  |_=>none
 |none=>none
theorem dG{d:Option Nat}{x:AV}{f:Ft}(h:mU d x=some f):∃d' r n,d=some d'/\x=.msl r n/\f=([r,d'],some (r+10000000*d')):=by
 unfold mU at h;split at h
 .split at h
  .cases h;exact⟨_,_,_,rfl,rfl,rfl⟩
  .cases h
 .cases h
def mV(args:List AV):Option Ft:=match XW args with | some _=>some ([1000,1001],some 10010001000) | none=>none
def Ya:Nat:=99999999999999
def mT(k:Nat)(d:Option Nat)(args:List AV):Option Ft:=
 match Nat.beq k 3 with
 |true=>some (rI,some Ya)
 |false=>gn d args
def G5(d:Option Nat)(c:Callee)(t:Nat->AV)(args:List AV):Option Ft:=
 match c,args with
 |.builtin .len,[.mref r]=>some ([r],none)
 |.builtin .len,[_]=>some ([],none)
 |.builtin .max,_=>some ([],none)
 |.builtin .min,_=>some ([],none)
 |.builtin .append,[s,x]=>YE cx d s x
 |.value f,args=>match TH cx.pl.dc d with
  |none=>some (aW (ev t f)++UC args,none)
  |some 0=>IM (d.map fun d=>Bz d 0) (aW (ev t f)++UC args)
  |some 1=>match args with |.msl r _::_=>some ([r],some r) |_=>none
  |some (k+2)=>match Nat.beq k 1 with
   |true=>IM (d.map fun d=>Bz d 0) (aW (ev t f)++UC args)
   |false=>match Nat.beq k 2 with
    |true=>mV args
    |false=>mT k d args
 |_,_=>none
def E9(o:Oper)(st:St):Option Ft:=
 match o.op with
 |.move _ |.pick .. |.nilCheck _ |.unOp .. |.convert .. |.fieldAddr .. |.field .. |.indexAddr .. |.index .. |.extract .. |.build ..=>some ([],none)
 |.binOp _ _ x _ _=>match ev st.t x with |.slice ..=>none |_=>some ([],none)
 |.assign x=>match ev st.t x with |.v (.slice ..)=>none |_=>some ([],none)
 |.load _ p=>match ev st.t p with |.cptr _=>some ([],none) |.ref r _=>some ([r],none) |.eref r ..=>some ([r],none) |_=>none
 |.call c=>G5 cx o.dst c.callee st.t (c.args.toList.map (ev st.t))
 |.alloc e=>match Nat.beq e ZY with |true=>none |false=>IM o.dst []
 |.box _ x=>IM o.dst (aW (ev st.t x))
 |.buildSlice _ _ ps=>IM (o.dst.map (KL cx)) (UC (ps.toList.map fun p=>ev st.t p.2))
 |.store _ p x=>match ev st.t p with
  |.ref r _=>match I0 cx.pl.frz r with |true=>none |false=>IM (some r) []
  |.eref r ..=>IM (some r) (aW (ev st.t x))
  |_=>none
 |.slice _ x _ _ mx=>match TH cx.pl.tok o.dst with
  |some _=>mU (o.dst.map (KL cx)) (ev st.t x)
  |none=>match mx,ev st.t x with
   |none,.msl ..=>none
   |none,_=>some ([],none)
   |some _,.slice ..=>IM o.dst []
   |_,_=>none
 |.makeFunc _ _ cap=>some (UC (cap.toList.map (ev st.t)),none)
 |.mapUpdate _ m _ x=>match ev st.t m with |.mref r=>IM (some r) (aW (ev st.t x)) |_=>none
 |.makeSlice ..=>IM (o.dst.map (KL cx)) []
 |.lookup _ m _ _=>match ev st.t m with |.cmap ..=>some ([],none) |.mref r=>some ([r],none) |_=>none
 |.makeMap ..=>IM o.dst []
 |_=>none
def NX(all:List Oper)(o:Oper)(st:St):Option Ft:=
 match o.guard with
 |none=>E9 cx o st
 |some (j,want)=>match LP all j with
  |none=>none
  |some d=>match st.t d,want with
   |.v (.bool true),true=>E9 cx o st
   |.v (.bool false),false=>E9 cx o st
   |_,_=>some ([],none)
def AaR(l:List Nat):Bool:=match l with | []=>true | _=>false
def bO(l:List Nat)(r:Nat):Bool:=bif Nat.beq r Ya then AaR l else !I0 l r&&(Nat.blt r 10000000||(!I0 l (r % 10000000)&&!I0 l (r / 10000000)))
def T4(a b:Ft):Bool:=
 (match a.2 with | some r=>bO b.1 r | none=>true)&&(match b.2 with | some r=>bO a.1 r | none=>true)
def PK(i:Nat)(D:List Nat):Bool:=o.after.toList.any fun e=>Region.binds .any e&&(Nat.beq e.on i||I0 D e.on)
def QK(i:Nat)(D:List Nat)(k:Nat):List Oper->List Nat
 | []=>D
 |o::r=>match PK o i D with
  |true=>QK i (k::D) (k+1) r
  |false=>QK i D (k+1) r
def VE(i:Nat)(D:List Nat)(k:Nat):List Oper->Bool
 | []=>true
 |o::r=>(PK o i D||!I0 D k)&&VE i D (k+1) r
def II(ops:Array Oper)(oi:Oper)(fi:Ft)(D:List Nat)(k:Nat):List Oper->List Ft->Bool
 |o::r,f::fs=>(I0 D k||(oi.apart ops o&&T4 fi f))&&II ops oi fi D (k+1) r fs
 | [],[]=>true
 |_,_=>false
def MI(ops:Array Oper)(all:List Oper)(k:Nat):List Oper->List Ft->Bool
 |o::r,f::fs=>
  let D:=QK k [] 0 all
  (o.after.toList.all fun e=>!Region.binds .any e||Nat.blt e.on k)&&VE k D 0 all&&(D.all fun j=>Nat.blt k j&&Nat.blt j all.length)&&II ops o f D (k+1) r fs&&MI ops all (k+1) r fs
 | [],[]=>true
 |_,_=>false
def T5(ops:Array Oper)(fs:List Ft):Bool:=Region.noSelect ops&&MI ops ops.toList 0 ops.toList fs
def ZT(cx:Cx)(ops:Array Oper)(l:List Oper)(fs:List Ft)(st:St)(K:St->Prop):Prop:=
 match l with
 | []=>T5 ops fs.reverse=true/\K st
 |o::r=>match NX cx ops.toList o st with
  |some f=>I7 cx true ops.toList o st fun EC=>ZT cx ops r (f::fs) EC K
  |none=>False
def T9(l:List (Nat×AV))(i:Nat):AV:=match l with | []=>.junk | (j,v)::r=>bif Nat.beq i j then v else T9 r i
structure LS where
 t:List (Nat×AV)
 h:List (Nat×HO)
 hb:Nat->HO
def LS.st(s:LS):St:=⟨T9 s.t,Ai s.h s.hb⟩
def SN(h:Nat->HO)(r:Nat):Bool:=match h r with | .free=>false | _=>true
def ids0(h:Nat->HO):AV->Bool
 |.slice (.id r _) _=>SN h r
 |.slice (.ver r _ _) _=>SN h r
 |.msl r _=>SN h r
 |.ref r _=>SN h r
 |.eref r _ _ _ _=>SN h r
 |.mref r=>SN h r
 |.agg _ |.tup _ |.clo ..=>false
 |_=>true
def aY(h:Nat->HO):List AV->Bool
 | []=>true
 |a::r=>match ids0 h a with |true=>aY h r |false=>false
def UD(h:Nat->HO):AV->Bool
 |.agg cs=>aY h cs
 |.tup cs=>aY h cs
 |.clo _ cs=>aY h cs
 |a=>ids0 h a
def Sd(h:Nat->HO):List (Value×AV)->Bool
 | []=>true
 |p::r=>match UD h p.2 with |true=>Sd h r |false=>false
def YT(h:Nat->HO):List AV->Bool
 | []=>true
 |a::r=>match UD h a with |true=>YT h r |false=>false
def SO(h:Nat->HO):HO->Bool
 |.cells cs=>YT h cs
 |.mapU _ B1=>Sd h B1
 |.hol _ _ _ _ a=>UD h a
 |.bld x=>UD h x
 |_=>true
def leT(st:St)(h:Nat->HO):List (Nat×AV)->Prop
 | []=>True
 |(j,a)::r=>(st.t j=a/\UD h a=true)/\leT st h r
def leH(st:St)(h:Nat->HO):List (Nat×HO)->Prop
 | []=>True
 |(j,o)::r=>(st.h j=o/\SO h o=true)/\leH st h r
def St.le(st:St)(s:LS):Prop:=
 leT st s.st.h s.t/\leH st s.st.h s.h/\(∀j,s.hb j=.free\/(st.h j=s.hb j/\SO s.st.h (s.hb j)=true)) /\
 match cx.ext with
 |false=>True
 |true=>∀j,1000<=j->j<2000->st.h j≠.free->s.st.h j≠.free
def Nj(ops:Array Oper)(dr:Bool)(st:St)(K:St->Prop):Prop:=
 match dr with
 |false=>ZU cx ops.toList ops.toList st K
 |true=>ZT cx ops ops.toList [] st K
inductive Ex | normal | exit (id:Nat) | ret
def azK(h:Nat->HO)(o k:Nat)(K:(Nat->HO)->Prop):Prop:=
 match h o with
 |.cells cs=>match JX cs k with
  |.msl r n=>match h r with
   |.arr sz es=>n=es.length/\K (AL (AL h r (.tok sz es.length)) o (.cells (EV cs k (.slice (.id r sz) es))))
   |_=>K h
  |_=>K h
 |_=>K h
def amK(h:Nat->HO)(o k j:Nat)(K:(Nat->HO)->Prop):Prop:=
 match h o with
 |.cells cs=>match JX cs k with
  |.msl r n=>match h r with
   |.arr sz es=>match h j with
    |.free=>n=es.length/\K (AL (AL (AL h r .dead) j (.arr sz es)) o (.cells (EV cs k (.msl j n))))
    |_=>False
   |_=>False
  |_=>False
 |_=>False
def uvK(h:Nat->HO)(o k d:Nat)(K:(Nat->HO)->Prop):Prop:=
 match h o with
 |.cells cs=>match JX cs k with
  |.slice (.ver r sz v) es=>match h r with
   |.var HE v' _=>match h d with
    |.free=>(v=v'/\sz=HE)/\K (AL (AL (AL h r (.vox v)) d (.tok sz es.length)) o (.cells (EV cs k (.slice (.id d sz) es))))
    |_=>False
   |_=>False
  |_=>K h
 |_=>False
def rvK(h:Nat->HO)(o k r:Nat)(K:(Nat->HO)->Prop):Prop:=
 match h o with
 |.cells cs=>match JX cs k with
  |.slice (.id d sz) es=>match h d with
   |.tok HE n=>match h r with
    |.vox v=>(es.length=n/\sz=HE)/\K (AL (AL (AL h d .dead) r (.var sz (v+1) n)) o (.cells (EV cs k (.slice (.ver r sz (v+1)) es))))
    |_=>False
   |_=>False
  |_=>K h
 |_=>False
def nvK(h:Nat->HO)(r:Nat)(K:(Nat->HO)->Prop):Prop:=
 match h r with
 |.free=>K (AL h r (.vox 0))
 |_=>False
def rmK(h:Nat->HO)(o k:Nat)(K:(Nat->HO)->Prop):Prop:=
 match h o with
 |.cells cs=>match JX cs k with
  |.mref r=>match h r with
   |.rom sh B1=>K (AL h o (.cells (EV cs k (.cmap sh B1))))
   |_=>False
  |_=>False
 |_=>False
def zaK(h:Nat->HO)(o k j sz:Nat)(K:(Nat->HO)->Prop):Prop:=
 match h o with
 |.cells cs=>match JX cs k with
  |.v (.slice none 0 0)=>match h j with
   |.free=>K (AL (AL h j (.arr sz [])) o (.cells (EV cs k (.msl j 0))))
   |_=>False
  |_=>False
 |_=>False
def fz0(id:Nat)(h:Nat->HO)(K:(Nat->HO)->Prop):Prop:=
 match GT cx.pl.ak (850000+id)with
 |some v=>K (mZ h v)
 |none=>K h
def rm0(id:Nat)(h:Nat->HO)(K:(Nat->HO)->Prop):Prop:=
 match GT cx.pl.ak (800000+id)with
 |some v=>rmK h (v % 10000) (v / 10000 % 100) K
 |none=>K h
def rm1(id:Nat)(h:Nat->HO)(K:(Nat->HO)->Prop):Prop:=
 match GT cx.pl.ak (810000+id)with
 |some v=>rmK h (v % 10000) (v / 10000 % 100) K
 |none=>K h
def za(id:Nat)(h:Nat->HO)(K:(Nat->HO)->Prop):Prop:=
 match GT cx.pl.ak (900000+id)with
 |some v=>zaK h (v % 10000) (v / 10000 % 100) (v / 1000000 % 10000) (v / 10000000000) K
 |none=>K h
def hoK(h:Nat->HO)(r:Nat)(K:(Nat->HO)->Prop):Prop:=
 match h r with
 |.hol sz es i c (.msl j m)=>match Nat.beq r j with
  |true=>False
  |false=>match h j with
   |.arr iv qs=>m=qs.length/\∃cs,es[i]?=some cs/\c<sz/\K (AL (AL (AL h j (.tok iv qs.length)) j .dead) r (.arr sz (es.set i (over cs c [.slice .none qs]))))
   |_=>False
 |_=>False
def xX(id:Nat)(h:Nat->HO)(K:(Nat->HO)->Prop):Prop:=
 match GT cx.pl.ak (500000+id)with
 |some v=>uvK h (v % 10000) (v / 10000 % 100) (v / 1000000) K
 |none=>match GT cx.pl.ak (600000+id)with
  |some v=>rvK h (v % 10000) (v / 10000 % 100) (v / 1000000) K
  |none=>match GT cx.pl.ak (700000+id)with
   |some v=>nvK h v K
   |none=>match GT cx.pl.ak (950000+id)with
    |some v=>hoK h v K
    |none=>fz0 cx id h fun h=>rm0 cx id h fun h=>rm1 cx id h fun h=>za cx id h K
def asK(st:St)(s k:Nat)(K:St->Prop):Prop:=
 match st.t s with
 |.msl r n=>match st.h r with
  |.arr sz es=>match k with
   |0=>n=es.length/\K ⟨Ka st.t s (.slice .none es),AL (AL st.h r (.tok sz es.length)) r .dead⟩
   |k+1=>match Nat.beq r (k+1)with
    |true=>K st
    |false=>match st.h (k+1)with
     |.free=>n=es.length/\K ⟨Ka st.t s (.msl (k+1) n),AL (AL st.h r .dead) (k+1) (.arr sz es)⟩
     |_=>False
  |_=>K st
 |_=>K st
def zM(id:Nat)(st:St)(K:St->Prop):Prop:=
 match I0 cx.pl.cut id with
 |true=>match GT cx.pl.ak (100000+id)with
  |none=>match GT cx.pl.ak (200000+id)with
   |none=>match GT cx.pl.ak (300000+id)with
    |none=>xX cx id st.h fun h'=>∃s:LS,St.le cx ⟨st.t,h'⟩ s/\K s.st
    |some v=>amK st.h (v % 10000) (v / 10000 % 100) (v / 1000000) fun h'=>∃s:LS,St.le cx ⟨st.t,h'⟩ s/\K s.st
   |some v=>asK st (v % 1000) (v / 1000) fun EC=>∃s:LS,St.le cx EC s/\K s.st
  |some v=>azK st.h (v % 1000) (v / 1000) fun h'=>∃s:LS,St.le cx ⟨st.t,h'⟩ s/\K s.st
 |false=>K st
def QD(cx:Cx)(c:Code)(Q:Ex->St->Prop)(st:St):Prop:=
 match c with
 |.skip=>Q .normal st
 |.label _=>Q .normal st
 |.region id ops dr=>zM cx id st fun st=>match cx.pl.dyn with
  | []=>Nj cx ops dr st (Q .normal)
  |_=>∃n,Nj { cx with nid:=n } ops dr st (Q .normal)
 |.seq a b=>QD cx a (fun e EC=>match e with |.normal=>QD cx b Q EC |e=>Q e EC) st
 |.cond c a b=>match ev st.t c with
  |.v (.bool true)=>QD cx a Q st
  |.v (.bool false)=>QD cx b Q st
  |_=>False
 |.block id c=>QD cx c (fun e EC=>match e with |.exit j=>(bif Nat.beq j id then Q .normal EC else Q (.exit j) EC) |e=>Q e EC) st
 |.loop c=>∃(α:Type) (I:α->LS) (μ:α->Nat),(∃x,St.le cx st (I x)) /\
   ∀x,QD cx c (fun e EC=>match e with | .normal=>∃y,μ y<μ x/\St.le cx EC (I y) | e=>Q e EC) (I x).st
 |.exit id=>Q (.exit id) st
 |.ret=>Q .ret st
 |_=>False
def Pw:List AV->Nat->AV
 | [],_=>.v undef
 |a::r,n=>match n with |0=>a |n+1=>Pw r n
def s7(T:GF)(st:St):List ResultVar->(List AV->Prop)->Prop
 | [],K=>K []
 |.tmp i::r,K=>s7 T st r fun l=>K (str st.h (st.t i)::l)
 |.cell a t::r,K=>JT T st.h t (st.t a) fun v=>s7 T st r fun l=>K (str st.h v::l)
def sZ(st:St)(rs:List ResultVar)(K:AV->Prop):Prop:=
 s7 cx.T ⟨st.t,PJ st.h cx.pl.fin⟩ rs fun
  | [v]=>K v
  |vs=>K (.tup vs)
def wq(rs:List ResultVar)(K:AV->Prop)(e:Ex)(st:St):Prop:=
 match e with
 |.normal=>sZ cx st rs K
 |.ret=>sZ cx st rs K
 |.exit _=>False
def s8(T:GF)(st:St):List ResultVar->(List AV->Prop)->Prop
 | [],K=>K []
 |.tmp i::r,K=>s8 T st r fun l=>K (st.t i::l)
 |.cell a t::r,K=>JT T st.h t (st.t a) fun v=>s8 T st r fun l=>K (v::l)
def ky(st:St)(rs:List ResultVar)(σ:Jk)(Q:AV->(Nat->HO)->Prop):Prop:=
 s8 cx.T ⟨st.t,PJ st.h cx.pl.fin⟩ rs fun
  | [v]=>Q (ren (Cy σ) (PJ st.h cx.pl.fin) v) (Fv σ (PJ st.h cx.pl.fin))
  |vs=>Q (ren (Cy σ) (PJ st.h cx.pl.fin) (.tup vs)) (Fv σ (PJ st.h cx.pl.fin))
def ap(rs:List ResultVar)(σ:Jk)(Q:AV->(Nat->HO)->Prop)(e:Ex)(st:St):Prop:=
 match e with
 |.normal=>ky cx st rs σ Q
 |.ret=>ky cx st rs σ Q
 |.exit _=>False
def IL(σ:Jk):List (Nat×HO)->Bool
 | []=>true
 |(i,_)::r=>Nat.ble 1000 i&&Nat.blt i 2000&&(match Cy σ i with |some j=>Nat.beq j i |none=>false)&&IL σ r
theorem yN{n m:Nat}{b:Prop}(k:b)(h:n <= m := by exact F6 rfl):n <= m /\ b := ⟨h,k⟩
abbrev BE:AV := .v (.slice none 0 0)
abbrev pC(a c:List Nat):Qz := ⟨a,[],[],[],[],[],[],[],[],[],c⟩
abbrev pT(a:List Nat)(b:List (Nat×Nat))(c:List Nat):Qz := ⟨a,b,[],[],[],[],[],[],[],[],c⟩
end Go.Eng
