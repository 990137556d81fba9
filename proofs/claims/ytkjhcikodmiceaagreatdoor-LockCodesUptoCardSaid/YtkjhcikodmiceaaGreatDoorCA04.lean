/- Lemmas 4. -/
import Derived.Test.YtkjhcikodmiceaaGreatDoorCA00
import Derived.WalkKit
import Derived.Still
import Derived.RangeFuncSeq
import Derived.OrdersIn
import Derived.TacticsIn
namespace Go.Eng
abbrev Ao3:=List Nat
abbrev Ao4:=List (Nat×Nat)
abbrev Ao5:=List Oper
abbrev Ao6:=List ResultVar
abbrev Ao7:=List (Nat×Operand)
variable {vs:Array Value}{E:TypeId}(op:BinOp)(f:Nat->Option Nat)
theorem aa5{p:Prop}(h:p:=by kernel_rfl):p:=h
abbrev CS:=ByteArray
theorem A0a{A:Type}{x:Option A}{a b:A}(h:x=some a)(k:a=b:=by kernel_rfl):x=some b:=h.trans (congrArg some k)
inductive Tk | none | full (sz:Nat) | id (r sz:Nat) | ver (r sz v:Nat)
inductive KS | int (k:IntKind) | str | bool
structure Ez where
 agg:Bool
 l:List KS
variable (sh:Ez)
inductive AV
 |v (x:Value)
 |slice (tk:Tk) (es:List (List AV))
 |msl (r n:Nat)
 |agg (cs:List AV)
 |tup (vs:List AV)
 |cptr (cs:List AV)
 |ref (r off:Nat)
 |eref (r n sz i off:Nat)
 |mref (r:Nat)
 |cmap (sh:Ez) (BM:List (Value×AV))
 |clo (f:Nat) (caps:List AV)
 |junk
abbrev C0:=List (List AV)
variable (x:AV)(K:AV->Prop)
inductive HO
 |free
 |dead
 |cells (cs:List AV)
 |ro (cs:List AV)
 |tok (sz n:Nat)
 |var (sz v n:Nat)
 |vox (v:Nat)
 |arr (sz:Nat) (es:C0)
 |map (sh:Ez) (BM:List (Value×AV))
 |mapU (sh:Ez) (BM:List (Value×AV))
 |rom (sh:Ez) (BM:List (Value×AV))
 |iter (all rem:List (Value×AV)) (DU:Option (Value×AV))
 |raw (b:Nat) (ob:Obj)
structure St where
 t:Nat->AV
 h:Nat->HO
def Ab:Nat->HO:=fun _=>.free
def AS(h:Nat->HO)(r:Nat)(o:HO):Nat->HO:=fun i=>bif Nat.beq i r then o else h i
def KE(t:Nat->AV)(d:Nat)(v:AV):Nat->AV:=fun i=>bif Nat.beq i d then v else t i
def St.put(st:St)(d:Option Nat)(v:AV)(h:Nat->HO):St:=
 match d with
 |none=>⟨st.t,h⟩
 |some d=>⟨KE st.t d v,h⟩
def ev(t:Nat->AV):Operand->AV
 |.tmp i=>t i
 |.const v=>.v v
 |.global g=>.v (.pointer (some ⟨g,0,none⟩))
 |.func f=>.v (.func (.func f) #[] #[])
inductive TD
 |int (k:IntKind) |bool |string |slice (e:Nat) |array (n e:Nat) |struct (fs:Ao4) |ptr (e:Nat) |map (k e:Nat) |func |iface |other
structure TI where
 d:TD
 size:Nat
 bytes:Nat
 zero:Value
 eqok:Bool
def TI.zc(i:TI):List Value:=match i.zero with | .agg cs=>cs.toList | v=>[v]
abbrev GL:=Nat->TI
structure Of where
 frz:Ao3
 tok:Ao4
 arr:Ao4
 fz:List (Nat×Ao3)
 fin:Ao3
 mku:Ao3
 dyn:Ao3
 tz:List (Nat×(Nat×Nat×Nat×Nat))
 dc:Ao4
 ak:Ao4
 cut:Ao3
def I1(l:Ao3)(n:Nat):Bool:=
 match l with
 | []=>false
 |x::r=>bif Nat.beq x n then true else I1 r n
def F7(l:Ao4)(n:Nat):Option Nat:=
 match l with
 | []=>none
 |(x,y)::r=>bif Nat.beq x n then some y else F7 r n
def str0(h:Nat->HO):AV->AV
 |.slice _ es=>.slice .none es
 |.ref r off=>match h r with |.ro cs=>.cptr (cs.drop off) |_=>.junk
 |.mref r=>match h r with |.rom sh BM=>.cmap sh BM |_=>.junk
 |.v x=>.v x
 |.cptr cs=>.cptr cs
 |.cmap s m=>.cmap s m
 |_=>.junk
def str(h:Nat->HO):AV->AV
 |.agg cs=>.agg (cs.map (str0 h))
 |.clo f cs=>.clo f (cs.map (str0 h))
 |a=>str0 h a
def Up(h:Nat->HO)(BM:List (Value×AV)):List (Value×AV):=BM.map fun p=>(p.1,str h p.2)
def qX(h:Nat->HO)(r:Nat):Nat->HO:=
 match h r with
 |.cells cs=>AS h r (.ro (cs.map (str h)))
 |.map sh BM=>AS h r (.rom sh BM)
 |.mapU sh BM=>AS h r (.rom sh (Up h BM))
 |_=>h
def Qw(h:Nat->HO):Ao3->Nat->HO
 | []=>h
 |r::l=>Qw (qX h r) l
def Aaz(l:List (Nat×Ao3))(n:Nat):Ao3:=
 match l with
 | []=>[]
 |(x,y)::r=>bif Nat.beq x n then y else Aaz r n
def Ae1(l:List (Nat×(Nat×Nat×Nat×Nat)))(n:Nat):Option (Nat×Nat×Nat×Nat):=
 match l with
 | []=>none
 |(x,y)::r=>bif Nat.beq x n then some y else Ae1 r n
def Jq(l:List AV)(n:Nat):AV:=
 match l with
 | []=>.junk
 |x::r=>match n with |0=>x |n+1=>Jq r n
def Fs(cs:List AV)(o:Nat)(v:AV):List AV:=
 match cs with
 | []=>[]
 |c::cs=>match o with |0=>v::cs |o+1=>c::Fs cs o v
def tz1(h:Nat->HO)(r k j sz:Nat):Nat->HO:=
 match h r with
 |.cells cs=>match Jq cs k with
  |.v (.slice none 0 0)=>match h j with
   |.free=>AS (AS h j (.tok sz 0)) r (.cells (Fs cs k (.slice (.id j sz) [])))
   |_=>h
  |_=>h
 |_=>h
def rsv(h:Nat->HO):AV->AV
 |.ref r off=>match h r with |.ro cs=>.cptr (cs.drop off) |_=>.ref r off
 |.mref r=>match h r with |.rom sh BM=>.cmap sh BM |_=>.mref r
 |a=>a
def one:AV->Bool
 |.v x=>x.oneCell'
 |.agg _ |.tup _ |.junk=>false
 |_=>true
def HP:List AV->Bool
 | []=>true
 |a::r=>match one a with |true=>HP r |false=>false
def Ahj:AV->List AV
 |.agg cs=>cs
 |a=>[a]
def As(a:Int):Prop:=-9223372036854775808<=a/\a<2^63
def Mo(cs:List AV)(K:AV->Prop):Prop:=
 match cs with
 |a::_=>K a
 | []=>False
def Ja(p:Prop)(K:AV->Prop):Prop:=(p->K (.v (.bool true)))/\(¬p->K (.v (.bool false)))
def Ni(T:GL)(t:Nat)(cs:List AV)(K:AV->Prop):Prop:=
 match(T t).d with
 |.struct _=>(T t).size<=cs.length/\K (.agg (cs.take (T t).size))
 |.array _ _=>(T t).size<=cs.length/\K (.agg (cs.take (T t).size))
 |.bool=>Mo cs fun |.v (.bool b)=>(b=true->K (.v (.bool true)))/\(b=false->K (.v (.bool false))) |_=>False
 |.other=>False
 |_=>Mo cs K
def zu:List AV->List AV->Prop
 | [],[]=>True
 |.v (.int _ a)::r,.v (.int _ b)::s=>a=b/\zu r s
 |.v (.string a)::r,.v (.string b)::s=>a=b/\zu r s
 |.v (.bool a)::r,.v (.bool b)::s=>a=b/\zu r s
 |_,_=>False
def ikB:IntKind->IntKind->Bool
 |.i64,.i64 |.u8,.u8 |.u32,.u32 |.i32,.i32 |.u64,.u64 |.u16,.u16 |.i16,.i16 |.i8,.i8=>true
 |_,_=>false
def Pa(f:Nat->Option (List KS)):Nat->Ao4->Option (List KS)
 |_,[]=>some []
 |n,(t,o)::r=>match Nat.beq o n with
  |true=>match f t with
   |some a=>match Pa f (n+a.length) r with
    |some b=>some (a++b)
    |none=>none
   |none=>none
  |false=>none
def HY(T:GL):Nat->Nat->Option (List KS)
 |0,_=>none
 |n+1,t=>match(T t).d with
  |.int k=>match(T t).size with |1=>some [.int k] |_=>none
  |.string=>match(T t).size with |1=>some [.str] |_=>none
  |.bool=>match(T t).size with |1=>some [.bool] |_=>none
  |.struct fs=>match(T t).eqok with
   |true=>match Pa (HY T n) 0 fs with
    |some l=>match Nat.beq l.length (T t).size with |true=>some l |false=>none
    |none=>none
   |false=>none
  |_=>none
def OE:KS->Value->Bool
 |.int k,.int k' _=>ikB k k'
 |.str,.string _=>true
 |.bool,.bool _=>true
 |_,_=>false
def dL:List KS->List AV->Bool
 | [],[]=>true
 |k::r,.v x::s=>match OE k x with |true=>dL r s |false=>false
 |_,_=>false
def eqK(T:GL)(t:Nat)(x y:AV)(K:AV->Prop):Prop:=
 match(T t).d with
 |.bool=>match x,y with
  |.v (.bool a),.v (.bool b)=>K (.v (.bool (a == b)))
  |_,_=>False
 |.struct _=>match x,y with
  |.agg xs,.agg ys=>match HY T 8 t with
   |some l=>match dL l xs with
    |true=>match dL l ys with
     |true=>Ja (zu xs ys) K
     |false=>False
    |false=>False
   |none=>False
  |_,_=>False
 |.slice _=>match x,y with
  |.slice _ es,.v (.slice none 0 0)=>(es≠[]->K (.v (.bool false)))/\(es=[]->K (.v (.bool true))/\K (.v (.bool false)))
  |.v (.slice none 0 0),.v (.slice none 0 0)=>K (.v (.bool true))
  |_,_=>False
 |.ptr _=>match x,y with
  |.v (.pointer none),.v (.pointer none)=>K (.v (.bool true))
  |.cptr _,.v (.pointer none)=>K (.v (.bool false))
  |.ref _ _,.v (.pointer none)=>K (.v (.bool false))
  |.eref _ _ _ _ _,.v (.pointer none)=>K (.v (.bool false))
  |_,_=>False
 |_=>False
def oz:AV->Prop
 |.v (.bool true)=>K (.v (.bool false))
 |.v (.bool false)=>K (.v (.bool true))
 |_=>False
def Dv(k:IntKind)(a b:Int):Int:=
 match op with
 |.and=>k.wrap (BitVec.ofInt k.bits a &&& BitVec.ofInt k.bits b).toNat
 |.or=>k.wrap (BitVec.ofInt k.bits a |||BitVec.ofInt k.bits b).toNat
 |_=>k.wrap (BitVec.ofInt k.bits a ^^^ BitVec.ofInt k.bits b).toNat
def DY(k:IntKind)(a b:Int):Int:=
 match op with
 |.shl=>k.wrap (a*2 ^ min b.toNat k.bits)
 |_=>a.fdiv (2 ^ min b.toNat k.bits)
def WN(k:IntKind)(a b:Int)(K:AV->Prop):Prop:=
 match op with
 |.shl=>0<=b/\K (.v (.int k (DY .shl k a b)))
 |.shr=>0<=b/\K (.v (.int k (DY .shr k a b)))
 |_=>False
def ZM(k:IntKind)(a b:Int)(K:AV->Prop):Prop:=
 match op with
 |.quo=>(0<=a/\0<b/\k.wrap (a / b)=a / b)/\K (.v (.int k (a / b)))
 |.rem=>(0<=a/\0<b)/\K (.v (.int k (a % b)))
 |.and=>K (.v (.int k (Dv .and k a b)))
 |.or=>K (.v (.int k (Dv .or k a b)))
 |.xor=>K (.v (.int k (Dv .xor k a b)))
 |.add=>K (.v (.int k (k.wrap (a+b))))
 |.sub=>K (.v (.int k (k.wrap (a-b))))
 |.mul=>K (.v (.int k (k.wrap (a*b))))
 |op=>WN op k a b K
def U0(k:IntKind)(a b:Int)(K:AV->Prop):Prop:=
 match k with
 |.i64=>match op with
  |.add=>As (a+b)/\K (.v (.int .i64 (a+b)))
  |.sub=>As (a-b)/\K (.v (.int .i64 (a-b)))
  |.mul=>As (a*b)/\K (.v (.int .i64 (a*b)))
  |.quo=>(0<=a/\0<b/\As a)/\K (.v (.int .i64 (a / b)))
  |.rem=>(0<=a/\0<b)/\K (.v (.int .i64 (a % b)))
  |op=>ZM op .i64 a b K
 |k=>ZM op k a b K
def U3(T:GL)(op:BinOp)(t:Nat)(x y:AV)(K:AV->Prop):Prop:=
 match x,y with
 |.v (.int k a),.v (.int k' b)=>match ikB k k' with
  |false=>WN op k a b K
  |true=>match op with
   |.eql=>Ja (a=b) K
   |.neq=>Ja (a≠b) K
   |.lss=>Ja (a<b) K
   |.leq=>Ja (a<=b) K
   |.gtr=>Ja (b<a) K
   |.geq=>Ja (b<=a) K
   |op=>U0 op k a b K
 |.v (.string a),.v (.string b)=>match op with
   |.eql=>Ja (a=b) K
   |.neq=>Ja (a≠b) K
   |.lss=>Ja (Op.bytesLess a.toList b.toList=true) K
   |.geq=>Ja (Op.bytesLess a.toList b.toList=false) K
   |.gtr=>Ja (Op.bytesLess b.toList a.toList=true) K
   |.leq=>Ja (Op.bytesLess b.toList a.toList=false) K
   |.add=>((a.size+b.size:Nat):Int)<=2^63-1/\K (.v (.string (a++b)))
   |_=>False
 |x,y=>match op with
  |.eql=>eqK T t x y K
  |.neq=>eqK T t x y (oz K)
  |_=>False
def co(T:GL)(op:BinOp)(t:Nat)(Y:Operand)(x y:AV)(K:AV->Prop):Prop:=
 match Y with
 |.const .nilIface=>match x with
  |.v .nilIface=>match(T t).d with
   |.iface=>match op with
    |.eql=>K (.v (.bool true))
    |.neq=>K (.v (.bool false))
    |_=>False
   |_=>False
  |_=>False
 |_=>U3 T op t x y K
def X7(T:GL)(s t:Nat)(x:AV)(K:AV->Prop):Prop:=
 match(T s).d,(T t).d,x with
 |.int _,.int .i64,.v (.int _ n)=>As n/\K (.v (.int .i64 n))
 |.int _,.int k,.v (.int _ n)=>K (.v (.int k (k.wrap n)))
 |.string,.string,.v (.string s)=>K (.v (.string s))
 |.slice e,.string,.slice _ es=>match(T e).d with
  |.int .u8=>∃l:List UInt8,es=l.map (fun b=>[AV.v (.int .u8 b.toNat)])/\K (.v (.string ⟨l.toArray⟩))
  |_=>False
 |_,_,_=>False
def ab(fs:Ao4)(n:Nat):Option (Nat×Nat):=
 match fs with
 | []=>none
 |x::r=>match n with |0=>some x |n+1=>ab r n
def Vq(T:GL)(s f:Nat)(x:AV)(K:AV->Prop):Prop:=
 match(T s).d with
 |.struct fs=>match ab fs f with
  |some (t,o)=>match(T t).size with
   |0=>False
   |_+1=>match x with
    |.cptr cs=>K (.cptr (cs.drop o))
    |.ref r off=>K (.ref r (off+o))
    |.eref r n z i off=>K (.eref r n z i (off+o))
    |_=>False
  |none=>False
 |_=>False
def fc(T:GL)(t:Nat)(cs:List AV)(K:AV->Prop):Prop:=Ni T t cs K
def Qo(T:GL)(s f:Nat)(x:AV)(K:AV->Prop):Prop:=
 match(T s).d,x with
 |.struct fs,.agg cs=>match ab fs f with
  |some (t,o)=>fc T t (cs.drop o) K
  |none=>False
 |_,_=>False
def JL(T:GL)(t:Nat)(x ix:AV)(K:AV->Prop):Prop:=
 match(T t).d,ix with
 |.slice e,.v (.int .i64 i)=>match(T e).size with
  |0=>False
  |_+1=>match x with
   |.slice _ es=>∃cs,(0<=i/\es[i.toNat]?=some cs)/\cs.length=(T e).size/\K (.cptr cs)
   |.msl r n=>(0<=i/\i<n)/\K (.eref r n (T e).size i.toNat 0)
   |_=>False
 |.array n e,.v (.int .i64 i)=>match(T e).size with
  |0=>False
  |_+1=>match x with
   |.cptr cs=>(0<=i/\i<n)/\K (.cptr (cs.drop (i.toNat*(T e).size)))
   |.ref r off=>(0<=i/\i<n)/\K (.ref r (off+i.toNat*(T e).size))
   |_=>False
 |_,_=>False
def VT(T:GL)(t:Nat)(x ix:AV)(K:AV->Prop):Prop:=
 match(T t).d,x,ix with
 |.string,.v (.string s),.v (.int _ i)=>∃b:UInt8,(0<=i/\s.data[i.toNat]?=some b)/\K (.v (.int .u8 b.toNat))
 |.array n e,.agg cs,.v (.int .i64 i)=>(0<=i/\i<n)/\fc T e (cs.drop (i.toNat*(T e).size)) K
 |_,_,_=>False
def CE(t:Nat->AV):Option Operand->Option (Option Int)
 |none=>some none
 |some x=>match ev t x with |.v (.int .i64 i)=>some (some i) |_=>none
def over{α:Type}(cs:List α)(o:Nat)(vs:List α):List α:=
 match cs with
 | []=>[]
 |c::cs=>match o with
  |o+1=>c::over cs o vs
  |0=>match vs with
   | []=>c::cs
   |v::vs=>v::over cs 0 vs
structure D where
 ρ:Nat->Value
 ln:Nat->Nat
 tk:Nat->Bool
 own:Nat->Option Nat
 S:Nat->Nat->Prop
def J3:List KS->List Value->Bool
 | [],[]=>true
 |k::r,v::s=>match OE k v with |true=>J3 r s |false=>false
 |_,_=>false
def bt(v:Value):Bool:=
 match sh.agg,v with
 |true,.agg cs=>J3 sh.l cs.toList
 |false,v=>J3 sh.l [v]
 |_,_=>false
def Hl(es:Array MapEntry)(ck:Nat)(BM:List (Value×AV)):Prop:=
 es.size=BM.length/\(∀(i:Nat) (kv:Value×AV) (e:MapEntry),BM[i]?=some kv->es[i]?=some e->e.key=kv.1) /\
 (∀kv∈BM,bt sh kv.1=true)/\(BM.map (·.1)).Nodup/\(∀(i:Nat) (e:MapEntry),es[i]?=some e->e.born<ck) /\
 ∀(i j:Nat) (e e' : MapEntry),es[i]?=some e->es[j]?=some e'->e.born=e'.born->i=j
inductive O(g:D)(w:World):(Nat->Prop)->AV->Value->Prop
 |v (U:Nat->Prop) (x:Value):O g w U (.v x) x
 |junk (U:Nat->Prop) (x:Value):O g w U .junk x
 |snil (U:Nat->Prop) (a:Option Addr) (cap:Nat):O g w U (.slice .none []) (.slice a 0 cap)
 |slice (U:Nat->Prop) (es:C0) (b off sz cap:Nat) (val:Nat->Nat->Value) (hc:es.length<=cap)
   (hl:∀(i:Nat) (cs:List AV),es[i]?=some cs->cs.length=sz)
   (Dj:∀(i:Nat) (cs:List AV) (j:Nat) (av:AV),es[i]?=some cs->cs[j]?=some av ->
    g.S b (off+i*sz+j)/\w.cell? ⟨b,off+i*sz+j,none⟩=some (val i j)/\(val i j).oneCell'=true)
   (DN:∀(i:Nat) (cs:List AV) (j:Nat) (av:AV),es[i]?=some cs->cs[j]?=some av->O g w (fun _=>False) av (val i j)) :
   O g w U (.slice .none es) (.slice (some ⟨b,off,none⟩) es.length cap)
 |tok (U:Nat->Prop) (r sz:Nat) (es:C0) (x:Value) (h:O g w U (.slice .none es) x) (hl:∀c∈es,c.length=sz) (hu:U r) (ht:g.tk r=true) (hn:es.length<=g.ln r)
   (hx:es.length=g.ln r->x=g.ρ r):O g w U (.slice (.id r sz) es) x
 |ver (U:Nat->Prop) (r sz v:Nat) (es:C0) (x:Value) (h:O g w U (.slice .none es) x) (hl:∀c∈es,c.length=sz) (hu:U r) (ht:g.tk r=true) (hn:v<=g.ln r)
   (hx:v=g.ln r->x=g.ρ r):O g w U (.slice (.ver r sz v) es) x
 |full (U:Nat->Prop) (sz:Nat) (es:C0) (x:Value) (h:O g w U (.slice .none es) x) (hl:∀c∈es,c.length=sz) (hx:∃a,x=.slice a es.length es.length):O g w U (.slice (.full sz) es) x
 |msl (U:Nat->Prop) (r n:Nat) (a:Option Addr) (cap:Nat) (hu:U r) (ht:g.tk r=true) (hn:n<=g.ln r) (ha:n=0\/∃b,a=some ⟨b,0,none⟩) (hx:n=g.ln r->.slice a n cap=g.ρ r) :
   O g w U (.msl r n) (.slice a n cap)
 |agg (U:Nat->Prop) (cs:List AV) (vs:Array Value) (hs:vs.size=cs.length) (h1:∀(i:Nat) (x:Value),vs[i]?=some x->x.oneCell'=true)
   (h:∀(i:Nat) (av:AV) (x:Value),cs[i]?=some av->vs[i]?=some x->O g w U av x):O g w U (.agg cs) (.agg vs)
 |tup (U:Nat->Prop) (cs:List AV) (vs:Array Value) (hs:vs.size=cs.length)
   (h:∀(i:Nat) (av:AV) (x:Value),cs[i]?=some av->vs[i]?=some x->O g w U av x):O g w U (.tup cs) (.tuple vs)
 |cptr (U:Nat->Prop) (cs:List AV) (b off:Nat) (val:Nat->Value)
   (Dj:∀(j:Nat) (av:AV),cs[j]?=some av->g.S b (off+j)/\w.cell? ⟨b,off+j,none⟩=some (val j)/\(val j).oneCell'=true)
   (DN:∀(j:Nat) (av:AV),cs[j]?=some av->O g w (fun _=>False) av (val j)) :
   O g w U (.cptr cs) (.pointer (some ⟨b,off,none⟩))
 |ref (U:Nat->Prop) (r off b:Nat) (hu:U r) (ht:g.tk r=false) (hx:g.ρ r=.pointer (some ⟨b,0,none⟩)):O g w U (.ref r off) (.pointer (some ⟨b,off,none⟩))
 |eref (U:Nat->Prop) (r n sz i off b cap:Nat) (hu:U r) (ht:g.tk r=true) (hn:i<n/\n<=g.ln r) (hx:n=g.ln r->g.ρ r=.slice (some ⟨b,0,none⟩) n cap) :
   O g w U (.eref r n sz i off) (.pointer (some ⟨b,i*sz+off,none⟩))
 |mref (U:Nat->Prop) (r b:Nat) (hu:U r) (ht:g.tk r=false) (hx:g.ρ r=.map (some b)):O g w U (.mref r) (.map (some b))
 |cmap (U:Nat->Prop) (sh:Ez) (BM:List (Value×AV)) (b:Nat) (es:Array MapEntry) (ck:Nat) (hS:g.S b 0) (hb:w.heap[b]?=some (.map es ck)) (hm:Hl sh es ck BM)
   (h:∀(i:Nat) (kv:Value×AV) (e:MapEntry),BM[i]?=some kv->es[i]?=some e->O g w (fun _=>False) kv.2 e.val):O g w U (.cmap sh BM) (.map (some b))
 |clo (U:Nat->Prop) (f:Nat) (cs:List AV) (vs:Array Value) (hs:vs.size=cs.length)
   (h:∀(i:Nat) (av:AV) (x:Value),cs[i]?=some av->vs[i]?=some x->O g w U av x):O g w U (.clo f cs) (.func (.func f) #[] vs)
def HO.live:HO->Prop
 |.free |.dead |.vox _ |.ro _ |.rom _ _=>False
 |_=>True
def L(h:Nat->HO)(r:Nat):Prop:=h r≠.free
def DS:Nat->Prop:=fun _=>False
def Cg(g:D)(w:World)(U:Nat->Prop)(cs:List AV)(vs:List Value):Prop:=
 vs.length=cs.length/\(∀x∈vs,x.oneCell'=true)/\∀(i:Nat) (av:AV) (x:Value),cs[i]?=some av->vs[i]?=some x->O g w U av x
def Oh:Ao3->Code->Bool
 |bs,.block id c=>Oh (id::bs) c
 |bs,.seq a b=>Oh bs a||Oh bs b
 |bs,.cond _ a b=>Oh bs a||Oh bs b
 |bs,.loop c=>Oh bs c
 |bs,.exit id=>!(bs.any fun i=>Nat.beq i id)
 |_,_=>false
def Ae4:Obj->Bool
 |.loop r=>Oh [] r.body
 |_=>false
def Tg(w:World)(b:Nat)(vs:Array Value)(E:TypeId):Prop:=∃f:Nat×Nat,w.heap[b]?=some (.cells vs E f)/\(f=(0,0)\/vs.size<=f.1)
theorem Tg.eq{w w' : World}{b:Nat}(h:Tg w b vs E)(e:w'.heap[b]?=w.heap[b]?):Tg w' b vs E:=by
 obtain⟨f,h1,h2⟩:=h;exact⟨f,e.trans h1,h2⟩
theorem Tg.of{w:World}{b:Nat}(h:w.heap[b]?=some (.cells vs E (0,0))):Tg w b vs E:=⟨_,h,.inl rfl⟩
def DE(g:D)(w:World)(U:Nat->Prop)(r:Nat):HO->Prop
 |.free |.dead=>True
 |.cells cs=>g.tk r=false/\∃b E vs,g.own r=some b/\g.ρ r=.pointer (some ⟨b,0,none⟩)/\w.heap[b]?=some (.cells vs E (0,0))/\Cg g w U cs vs.toList/\∀o,¬g.S b o
 |.ro cs=>g.tk r=false/\∃b,g.ρ r=.pointer (some ⟨b,0,none⟩)/\O g w DS (.cptr cs) (.pointer (some ⟨b,0,none⟩))
 |.tok sz n=>g.tk r=true/\g.ln r=n/\∃a cap,g.ρ r=.slice a n cap/\(n=cap/\g.own r=none \/
   n<=cap/\∃b E vs off,a=some ⟨b,off,none⟩/\g.own r=some b/\Tg w b vs E/\vs.size=off+cap*sz/\∀o,g.S b o->o<off+n*sz)
 |.var sz v n=>g.tk r=true/\g.ln r=v/\∃a cap,g.ρ r=.slice a n cap/\(n=cap/\g.own r=none \/
   n<=cap/\∃b E vs off,a=some ⟨b,off,none⟩/\g.own r=some b/\Tg w b vs E/\vs.size=off+cap*sz/\∀o,g.S b o->o<off+n*sz)
 |.vox v=>g.tk r=true/\g.ln r=v
 |.arr sz es=>g.tk r=true/\g.ln r=es.length/\(∀cs∈es,cs.length=sz)/\(es=[]/\g.ρ r=.slice none 0 0/\g.own r=none \/
   ∃b cap E vs,g.ρ r=.slice (some ⟨b,0,none⟩) es.length cap/\g.own r=some b/\es.length<=cap/\w.heap[b]?=some (.cells vs E (0,0))/\vs.size=cap*sz /\
    Cg g w DS es.flatten (vs.toList.take (es.length*sz))/\∀o,¬g.S b o)
 |.map sh BM=>g.tk r=false/\∃b es ck,g.own r=some b/\g.ρ r=.map (some b)/\w.heap[b]?=some (.map es ck)/\Hl sh es ck BM /\
   (∀(i:Nat) (kv:Value×AV) (e:MapEntry),BM[i]?=some kv->es[i]?=some e->O g w DS kv.2 e.val)/\∀o,¬g.S b o
 |.mapU sh BM=>g.tk r=false/\∃b es ck,g.own r=some b/\g.ρ r=.map (some b)/\w.heap[b]?=some (.map es ck)/\Hl sh es ck BM /\
   (∀(i:Nat) (kv:Value×AV) (e:MapEntry),BM[i]?=some kv->es[i]?=some e->O g w U kv.2 e.val)/\∀o,¬g.S b o
 |.rom sh BM=>g.tk r=false/\∃b,g.ρ r=.map (some b)/\O g w DS (.cmap sh BM) (.map (some b))
 |.iter all rem DU=>g.tk r=false/\∃b mb Ku seen st es ck,g.own r=some b/\g.ρ r=.pointer (some ⟨b,0,none⟩)/\w.heap[b]?=some (.mapIter (some mb) Ku seen st) /\
   g.S mb 0/\w.heap[mb]?=some (.map es ck)/\(∃sh,Hl sh es ck all)/\Ku=ck/\st=ck /\
   (∀(i:Nat) (kv:Value×AV) (e:MapEntry),all[i]?=some kv->es[i]?=some e->O g w DS kv.2 e.val) /\
   (rem.Nodup/\∀kv∈rem,kv∈all)/\(∀(i:Nat) (kv:Value×AV) (e:MapEntry),all[i]?=some kv->es[i]?=some e->(kv∈rem↔e.born∉seen)) /\
   (match DU with | none=>True | some kv=>∃(i:Nat) (e:MapEntry),all[i]?=some kv/\es[i]?=some e/\seen.back?=some e.born)/\∀o,¬g.S b o
 |.raw b ob=>g.tk r=false/\g.own r=some b/\w.heap[b]?=some ob/\Ae4 ob=true/\∀o,¬g.S b o
def gB:Nat:=0
def Ab8:List (Nat×Nat×Option Value):=[]
def ZF(g:D)(w:World):Prop:=(g.S gB 0/\∃m,w.cell? ⟨gB,0,none⟩=some (.int .i64 m))/\∀x∈Ab8,g.S x.1 x.2.1/\w.cell? ⟨x.1,x.2.1,none⟩=x.2.2
structure CH(w0:World)(g0:D)(h0:Nat->HO)(h:Nat->HO)(g:D)(w:World):Prop where
 os:w.os=w0.os
 tape:w.tape=w0.tape
 output:w.output=w0.output
 size:w0.heap.size<=w.heap.size
 frame:∀b,b<w0.heap.size->(∀r,(h0 r).live->g0.own r≠some b)->w.heap[b]?=w0.heap[b]?
 slt:∀b o,g.S b o->b<w.heap.size
 objs:∀r,DE g w (L h) r (h r)
 inj:∀r r' b,(h r).live->(h r').live->g.own r=some b->g.own r'=some b->r=r'
 loc:∀r b,(h r).live->g.own r=some b->b<w.heap.size/\(w0.heap.size<=b\/∃r',(h0 r').live/\g0.own r'=some b)
 sg:∀b o,g.S b o->g0.S b o\/w0.heap.size<=b\/∃r',(h0 r').live/\g0.own r'=some b
 glob:ZF g w
def D8(g:D)(w:World)(g' : D)(w' : World):Prop:=
 ∀b o,g.S b o->g'.S b o/\w'.cell? ⟨b,o,none⟩=w.cell? ⟨b,o,none⟩/\∀es ck,w.heap[b]?=some (.map es ck)->w'.heap[b]?=some (.map es ck)
def JA(g g' : D)(U:Nat->Prop):Prop:=
 ∀i,U i->g'.tk i=g.tk i/\g.ln i<=g'.ln i/\(g.tk i=false->g'.ρ i=g.ρ i)/\(g'.ln i=g.ln i->g'.ρ i=g.ρ i)
structure Le(h:Nat->HO)(g:D)(w:World)(h' : Nat->HO)(g' : D)(w' : World):Prop where
 gh:JA g g' (L h)
 us:∀i,L h i->L h' i
 keeps:D8 g w g' w'
def Fx (P : Program) (f : Nat) : Prop:=∃ fn, P.funcs[f]?=some fn /\ (fn.name == "runtime.NumGoroutine")=false /\ fn.body.isNone=false
def A1(P:Program)(f:Nat)(args:List AV)(h0:Nat->HO)(Q:AV->(Nat->HO)->Prop):Prop:=
 Fx P f/\∀(g:D) (w:World) (vals:Array Value),vals.size=args.length->(∀(i:Nat) (av:AV) (x:Value),args[i]?=some av->vals[i]?=some x->O g w (L h0) av x) ->
  CH w g h0 h0 g w ->
  Calls P f vals w fun e w'=>∃v r h' g',e=.returned v/\Q r h'/\O g' w' (L h') r v/\CH w g h0 h' g' w'/\Le h0 g w h' g' w'
def Mj(P:Program)(f:Nat)(args:List AV)(res:AV):Prop:=A1 P f args Ab fun r h'=>r=res/\h'=Ab
def I9(P:Program)(Y:D->World->Prop)(l:Nat)(args:List AV)(h0:Nat->HO)(Q:AV->(Nat->HO)->Prop):Prop:=
 ∀(g:D) (w:World) (vals:Array Value),vals.size=args.length->(∀(i:Nat) (av:AV) (x:Value),args[i]?=some av->vals[i]?=some x->O g w (L h0) av x) ->
  CH w g h0 h0 g w->Y g w ->
  YieldAt Fence.wide 0 P l vals w fun e w'=>∃v r h' g',e=.returned v/\Q r h'/\O g' w' (L h') r v/\CH w g h0 h' g' w'/\Le h0 g w h' g' w'
def Aam(P:Program)(Y:D->World->Prop)(f:Nat)(args:List AV)(h0:Nat->HO)(Q:AV->(Nat->HO)->Prop):Prop:=
 Fx P f/\∀(g:D) (w:World) (vals:Array Value),vals.size=args.length->(∀(i:Nat) (av:AV) (x:Value),args[i]?=some av->vals[i]?=some x->O g w (L h0) av x) ->
  CH w g h0 h0 g w->Y g w ->
  Calls P f vals w fun e w'=>∃v r h' g',e=.returned v/\Q r h'/\O g' w' (L h') r v/\CH w g h0 h' g' w'/\Le h0 g w h' g' w'
def F3(P:Program)(Y:Nat->D->World->Prop)(F:AV)(args:List AV)(h:Nat->HO)(Q:AV->(Nat->HO)->Prop):Prop:=
 match F with
 |.v (.func (.func f) ⟨[]⟩ ⟨[]⟩)=>A1 P f args h Q
 |.clo f caps=>A1 P f (args++caps) h Q
 |.v (.func (.yield l) ⟨[]⟩ ⟨[]⟩)=>I9 P (Y l) l args h Q
 |_=>False
def Rw(P:Program)(F:AV)(args:List AV)(res:AV):Prop:=
 match F with
 |.v (.func (.func f) ⟨[]⟩ ⟨[]⟩)=>Mj P f args res
 |.clo f caps=>Mj P f (args++caps) res
 |_=>False
structure Cx where
 P:Program
 T:GL
 pl:Of
 ext:Bool
 nid:Nat
 yp:Nat->Ao4->D->World->Prop
variable (cx:Cx)
def KA(d:Nat):Nat:=bif I1 cx.pl.dyn d then cx.nid else d
abbrev HK:=AV->(Nat->HO)->Prop
def UY(T:GL)(d:Option Nat)(h:Nat->HO)(e:Nat)(K:HK):Prop:=
 match d with
 |none=>False
 |some d=>match h d with
  |.free=>match(T e).d with
   |.other=>False
   |_=>match HP ((T e).zc.map .v)with
    |true=>K (.ref d 0) (AS h d (.cells ((T e).zc.map .v)))
    |false=>False
  |_=>False
def Hf(n:Nat)(a:AV)(K:List AV->Prop):Prop:=
 match a with
 |.agg cs=>match Nat.beq cs.length n with
  |true=>K cs
  |false=>False
 |a=>match one a with
  |true=>match n with
   |1=>K [a]
   |_=>False
  |false=>False
def mT(d:Option Nat)(h:Nat->HO)(e:Nat)(x:AV)(K:HK):Prop:=
 match d with
 |none=>False
 |some d=>match h d with
  |.free=>match(cx.T e).d with
   |.other=>False
   |_=>Hf (cx.T e).size x fun cs=>match I1 cx.pl.frz d with
    |true=>K (.ref d 0) (AS h d (.ro (cs.map (str h))))
    |false=>K (.ref d 0) (AS h d (.cells cs))
  |_=>False
def SN(h:Nat->HO)(t:Nat)(p x:AV)(K:HK):Prop:=
 match(cx.T t).d with
 |.other=>False
 |_=>Hf (cx.T t).size x fun vs=>match p with
  |.ref r off=>match h r with
   |.cells cs=>off+vs.length<=cs.length/\(match I1 cx.pl.frz r with
    |true=>K (.v undef) (AS h r (.ro ((over cs off vs).map (str h))))
    |false=>K (.v undef) (AS h r (.cells (over cs off vs))))
   |_=>False
  |.eref r n sz i off=>match h r with
   |.arr HG es=>match Nat.beq sz HG with
    |true=>n=es.length/\∃cs,es[i]?=some cs/\off+vs.length<=sz/\K (.v undef) (AS h r (.arr sz (es.set i (over cs off (vs.map (str h))))))
    |false=>False
   |_=>False
  |_=>False
def JN(T:GL)(h:Nat->HO)(t:Nat)(p:AV)(K:AV->Prop):Prop:=
 match p with
 |.cptr cs=>Ni T t cs K
 |.ref r off=>match h r with
  |.cells cs=>Ni T t (cs.drop off) K
  |.ro cs=>Ni T t (cs.drop off) K
  |_=>False
 |.eref r n sz i off=>match h r with
  |.arr HG es=>match Nat.beq sz HG with
   |true=>n=es.length/\∃cs,es[i]?=some cs/\Ni T t (cs.drop off) K
   |false=>False
  |_=>False
 |_=>False
def KW(pl:Nat->Option (Nat×Nat))(cs:List AV)(t:Nat->AV)(ps:Ao7)(K:List AV->Prop):Prop:=
 match ps with
 | []=>K cs
 |(i,x)::r=>match pl i with
  |none=>False
  |some (o,n)=>Hf n (ev t x) fun vs=>match Nat.ble (o+n) cs.length with
   |true=>KW pl (over cs o vs) t r K
   |false=>False
def PT(T:GL):Ao4->Bool
 | []=>true
 |(t,_)::r=>match(T t).size with |0=>false |_+1=>PT T r
def RE(T:GL)(ty:Nat)(t:Nat->AV)(ps:Ao7)(K:AV->Prop):Prop:=
 match HP ((T ty).zc.map .v)with
 |false=>False
 |true=>match(T ty).d with
  |.struct fs=>match PT T fs with
   |false=>False
   |true=>KW (fun i=>match ab fs i with |some (t,o)=>some (o,(T t).size) |none=>none) ((T ty).zc.map .v) t ps fun cs=>K (.agg cs)
  |.array _ e=>match(T e).size with
   |0=>False
   |_+1=>KW (fun i=>some (i*(T e).size,(T e).size)) ((T ty).zc.map .v) t ps fun cs=>K (.agg cs)
  |_=>False
def TA(n sz:Nat)(h:Nat->HO)(es:C0)(t:Nat->AV)(ps:Ao7)(K:C0->Prop):Prop:=
 match ps with
 | []=>K es
 |(i,x)::r=>match Nat.blt i n with
  |true=>Hf sz (ev t x) fun vs=>TA n sz h (es.set i (vs.map (str h))) t r K
  |false=>False
abbrev Lz(b:CS):C0:=b.data.toList.map fun c=>[AV.v (.int .u8 c.toNat)]
def gV(d:Option Nat)(h:Nat->HO)(s t:Nat)(x:AV)(K:HK):Prop:=
 match(cx.T s).d,(cx.T t).d,x with
 |.string,.slice e,.v (.string b)=>match(cx.T e).d,d with
  |.int .u8,some d=>match h (KA cx d)with
   |.free=>K (.slice (.id (KA cx d) 1) (Lz b)) (AS h (KA cx d) (.tok 1 (Lz b).length))
   |_=>False
  |_,_=>False
 |_,_,_=>X7 cx.T s t x fun v=>K v h
def EO(d:Option Nat)(h:Nat->HO)(sz:Nat)(es:C0)(K:HK):Prop:=
 match d with
 |none=>False
 |some d=>match h (KA cx d)with
  |.free=>match F7 cx.pl.arr d with
   |some _=>K (.msl (KA cx d) es.length) (AS h (KA cx d) (.arr sz es))
   |none=>K (.slice (.id (KA cx d) sz) es) (AS h (KA cx d) (.tok sz es.length))
  |_=>False
def II(d:Option Nat)(h:Nat->HO)(ty n:Nat)(t:Nat->AV)(ps:Ao7)(K:HK):Prop:=
 match(cx.T ty).d with
 |.slice e=>match HP ((cx.T e).zc.map .v),Nat.beq (cx.T e).zc.length (cx.T e).size with
  |true,true=>match(cx.T e).size with
   |0=>False
   |_+1=>match Nat.ble (n*(cx.T e).size) 16777216 with
    |true=>TA n (cx.T e).size h (List.replicate n ((cx.T e).zc.map .v)) t ps fun es=>EO cx d h (cx.T e).size es K
    |false=>False
  |_,_=>False
 |_=>False
def K9(t:Nat->AV)(h:Nat->HO)(fn:Fn)(first captured:List Operand)(K:AV->Prop):Prop:=
 match fn,first with
 |.func f,[]=>K (.clo f (captured.map fun x=>rsv h (ev t x)))
 |_,_=>False
def Cq(sz:Nat):C0->Prop
 | []=>True
 |c::r=>c.length=sz/\Cq sz r
def LK(h:Nat->HO)(x:AV)(K:C0->Prop):Prop:=
 match x with
 |.slice _ es=>K es
 |.v (.slice none 0 0)=>K []
 |.msl r n=>match h r with
  |.arr _ es=>n=es.length/\K es
  |_=>False
 |_=>False
def Iy(d:Option Nat)(h:Nat->HO)(ty:Nat)(s x:AV)(K:HK):Prop:=
 match(cx.T ty).d with
 |.slice e=>match Nat.beq (cx.T e).zc.length (cx.T e).size with
  |false=>False
  |true=>match(cx.T e).size with
   |0=>False
   |_+1=>LK h x fun es2=>match s with
    |.v (.slice none 0 0)=>(Cq (cx.T e).size es2/\es2.length*(cx.T e).bytes<=2^47/\es2.length<=2^63-1)/\EO cx d h (cx.T e).size es2 K
    |.slice (.full HG) es=>match Nat.beq HG (cx.T e).size with
     |true=>(Cq (cx.T e).size es2/\0<es2.length/\(es.length+es2.length)*(cx.T e).bytes<=2^47/\es.length+es2.length<=2^63-1)/\EO cx d h (cx.T e).size (es++es2) K
     |false=>False
    |.slice (.id r HG) es=>match h r with
     |.tok sz n=>match Nat.beq sz (cx.T e).size,Nat.beq HG sz with
      |true,true=>(Cq sz es2/\es.length=n/\(es.length+es2.length)*(cx.T e).bytes<=2^47/\es.length+es2.length<=2^63-1) /\
        K (.slice (.id r sz) (es++es2)) (AS h r (.tok sz (es.length+es2.length)))
      |_,_=>False
     |_=>False
    |.msl r n=>match h r with
     |.arr sz es=>match Nat.beq sz (cx.T e).size with
      |true=>(Cq sz es2/\es.length=n/\(es.length+es2.length)*(cx.T e).bytes<=2^47/\es.length+es2.length<=2^63-1) /\
        K (.msl r (es.length+es2.length)) (AS h r (.arr sz (es++es2)))
      |false=>False
     |_=>False
    |_=>False
 |_=>False
abbrev I7:=Ao4
variable (σ:I7)
inductive AdT | pure | rel | gen (σ:I7) (nn:Nat) | geny (σ:I7) (nn:Nat)
def Ck(σ:I7)(n:Nat):Option Nat:=
 match σ with
 | []=>none
 |(i,j)::r=>bif Nat.beq i n then some j else Ck r n
def Il(σ:I7)(n:Nat):Option Nat:=
 match σ with
 | []=>none
 |(i,j)::r=>bif Nat.beq j n then some i else Il r n
def Ea:I7->Bool
 | []=>true
 |(i,j)::r=>(match Ck r i,Il r j with |none,none=>true |_,_=>false)&&Nat.ble 1000 j&&Nat.blt j 2000&&Ea r
def GD:I7->Bool
 | []=>true
 |(i,j)::r=>(match Ck r i,Il r j with |none,none=>true |_,_=>false)&&GD r
def ren0(h:Nat->HO):AV->AV
 |.slice (.id r sz) es=>match f r with |some r'=>.slice (.id r' sz) es |none=>.slice .none es
 |.slice (.ver r sz v) es=>match f r with |some r'=>.slice (.ver r' sz v) es |none=>.slice .none es
 |.msl r n=>match f r with |some r'=>.msl r' n |none=>.junk
 |.ref r off=>match f r with |some r'=>.ref r' off |none=>str0 h (.ref r off)
 |.eref r n sz i off=>match f r with |some r'=>.eref r' n sz i off |none=>.junk
 |.mref r=>match f r with |some r'=>.mref r' |none=>str0 h (.mref r)
 |a=>str0 h a
def ren1(h:Nat->HO):AV->AV
 |.agg cs=>.agg (cs.map (ren0 f h))
 |.clo g cs=>.clo g (cs.map (ren0 f h))
 |a=>ren0 f h a
def ren(h:Nat->HO):AV->AV
 |.tup cs=>.tup (cs.map (ren1 f h))
 |a=>ren1 f h a
def HO.ren(h:Nat->HO):HO->HO
 |.cells cs=>.cells (cs.map (ren1 f h))
 |.mapU sh BM=>.mapU sh (BM.map fun p=>(p.1,ren1 f h p.2))
 |o=>o
def Ah(l:List (Nat×HO))(hb:Nat->HO)(i:Nat):HO:=match l with | []=>hb i | (j,v)::r=>bif Nat.beq i j then v else Ah r hb i
def bo(f:Nat->Option Nat)(h:Nat->HO):I7->List (Nat×HO)
 | []=>[]
 |(i,j)::r=>(j,(h i).ren f h)::bo f h r
def Fv(h:Nat->HO):Nat->HO:=Ah (bo (Ck σ) h σ) Ab
def BE(d k:Nat):Nat:=10000+100*d+k
def E2(d nn:Nat)(j:Nat):Option Nat:=
 match Il σ j with
 |some i=>some i
 |none=>match Nat.ble 2000 j&&Nat.blt j (2000+nn)with |true=>some (BE d (j-2000)) |false=>none
def DW(d nn:Nat)(h h' : Nat->HO):Nat->HO:=fun i=>
 match Ck σ i with
 |some j=>(h' j).ren (E2 σ d nn) h'
 |none=>match Nat.ble (BE d 0) i&&Nat.blt i (BE d nn)with |true=>(h' (2000+(i-BE d 0))).ren (E2 σ d nn) h' |false=>h i
def DO(h:Nat->HO)(d:Nat):Nat->Bool
 |0=>true
 |k+1=>(match h (BE d k)with |.free=>true |_=>false)&&DO h d k
def CQ(σ:I7)(d nn:Nat):Bool:=
 match σ with
 | []=>true
 |(i,_)::r=>!(Nat.ble (BE d 0) i&&Nat.blt i (BE d nn))&&CQ r d nn
def U2(l:Ao4)(d:Option Nat):Option Nat:=match d with | none=>none | some d=>F7 l d
def lq:AV->Bool | .tup _=>false | _=>true
def We:List AV->Bool
 | []=>true
 |a::r=>match lq a with |true=>We r |false=>false
def Zz:List AV->Option (List Value)
 | []=>some []
 |.v x::r=>match Zz r with |some l=>some (x::l) |none=>none
 |_=>none
def T9(k:Nat)(d:Option Nat)(h:Nat->HO)(F:AV)(args:List AV)(K:HK):Prop:=
 match d,F,args with
 |some d,.v (.func (.func f) ⟨[]⟩ ⟨[]⟩),.msl r n::l=>match Zz l with
  |some vs=>match h r with
   |.arr sz es=>match k with
    |0=>∃n' FG,A1 cx.P f (.msl 1000 n::vs.map .v) (Ah [(1000,.arr sz es)] Ab) (fun r' h'=>r'=.msl 1000 n'/\h'=Ah [(1000,.arr sz FG)] Ab)/\K (.msl r n') (AS h r (.arr sz FG))
    |_+1=>∃n' FG,(DO h d 1&&Nat.blt r 10000000&&!Nat.beq r (BE d 0))=true/\A1 cx.P f (.msl 1000 n::vs.map .v) (Ah [(1000,.arr sz es)] Ab) (fun r' h'=>r'=.msl 2000 n'/\h'=Ah [(1000,.dead),(2000,.arr sz FG)] Ab) /\
      K (.msl (BE d 0) n') (AS (AS h r .dead) (BE d 0) (.arr sz FG))
   |_=>False
  |none=>False
 |_,_,_=>False
def bF(d:Option Nat)(st:St)(F:AV)(args:List AV)(K:HK):Prop:=
 match d with
 |none=>False
 |some d=>∃sz es,(DO st.h d 1&&lq F&&We args)=true/\F3 cx.P (fun l=>cx.yp l []) (str st.h F) (args.map (str st.h)) Ab (fun r h'=>r=.slice (.id 2000 sz) es/\h'=Ah [(2000,.tok sz es.length)] Ab) /\
   K (.slice (.id (BE d 0) sz) es) (AS st.h (BE d 0) (.tok sz es.length))
def W9(d:Option Nat)(st:St)(F:AV)(args:List AV)(K:HK):Prop:=
  match d,F,Zz args with
  |some _,.v (.func (.yield l) ⟨[]⟩ ⟨[]⟩),some vs=>match st.h 1000,st.h 1001 with
    |.cells [.slice (.id r sz) es],.tok yA n=>(r=1001/\yA=sz)/\∃v FG n',I9 cx.P (cx.yp l [(1000,1000),(1001,1001)]) l (vs.map .v) (Ah [(1000,.cells [.slice (.id 1001 sz) es]),(1001,.tok sz n)] Ab)
          (fun r h'=>r=.v v/\h'=Ah [(1000,.cells [.slice (.id 1001 sz) FG]),(1001,.tok sz n')] Ab) /\
        K (.v v) (AS (AS st.h 1001 (.tok sz n')) 1000 (.cells [.slice (.id 1001 sz) FG]))
    |_,_=>False
  |_,_,_=>False
def wv:Ao3:=[1000,1001,1002,1003,1004,1005,1006,1007,10900,5]
def qY:AV->Option (Nat×List AV)
 |.v (.func (.func f) ⟨[]⟩ ⟨[]⟩)=>some (f,[])
 |.clo f caps=>some (f,caps)
 |_=>none
def df(d:Option Nat)(st:St)(F:AV)(args:List AV)(K:HK):Prop:=
 match d,qY F with
 |some d,some (f,caps)=>∃(σ:I7) (H0 Hn:List (Nat×HO)) (args' : List AV) (res:AV),
   (∀h2:Nat->HO,(∀r∈wv,h2 r=st.h r)->Fv σ h2=Ah H0 Ab/\args.map (ren (Ck σ) h2)++caps.map (ren0 (Ck σ) h2)=args')/\(Ea σ&&CQ σ d 0&&σ.all fun p=>I1 wv p.1)=true /\
   A1 cx.P f args' (Ah H0 Ab) (fun r h'=>r=res/\h'=Ah Hn Ab)/\K (ren (E2 σ d 0) (Ah Hn Ab) res) (DW σ d 0 st.h (Ah Hn Ab))
 |_,_=>False
def T2(k:Nat)(d:Option Nat)(st:St)(F:AV)(args:List AV)(K:HK):Prop:=
 match Nat.beq k 4 with
 |true=>df cx d st F args K
 |false=>T9 cx k d st.h F args K
def Gs(dr:Bool)(d:Option Nat)(st:St)(F:AV)(args:List AV)(K:HK):Prop:=
 match dr with
 |true=>match U2 cx.pl.dc d with
  |none=>∃res,Rw cx.P (str st.h F) (args.map (str st.h)) res/\K res st.h
  |some 0=>match d with
   |none=>False
   |some d=>∃n sz es,(DO st.h d 1&&lq F&&We args)=true/\F3 cx.P (fun l=>cx.yp l []) (str st.h F) (args.map (str st.h)) Ab (fun r h'=>r=.msl 2000 n/\h'=Ah [(2000,.arr sz es)] Ab) /\
     K (.msl (BE d 0) n) (AS st.h (BE d 0) (.arr sz es))
  |some (k+1)=>match Nat.beq k 2 with
   |true=>bF cx d st F args K
   |false=>match Nat.beq k 3 with
    |true=>W9 cx d st F args K
    |false=>T2 cx k d st F args K
 |false=>∃m:AdT,match m with
  |.pure=>∃res,Rw cx.P (str st.h F) (args.map (str st.h)) res/\K res st.h
  |.rel=>F3 cx.P (fun _ _ _=>True) (str st.h F) (args.map (str st.h)) Ab fun r h'=>h'=Ab/\K r st.h
  |.gen σ nn=>match d with
   |none=>False
   |some d=>(Ea σ&&DO st.h d nn&&CQ σ d nn)=true /\
     F3 cx.P (fun l=>cx.yp l σ) (ren (Ck σ) st.h F) (args.map (ren (Ck σ) st.h)) (Fv σ st.h) fun r h'=>K (ren (E2 σ d nn) h' r) (DW σ d nn st.h h')
  |.geny σ nn=>match d with
   |none=>False
   |some d=>(Ea σ&&DO st.h d nn&&CQ σ d nn)=true /\
     match ren (Ck σ) st.h F with
     |.clo f caps=>Aam cx.P (fun g w=>∀l,cx.yp l σ g w) f (args.map (ren (Ck σ) st.h)++caps) (Fv σ st.h) fun r h'=>K (ren (E2 σ d nn) h' r) (DW σ d nn st.h h')
     |_=>False
def bH:List AV->Option (List Value)
 | []=>some []
 |.v x::r=>match bH r with |some l=>some (x::l) |none=>none
 |_=>none
def AbW:AV->Option Value
 |.v x=>some x
 |.agg cs=>match bH cs with |some l=>some (.agg l.toArray) |none=>none
 |_=>none
def Ig(T:GL)(t:Nat):Option Ez:=
 match(T t).d with
 |.struct _=>match HY T 8 t with |some l=>some ⟨true,l⟩ |none=>none
 |_=>match HY T 1 t with |some l=>some ⟨false,l⟩ |none=>none
def xt:KS->KS->Bool
 |.int k,.int k'=>ikB k k'
 |.str,.str=>true
 |.bool,.bool=>true
 |_,_=>false
def VY:List KS->List KS->Bool
 | [],[]=>true
 |a::r,b::s=>match xt a b with |true=>VY r s |false=>false
 |_,_=>false
def AcE(a b:Ez):Bool:=
 match a.agg,b.agg with
 |true,true=>VY a.l b.l
 |false,false=>VY a.l b.l
 |_,_=>false
def KB(T:GL)(ty:Nat)(sh:Ez)(k:AV)(K:Value->Prop):Prop:=
 match(T ty).d with
 |.map kt _=>match Ig T kt with
  |some sh'=>match AcE sh sh' with
   |true=>match AbW k with
    |some kx=>match bt sh kx with
     |true=>K kx
     |false=>False
    |none=>False
   |false=>False
  |none=>False
 |_=>False
open Classical in
noncomputable def EN(BM:List (Value×AV))(k:Value)(a:AV):List (Value×AV):=
 if ∃a',(k,a')∈BM then BM.map fun p=>if p.1=k then(k,a)else p else BM++[(k,a)]
def La(T:GL)(mku:Ao3)(d:Option Nat)(h:Nat->HO)(ty:Nat)(K:HK):Prop:=
 match d with
 |none=>False
 |some d=>match h d with
  |.free=>match(T ty).d with
   |.map kt _=>match Ig T kt with
    |some sh=>match I1 mku d with
     |true=>K (.mref d) (AS h d (.mapU sh []))
     |false=>K (.mref d) (AS h d (.map sh []))
    |none=>False
   |_=>False
  |_=>False
def Hi(T:GL)(h:Nat->HO)(ty:Nat)(m k x:AV)(K:HK):Prop:=
 match m with
 |.mref r=>match h r with
  |.map sh BM=>KB T ty sh k fun kx=>K (.v undef) (AS h r (.map sh (EN BM kx (str h x))))
  |.mapU sh BM=>KB T ty sh k fun kx=>K (.v undef) (AS h r (.mapU sh (EN BM kx x)))
  |_=>False
 |_=>False
def KG(T:GL)(t:Nat)(K:AV->Prop):Prop:=
 match(T t).d with
 |.other=>False
 |_=>match(T t).zero with
  |.agg cs=>match HP (cs.toList.map .v)with |true=>K (.agg (cs.toList.map .v)) |false=>False
  |z=>K (.v z)
def M6(T:GL)(ty:Nat)(ok:Bool)(BM:List (Value×AV))(kx:Value)(K:AV->Prop):Prop:=
 match(T ty).d with
 |.map _ e=>match ok with
  |true=>(∀a,(kx,a)∈BM->K (.tup [a,.v (.bool true)]))/\((∀a,(kx,a)∉BM)->KG T e fun z=>K (.tup [z,.v (.bool false)]))
  |false=>(∀a,(kx,a)∈BM->K a)/\((∀a,(kx,a)∉BM)->KG T e K)
 |_=>False
def M5(T:GL)(ty:Nat)(ok:Bool)(BM:List (Value×AV))(kx:Value)(K:AV->Prop):Prop:=
 match(T ty).d with
 |.map _ e=>match ok with
  |true=>(∃a,((kx,a)∈BM/\∀b,(kx,b)∈BM->b=a)/\K (.tup [a,.v (.bool true)]))\/((∀a,(kx,a)∉BM)/\KG T e fun z=>K (.tup [z,.v (.bool false)]))
  |false=>(∃a,((kx,a)∈BM/\∀b,(kx,b)∈BM->b=a)/\K a)\/((∀a,(kx,a)∉BM)/\KG T e K)
 |_=>False
def NZ(T:GL)(h:Nat->HO)(ty:Nat)(m k:AV)(ok:Bool)(K:AV->Prop):Prop:=
 match m with
 |.cmap sh BM=>KB T ty sh k fun kx=>M5 T ty ok BM kx K
 |.mref r=>match h r with
  |.map sh BM=>KB T ty sh k fun kx=>M5 T ty ok BM kx K
  |.mapU sh BM=>KB T ty sh k fun kx=>M5 T ty ok BM kx K
  |.rom sh BM=>KB T ty sh k fun kx=>M5 T ty ok BM kx K
  |_=>False
 |_=>False
def N0(T:GL)(h:Nat->HO)(ty:Nat)(m k:AV)(ok:Bool)(K:AV->Prop):Prop:=
 match m with
 |.cmap sh BM=>KB T ty sh k fun kx=>M6 T ty ok BM kx K
 |.mref r=>match h r with
  |.map sh BM=>KB T ty sh k fun kx=>M6 T ty ok BM kx K
  |.mapU sh BM=>KB T ty sh k fun kx=>M6 T ty ok BM kx K
  |.rom sh BM=>KB T ty sh k fun kx=>M6 T ty ok BM kx K
  |_=>False
 |_=>False
def ja(d:Option Nat)(h:Nat->HO)(x:AV)(K:HK):Prop:=
 match d with
 |none=>False
 |some d=>match h d with
  |.free=>match x with
   |.cmap _ BM=>K (.ref d 0) (AS h d (.iter BM BM none))
   |.mref r=>match h r with
    |.rom _ BM=>K (.ref d 0) (AS h d (.iter BM BM none))
    |.map sh BM=>K (.ref d 0) (AS (AS h r (.rom sh BM)) d (.iter BM BM none))
    |_=>False
   |_=>False
  |_=>False
def sE(h:Nat->HO)(x:AV)(K:HK):Prop:=
 match x with
 |.ref r 0=>match h r with
  |.iter all rem _=>(rem=[]->K (.tup [.v (.bool false)]) h) /\
    (∀kv QW,rem.Perm (kv::QW)->K (.tup [.v (.bool true),.v kv.1,kv.2]) (AS h r (.iter all QW (some kv))))
  |_=>False
 |_=>False
def g8(h:Nat->HO)(x:AV)(K:AV->Prop):Prop:=
 match x with
 |.ref r 0=>match h r with
  |.iter _ _ (some kv)=>K (.tup [.v kv.1,kv.2])
  |_=>False
 |_=>False
def TO(T:GL)(t:Nat)(h:Nat->HO)(x:AV)(K:AV->Prop):Prop:=
 match(T t).d with
 |.slice _=>match x with
  |.slice _ es=>K (.v (.int .i64 es.length))
  |.msl _ n=>K (.v (.int .i64 n))
  |.v (.slice none 0 0)=>K (.v (.int .i64 0))
  |_=>False
 |.string=>match x with
  |.v (.string s)=>K (.v (.int .i64 s.size))
  |_=>False
 |.map _ _=>match x with
  |.cmap _ BM=>K (.v (.int .i64 BM.length))
  |.mref r=>match h r with
   |.map _ BM=>K (.v (.int .i64 BM.length))
   |.mapU _ BM=>K (.v (.int .i64 BM.length))
   |.rom _ BM=>K (.v (.int .i64 BM.length))
   |_=>False
  |_=>False
 |_=>False
def Ix(d:Option Nat)(h:Nat->HO)(ty:Nat)(x:AV)(lo hi mx:Option (Option Int))(K:HK):Prop:=
 match lo,hi,mx with
 |some lo,some hi,some mx=>match(cx.T ty).d with
  |.string=>match mx,x with
   |none,.v (.string s)=>(0<=lo.getD 0/\lo.getD 0<=hi.getD s.size/\hi.getD s.size<=s.size)/\K (.v (.string (s.extract (lo.getD 0).toNat (hi.getD s.size).toNat))) h
   |_,_=>False
  |.slice e=>match(cx.T e).size with
   |0=>False
   |_+1=>match x with
    |.slice _ es=>match mx with
     |none=>(0<=lo.getD 0/\lo.getD 0<=hi.getD es.length/\hi.getD es.length<=es.length) /\
       (∀cs∈es,cs.length=(cx.T e).size)/\K (.slice .none ((es.take (hi.getD es.length).toNat).drop (lo.getD 0).toNat)) h
     |some m=>match d,hi with
      |some d,some hi=>match F7 cx.pl.arr d with
       |some _=>(0<=lo.getD 0/\lo.getD 0<=hi/\m=hi/\hi<=es.length)/\(∀cs∈es,cs.length=(cx.T e).size) /\
         K (.slice (.full (cx.T e).size) ((es.take hi.toNat).drop (lo.getD 0).toNat)) h
       |none=>match h d with
        |.free=>(0<=lo.getD 0/\lo.getD 0<=hi/\m=hi/\hi<=es.length)/\(∀cs∈es,cs.length=(cx.T e).size) /\
          K (.slice (.id d (cx.T e).size) ((es.take hi.toNat).drop (lo.getD 0).toNat)) (AS h d (.tok (cx.T e).size (hi.toNat-(lo.getD 0).toNat)))
        |_=>False
      |_,_=>False
    |.v (.slice none 0 0)=>(lo.getD 0=0/\hi.getD 0=0/\mx.getD 0=0)/\(mx=none\/hi≠none)/\K (.v (.slice none 0 0)) h
    |.msl r n=>match h r with
     |.arr sz es=>match Nat.beq sz (cx.T e).size with
      |true=>(n=es.length/\0<=lo.getD 0/\lo.getD 0<=hi.getD es.length/\hi.getD es.length<=es.length/\(mx=none\/(mx=hi/\hi≠none))) /\
        K (.slice .none ((es.take (hi.getD es.length).toNat).drop (lo.getD 0).toNat)) (AS h r .dead)
      |false=>False
     |_=>False
    |_=>False
  |_=>False
 |_,_,_=>False
def WB(d:Option Nat)(h:Nat->HO)(ty:Nat)(x:AV)(lo:Option (Option Int))(hi mx:Option Operand)(K:HK):Prop:=
 match d,lo,hi,mx with
 |some d,some (some lo),none,none=>match(cx.T ty).d with
  |.slice e=>match(cx.T e).size with
   |0=>False
   |_+1=>match x with
    |.slice (.id r sz) es=>match h r with
     |.tok HG n=>match h (KA cx d)with
      |.free=>match Nat.beq HG sz,Nat.beq sz (cx.T e).size with
       |true,true=>(es.length=n/\0<=lo/\lo<=es.length)/\K (.slice (.id (KA cx d) sz) (es.drop lo.toNat)) (AS (AS h r .dead) (KA cx d) (.tok sz (es.drop lo.toNat).length))
       |_,_=>False
      |_=>False
     |_=>False
    |_=>False
  |_=>False
 |_,_,_,_=>False
def tA(d:Option Nat)(h:Nat->HO)(ty:Nat)(x:AV)(hi:Option (Option Int))(K:HK):Prop:=
 match d,hi with
 |some d,some (some hi)=>match(cx.T ty).d with
  |.slice e=>match(cx.T e).size with
   |0=>False
   |_+1=>match x with
    |.msl r n=>match h r with
     |.arr sz es=>match h (KA cx d)with
      |.free=>match Nat.beq sz (cx.T e).size,Nat.blt r 10000000&&Nat.blt 0 (KA cx d)with
       |true,true=>(n=es.length/\0<=hi/\hi<=es.length)/\K (.msl (KA cx d) hi.toNat) (AS (AS h r .dead) (KA cx d) (.arr sz (es.take hi.toNat)))
       |_,_=>False
      |_=>False
     |_=>False
    |_=>False
  |_=>False
 |_,_=>False
def Ws(d:Option Nat)(h:Nat->HO)(ty:Nat)(x:AV)(lo:Option Operand)(hi:Option (Option Int))(mx:Option Operand)(K:HK):Prop:=
 match lo,mx with
 |none,none=>tA cx d h ty x hi K
 |_,_=>False
def gG(T:GL)(h:Nat->HO)(ty:Nat)(x:AV)(hi mx:Option Operand)(K:AV->Prop):Prop:=
 match hi,mx,(T ty).d,x with
 |none,none,.array n e,.ref r 0=>match(T e).size,h r with
  |1,.ro cs=>n=cs.length/\K (.slice .none (cs.map fun c=>[c]))
  |_,_=>False
 |_,_,_,_=>False
def tN(d:Option Nat)(h:Nat->HO)(ty:Nat)(x:AV)(t:Nat->AV)(lo hi mx:Option Operand)(K:HK):Prop:=
 match lo with
 |none=>match(cx.T ty).d with
  |.array _ _=>gG cx.T h ty x hi mx fun v=>K v h
  |_=>Ws cx d h ty x none (CE t hi) mx K
 |some lo=>WB cx d h ty x (CE t (some lo)) hi mx K
def unT:AV->AV
 |.slice _ es=>.slice .none es
 |a=>a
def PX(d:Option Nat)(h:Nat->HO)(x:AV)(K:HK):Prop:=
 match d with
 |none=>K x h
 |some d=>match F7 cx.pl.tok d with
  |some sz=>match Nat.beq sz 0 with
   |true=>K (unT x) h
   |false=>match x with
    |.v (.slice none 0 0)=>match h d with
     |.free=>K (.slice (.id d sz) []) (AS h d (.tok sz 0))
     |_=>False
    |x=>K x h
  |none=>match F7 cx.pl.arr d with
   |some sz=>match x with
    |.v (.slice none 0 0)=>match h d with
     |.free=>K (.msl d 0) (AS h d (.arr sz []))
     |_=>False
    |x=>K x h
   |none=>K x h
def xI(l:List AV)(n:Nat):Option AV:=
 match l with
 | []=>none
 |x::r=>match n with |0=>some x |n+1=>xI r n
def M2(i:Nat)(K:AV->Prop):Prop:=
 match x with
 |.tup vs=>match xI vs i with
  |some a=>K a
  |none=>False
 |_=>False
def Lc:Prop:=
 match x with
 |.ref r o=>K (.ref r o)
 |.eref r n z i o=>K (.eref r n z i o)
 |.cptr cs=>K (.cptr cs)
 |.clo f cs=>K (.clo f cs)
 |.v (.func (.func f) a b)=>K (.v (.func (.func f) a b))
 |_=>False
def fg(c a b:AV)(K:AV->Prop):Prop:=
 match c with
 |.v (.bool true)=>K a
 |.v (.bool false)=>K b
 |_=>False
def xA(f:Int->Int->Int)(x y:AV)(K:AV->Prop):Prop:=
 match x,y with
 |.v (.int k a),.v (.int k' b)=>match ikB k k' with
  |true=>K (.v (.int k (f a b)))
  |false=>False
 |_,_=>False
def JO(d:Option Nat)(h:Nat->HO)(ty:Nat)(len cap:AV)(K:HK):Prop:=
 match(cx.T ty).d,len,cap with
 |.slice e,.v (.int .i64 n),.v (.int .i64 c)=>match HP ((cx.T e).zc.map .v)with
  |true=>match Nat.beq (cx.T e).zc.length (cx.T e).size with
   |true=>match(cx.T e).size with
    |0=>False
    |_+1=>(0<=n/\n<=c/\c*(cx.T e).bytes<=2^47/\c<=2^63-1)/\EO cx d h (cx.T e).size (List.replicate n.toNat ((cx.T e).zc.map .v)) K
   |false=>False
  |false=>False
 |_,_,_=>False
def fQ(op:UnOp)(x:AV)(K:AV->Prop):Prop:=
 match op,x with
 |.not,x=>oz K x
 |.neg,.v (.int .i64 a)=>As (-a)/\K (.v (.int .i64 (-a)))
 |.xor,.v (.int k a)=>K (.v (.int k (Dv .xor k (if k.signed then -1 else k.max) a)))
 |_,_=>False
def FV(d:Option Nat)(h:Nat->HO)(b:Builtin)(Hd:Ao3)(args:List AV)(K:HK):Prop:=
 match b,args,Hd with
 |.len,[x],[t]=>TO cx.T t h x fun v=>K v h
 |.append,[s,x],[t,t']=>match Nat.beq t t' with
  |true=>Iy cx d h t s x K
  |false=>False
 |.max,[x,y],_=>xA max x y fun v=>K v h
 |.min,[x,y],_=>xA min x y fun v=>K v h
 |_,_,_=>False
def FU(dr:Bool)(o:Oper)(st:St)(K:HK):Prop:=
 match o.op with
 |.move x=>K (ev st.t x) st.h
 |.assign x=>PX cx o.dst st.h (ev st.t x) K
 |.pick c a b=>fg (ev st.t c) (ev st.t a) (ev st.t b) fun v=>K v st.h
 |.alloc e=>UY cx.T o.dst st.h e K
 |.box e x=>mT cx o.dst st.h e (ev st.t x) K
 |.build ty ps=>RE cx.T ty st.t ps.toList fun v=>K v st.h
 |.buildSlice ty n ps=>II cx o.dst st.h ty n st.t ps.toList K
 |.insert ty m k x=>Hi cx.T st.h ty (ev st.t m) (ev st.t k) (ev st.t x) K
 |.load ty x=>JN cx.T st.h ty (ev st.t x) fun v=>K v st.h
 |.store ty p x=>SN cx st.h ty (ev st.t p) (ev st.t x) K
 |.nilCheck x=>Lc (ev st.t x) fun v=>K v st.h
 |.binOp op ty x y _=>co cx.T op ty y (ev st.t x) (ev st.t y) fun v=>K v st.h
 |.unOp op _ x=>fQ op (ev st.t x) fun v=>K v st.h
 |.convert s ty x=>match dr with
  |true=>X7 cx.T s ty (ev st.t x) fun v=>K v st.h
  |false=>gV cx o.dst st.h s ty (ev st.t x) K
 |.makeFunc fn first cap=>K9 st.t st.h fn first.toList cap.toList fun v=>K v st.h
 |.makeMap ty none=>La cx.T cx.pl.mku o.dst st.h ty K
 |.makeSlice ty n c=>JO cx o.dst st.h ty (ev st.t n) (ev st.t c) K
 |.slice ty x lo hi mx=>match dr with
  |true=>match U2 cx.pl.tok o.dst with
   |none=>Ix cx o.dst st.h ty (ev st.t x) (CE st.t lo) (CE st.t hi) (CE st.t mx) K
   |some _=>Ws cx o.dst st.h ty (ev st.t x) lo (CE st.t hi) mx K
  |false=>match U2 cx.pl.tok o.dst with
   |none=>Ix cx o.dst st.h ty (ev st.t x) (CE st.t lo) (CE st.t hi) (CE st.t mx) K
   |some _=>tN cx o.dst st.h ty (ev st.t x) st.t lo hi mx K
 |.fieldAddr s x f=>Vq cx.T s f (ev st.t x) fun v=>K v st.h
 |.field s x f=>Qo cx.T s f (ev st.t x) fun v=>K v st.h
 |.indexAddr ty x ix=>JL cx.T ty (ev st.t x) (ev st.t ix) fun v=>K v st.h
 |.index ty x ix=>VT cx.T ty (ev st.t x) (ev st.t ix) fun v=>K v st.h
 |.lookup ty x ix ok=>match dr with
  |true=>NZ cx.T st.h ty (ev st.t x) (ev st.t ix) ok fun v=>K v st.h
  |false=>N0 cx.T st.h ty (ev st.t x) (ev st.t ix) ok fun v=>K v st.h
 |.mapUpdate ty m k x=>Hi cx.T st.h ty (ev st.t m) (ev st.t k) (ev st.t x) K
 |.range ty x=>match(cx.T ty).d with |.map _ _=>ja o.dst st.h (ev st.t x) K |_=>False
 |.next it false=>sE st.h (ev st.t it) K
 |.entry it=>g8 st.h (ev st.t it) fun v=>K v st.h
 |.extract x i=>M2 (ev st.t x) i fun v=>K v st.h
 |.call c=>match c.callee with
  |.builtin b=>FV cx o.dst st.h b c.argTypes.toList (c.args.toList.map (ev st.t)) K
  |.value f=>Gs cx dr o.dst st (ev st.t f) (c.args.toList.map (ev st.t)) K
  |_=>False
 |_=>False
def L4(ops:Ao5)(j:Nat):Option Nat:=match ops with | []=>none | o::r=>match j with | 0=>o.dst | j+1=>L4 r j
def tB(o:Oper)(st:St):St:=
 match o.dst with
 |none=>st
 |some d=>match Ae1 cx.pl.tz d with
  |some (r,k,j,sz)=>⟨st.t,tz1 st.h r k j sz⟩
  |none=>match Aaz cx.pl.fz d with
   | []=>st
   |l=>⟨st.t,Qw st.h l⟩
def akK(o:Oper)(st:St)(K:St->Prop):Prop:=
 match o.dst with
 |none=>K st
 |some d=>match F7 cx.pl.ak d with
  |none=>K st
  |some s=>match st.t s with
   |.msl r n=>match st.h r with
    |.arr sz es=>n=es.length/\K ⟨KE st.t s (.slice (.id r sz) es),AS st.h r (.tok sz es.length)⟩
    |_=>K st
   |_=>K st
def qe(dr:Bool)(o:Oper)(st:St)(K:St->Prop):Prop:=
 match dr with
 |true=>FU cx true o st fun v h=>K (st.put o.dst v h)
 |false=>akK cx o (tB cx o st) fun E6=>FU cx false o E6 fun v h=>K (E6.put o.dst v h)
def JD(dr:Bool)(all:Ao5)(o:Oper)(st:St)(K:St->Prop):Prop:=
 match o.guard with
 |none=>qe cx dr o st K
 |some (j,want)=>match L4 all j with
  |none=>False
  |some d=>match st.t d,want with
   |.v (.bool true),true=>qe cx dr o st K
   |.v (.bool false),false=>qe cx dr o st K
   |.v (.bool true),false=>K (st.put o.dst (.v undef) st.h)
   |.v (.bool false),true=>K (st.put o.dst (.v undef) st.h)
   |.v (.tuple _),_=>K (st.put o.dst (.v undef) st.h)
   |_,_=>False
def vH(cx:Cx)(all l:Ao5)(st:St)(K:St->Prop):Prop:=
 match l with
 | []=>K st
 |o::r=>JD cx false all o st fun E6=>vH cx all r E6 K
def dC:AV->Ao3
 |.ref r _=>[r]
 |.mref r=>[r]
 |_=>[]
def xl:List AV->Ao3
 | []=>[]
 |a::r=>dC a++xl r
def aA:AV->Ao3
 |.agg cs=>xl cs
 |.clo _ cs=>xl cs
 |a=>dC a
def AbP:List AV->Ao3
 | []=>[]
 |a::r=>aA a++AbP r
def dB:AV->Ao3
 |.agg cs=>AbP cs
 |a=>aA a
def VQ:List AV->Ao3
 | []=>[]
 |a::r=>dB a++VQ r
abbrev Ft:=Ao3×Option Nat
def IK(d:Option Nat)(l:Ao3):Option Ft:=match d with | some d=>some (d::l,some d) | none=>none
def ol:AV->Ao3
 |.msl r _=>[r]
 |_=>[]
def ac(d:Option Nat)(s x:AV):Option Ft:=
 match s with
 |.v (.slice none 0 0)=>IK (d.map (KA cx)) (ol x)
 |.slice (.full _) _=>IK (d.map (KA cx)) (ol x)
 |.slice (.id r _) _=>IK (some r) (ol x)
 |.msl r _=>IK (some r) (ol x)
 |_=>none
def kj(d:Option Nat)(args:List AV):Option Ft:=
 match d with
 |some d=>match args with
  |.msl r _::_=>some ([r,BE d 0],some (r+10000000*BE d 0))
  |_=>none
 |none=>none
theorem ia{d:Option Nat}{args:List AV}{f:Ft}(h:kj d args=some f):∃d' r n l,d=some d'/\args=.msl r n::l/\f=([r,BE d' 0],some (r+10000000*BE d' 0)):=by
 unfold kj at h;split at h
 .split at h
  .cases h;exact⟨_,_,_,_,rfl,rfl,rfl⟩
  .cases h
 .cases h
def qT(d:Option Nat)(x:AV):Option Ft:=
 match d with
 |some d=>match x with
  |.msl r _=>some ([r,d],some (r+10000000*d))
  |_=>none
 |none=>none
theorem ib{d:Option Nat}{x:AV}{f:Ft}(h:qT d x=some f):∃d' r n,d=some d'/\x=.msl r n/\f=([r,d'],some (r+10000000*d')):=by
 unfold qT at h;split at h
 .split at h
  .cases h;exact⟨_,_,_,rfl,rfl,rfl⟩
  .cases h
 .cases h
def qU(args:List AV):Option Ft:=match Zz args with | some _=>some ([1000,1001],some 10010001000) | none=>none
def ZL:Nat:=99999999999999
def qS(k:Nat)(d:Option Nat)(args:List AV):Option Ft:=
 match Nat.beq k 3 with
 |true=>some (wv,some ZL)
 |false=>kj d args
def G1(d:Option Nat)(c:Callee)(t:Nat->AV)(args:List AV):Option Ft:=
 match c,args with
 |.builtin .len,[.mref r]=>some ([r],none)
 |.builtin .len,[_]=>some ([],none)
 |.builtin .max,_=>some ([],none)
 |.builtin .min,_=>some ([],none)
 |.builtin .append,[s,x]=>ac cx d s x
 |.value f,args=>match U2 cx.pl.dc d with
  |none=>some (dB (ev t f)++VQ args,none)
  |some 0=>IK (d.map fun d=>BE d 0) (dB (ev t f)++VQ args)
  |some 1=>match args with |.msl r _::_=>some ([r],some r) |_=>none
  |some (k+2)=>match Nat.beq k 1 with
   |true=>IK (d.map fun d=>BE d 0) (dB (ev t f)++VQ args)
   |false=>match Nat.beq k 2 with
    |true=>qU args
    |false=>qS k d args
 |_,_=>none
def E4(o:Oper)(st:St):Option Ft:=
 match o.op with
 |.move _ |.pick .. |.nilCheck _ |.unOp .. |.convert .. |.fieldAddr .. |.field .. |.indexAddr .. |.index .. |.extract .. |.build ..=>some ([],none)
 |.binOp _ _ x _ _=>match ev st.t x with |.slice ..=>none |_=>some ([],none)
 |.assign x=>match ev st.t x with |.v (.slice ..)=>none |_=>some ([],none)
 |.load _ p=>match ev st.t p with |.cptr _=>some ([],none) |.ref r _=>some ([r],none) |.eref r ..=>some ([r],none) |_=>none
 |.call c=>G1 cx o.dst c.callee st.t (c.args.toList.map (ev st.t))
 |.alloc _=>IK o.dst []
 |.box _ x=>IK o.dst (dB (ev st.t x))
 |.buildSlice _ _ ps=>IK (o.dst.map (KA cx)) (VQ (ps.toList.map fun p=>ev st.t p.2))
 |.store _ p x=>match ev st.t p with
  |.ref r _=>match I1 cx.pl.frz r with |true=>none |false=>IK (some r) []
  |.eref r ..=>IK (some r) (dB (ev st.t x))
  |_=>none
 |.slice _ x _ _ mx=>match U2 cx.pl.tok o.dst with
  |some _=>qT (o.dst.map (KA cx)) (ev st.t x)
  |none=>match mx,ev st.t x with
   |none,.msl ..=>none
   |none,_=>some ([],none)
   |some _,.slice ..=>IK o.dst []
   |_,_=>none
 |.makeFunc _ _ cap=>some (VQ (cap.toList.map (ev st.t)),none)
 |.mapUpdate _ m _ x=>match ev st.t m with |.mref r=>IK (some r) (dB (ev st.t x)) |_=>none
 |.makeSlice ..=>IK (o.dst.map (KA cx)) []
 |.lookup _ m _ _=>match ev st.t m with |.cmap ..=>some ([],none) |.mref r=>some ([r],none) |_=>none
 |.makeMap ..=>IK o.dst []
 |_=>none
def Oz(all:Ao5)(o:Oper)(st:St):Option Ft:=
 match o.guard with
 |none=>E4 cx o st
 |some (j,want)=>match L4 all j with
  |none=>none
  |some d=>match st.t d,want with
   |.v (.bool true),true=>E4 cx o st
   |.v (.bool false),false=>E4 cx o st
   |_,_=>some ([],none)
def AfE(l:Ao3):Bool:=match l with | []=>true | _=>false
def eU(l:Ao3)(r:Nat):Bool:=bif Nat.beq r ZL then AfE l else !I1 l r&&(Nat.blt r 10000000||(!I1 l (r % 10000000)&&!I1 l (r / 10000000)))
def Vj(a b:Ft):Bool:=
 (match a.2 with | some r=>eU b.1 r | none=>true)&&(match b.2 with | some r=>eU a.1 r | none=>true)
def Qy(o:Oper)(i:Nat)(D:Ao3):Bool:=o.after.toList.any fun e=>Region.binds .any e&&(Nat.beq e.on i||I1 D e.on)
def RK(i:Nat)(D:Ao3)(k:Nat):Ao5->Ao3
 | []=>D
 |o::r=>match Qy o i D with
  |true=>RK i (k::D) (k+1) r
  |false=>RK i D (k+1) r
def WR(i:Nat)(D:Ao3)(k:Nat):Ao5->Bool
 | []=>true
 |o::r=>(Qy o i D||!I1 D k)&&WR i D (k+1) r
def IH(ops:Array Oper)(oi:Oper)(fi:Ft)(D:Ao3)(k:Nat):Ao5->List Ft->Bool
 |o::r,f::fs=>(I1 D k||(oi.apart ops o&&Vj fi f))&&IH ops oi fi D (k+1) r fs
 | [],[]=>true
 |_,_=>false
def M1(ops:Array Oper)(all:Ao5)(k:Nat):Ao5->List Ft->Bool
 |o::r,f::fs=>
  let D:=RK k [] 0 all
  (o.after.toList.all fun e=>!Region.binds .any e||Nat.blt e.on k)&&WR k D 0 all&&(D.all fun j=>Nat.blt k j&&Nat.blt j all.length)&&IH ops o f D (k+1) r fs&&M1 ops all (k+1) r fs
 | [],[]=>true
 |_,_=>false
def Vl(ops:Array Oper)(fs:List Ft):Bool:=Region.noSelect ops&&M1 ops ops.toList 0 ops.toList fs
def ci(cx:Cx)(ops:Array Oper)(l:Ao5)(fs:List Ft)(st:St)(K:St->Prop):Prop:=
 match l with
 | []=>Vl ops fs.reverse=true/\K st
 |o::r=>match Oz cx ops.toList o st with
  |some f=>JD cx true ops.toList o st fun E6=>ci cx ops r (f::fs) E6 K
  |none=>False
def Vo(l:List (Nat×AV))(i:Nat):AV:=match l with | []=>.junk | (j,v)::r=>bif Nat.beq i j then v else Vo r i
structure LS where
 t:List (Nat×AV)
 h:List (Nat×HO)
 hb:Nat->HO
def LS.st(s:LS):St:=⟨Vo s.t,Ah s.h s.hb⟩
def Ui(h:Nat->HO)(r:Nat):Bool:=match h r with | .free=>false | _=>true
def ids0(h:Nat->HO):AV->Bool
 |.slice (.id r _) _=>Ui h r
 |.slice (.ver r _ _) _=>Ui h r
 |.msl r _=>Ui h r
 |.ref r _=>Ui h r
 |.eref r _ _ _ _=>Ui h r
 |.mref r=>Ui h r
 |.agg _ |.tup _ |.clo ..=>false
 |_=>true
def dD(h:Nat->HO):List AV->Bool
 | []=>true
 |a::r=>match ids0 h a with |true=>dD h r |false=>false
def aB(h:Nat->HO):AV->Bool
 |.agg cs=>dD h cs
 |.tup cs=>dD h cs
 |.clo _ cs=>dD h cs
 |a=>ids0 h a
def TM(h:Nat->HO):List (Value×AV)->Bool
 | []=>true
 |p::r=>match aB h p.2 with |true=>TM h r |false=>false
def aC(h:Nat->HO):List AV->Bool
 | []=>true
 |a::r=>match aB h a with |true=>aC h r |false=>false
def Uj(h:Nat->HO):HO->Bool
 |.cells cs=>aC h cs
 |.mapU _ BM=>TM h BM
 |_=>true
def leT(st:St)(h:Nat->HO):List (Nat×AV)->Prop
 | []=>True
 |(j,a)::r=>(st.t j=a/\aB h a=true)/\leT st h r
def leH(st:St)(h:Nat->HO):List (Nat×HO)->Prop
 | []=>True
 |(j,o)::r=>(st.h j=o/\Uj h o=true)/\leH st h r
def St.le(st:St)(s:LS):Prop:=
 leT st s.st.h s.t/\leH st s.st.h s.h/\(∀j,s.hb j=.free\/(st.h j=s.hb j/\Uj s.st.h (s.hb j)=true)) /\
 match cx.ext with
 |false=>True
 |true=>∀j,1000<=j->j<2000->st.h j≠.free->s.st.h j≠.free
def NK(ops:Array Oper)(dr:Bool)(st:St)(K:St->Prop):Prop:=
 match dr with
 |false=>vH cx ops.toList ops.toList st K
 |true=>ci cx ops ops.toList [] st K
inductive Ex | normal | exit (id:Nat) | ret
def azK(h:Nat->HO)(o k:Nat)(K:(Nat->HO)->Prop):Prop:=
 match h o with
 |.cells cs=>match Jq cs k with
  |.msl r n=>match h r with
   |.arr sz es=>n=es.length/\K (AS (AS h r (.tok sz es.length)) o (.cells (Fs cs k (.slice (.id r sz) es))))
   |_=>K h
  |_=>K h
 |_=>K h
def amK(h:Nat->HO)(o k j:Nat)(K:(Nat->HO)->Prop):Prop:=
 match h o with
 |.cells cs=>match Jq cs k with
  |.msl r n=>match h r with
   |.arr sz es=>match h j with
    |.free=>n=es.length/\K (AS (AS (AS h r .dead) j (.arr sz es)) o (.cells (Fs cs k (.msl j n))))
    |_=>False
   |_=>False
  |_=>False
 |_=>False
def uvK(h:Nat->HO)(o k d:Nat)(K:(Nat->HO)->Prop):Prop:=
 match h o with
 |.cells cs=>match Jq cs k with
  |.slice (.ver r sz v) es=>match h r with
   |.var HG v' _=>match h d with
    |.free=>(v=v'/\sz=HG)/\K (AS (AS (AS h r (.vox v)) d (.tok sz es.length)) o (.cells (Fs cs k (.slice (.id d sz) es))))
    |_=>False
   |_=>False
  |_=>K h
 |_=>False
def rvK(h:Nat->HO)(o k r:Nat)(K:(Nat->HO)->Prop):Prop:=
 match h o with
 |.cells cs=>match Jq cs k with
  |.slice (.id d sz) es=>match h d with
   |.tok HG n=>match h r with
    |.vox v=>(es.length=n/\sz=HG)/\K (AS (AS (AS h d .dead) r (.var sz (v+1) n)) o (.cells (Fs cs k (.slice (.ver r sz (v+1)) es))))
    |_=>False
   |_=>False
  |_=>K h
 |_=>False
def rmK(h:Nat->HO)(o k:Nat)(K:(Nat->HO)->Prop):Prop:=
 match h o with
 |.cells cs=>match Jq cs k with
  |.mref r=>match h r with
   |.rom sh BM=>K (AS h o (.cells (Fs cs k (.cmap sh BM))))
   |_=>False
  |_=>False
 |_=>False
def zaK(h:Nat->HO)(o k j sz:Nat)(K:(Nat->HO)->Prop):Prop:=
 match h o with
 |.cells cs=>match Jq cs k with
  |.v (.slice none 0 0)=>match h j with
   |.free=>K (AS (AS h j (.arr sz [])) o (.cells (Fs cs k (.msl j 0))))
   |_=>False
  |_=>False
 |_=>False
def fz0(id:Nat)(h:Nat->HO)(K:(Nat->HO)->Prop):Prop:=
 match F7 cx.pl.ak (850000+id)with
 |some v=>K (qX h v)
 |none=>K h
def rm0(id:Nat)(h:Nat->HO)(K:(Nat->HO)->Prop):Prop:=
 match F7 cx.pl.ak (800000+id)with
 |some v=>rmK h (v % 10000) (v / 10000 % 100) K
 |none=>K h
def rm1(id:Nat)(h:Nat->HO)(K:(Nat->HO)->Prop):Prop:=
 match F7 cx.pl.ak (810000+id)with
 |some v=>rmK h (v % 10000) (v / 10000 % 100) K
 |none=>K h
def za0(id:Nat)(h:Nat->HO)(K:(Nat->HO)->Prop):Prop:=
 match F7 cx.pl.ak (900000+id)with
 |some v=>zaK h (v % 10000) (v / 10000 % 100) (v / 1000000 % 10000) (v / 10000000000) K
 |none=>K h
def AcP(id:Nat)(h:Nat->HO)(K:(Nat->HO)->Prop):Prop:=
 match F7 cx.pl.ak (500000+id)with
 |some v=>uvK h (v % 10000) (v / 10000 % 100) (v / 1000000) K
 |none=>match F7 cx.pl.ak (600000+id)with
  |some v=>rvK h (v % 10000) (v / 10000 % 100) (v / 1000000) K
  |none=>fz0 cx id h fun h=>rm0 cx id h fun h=>rm1 cx id h fun h=>za0 cx id h K
def asK(st:St)(s k:Nat)(K:St->Prop):Prop:=
 match st.t s with
 |.msl r n=>match st.h r with
  |.arr sz es=>match k with
   |0=>n=es.length/\K ⟨KE st.t s (.slice .none es),AS (AS st.h r (.tok sz es.length)) r .dead⟩
   |k+1=>match Nat.beq r (k+1)with
    |true=>K st
    |false=>match st.h (k+1)with
     |.free=>n=es.length/\K ⟨KE st.t s (.msl (k+1) n),AS (AS st.h r .dead) (k+1) (.arr sz es)⟩
     |_=>False
  |_=>K st
 |_=>K st
def Aex(id:Nat)(st:St)(K:St->Prop):Prop:=
 match I1 cx.pl.cut id with
 |true=>match F7 cx.pl.ak (100000+id)with
  |none=>match F7 cx.pl.ak (200000+id)with
   |none=>match F7 cx.pl.ak (300000+id)with
    |none=>AcP cx id st.h fun h'=>∃s:LS,St.le cx ⟨st.t,h'⟩ s/\K s.st
    |some v=>amK st.h (v % 10000) (v / 10000 % 100) (v / 1000000) fun h'=>∃s:LS,St.le cx ⟨st.t,h'⟩ s/\K s.st
   |some v=>asK st (v % 1000) (v / 1000) fun E6=>∃s:LS,St.le cx E6 s/\K s.st
  |some v=>azK st.h (v % 1000) (v / 1000) fun h'=>∃s:LS,St.le cx ⟨st.t,h'⟩ s/\K s.st
 |false=>K st
def Tn(cx:Cx)(c:Code)(Q:Ex->St->Prop)(st:St):Prop:=
 match c with
 |.skip=>Q .normal st
 |.label _=>Q .normal st
 |.region id ops dr=>Aex cx id st fun st=>match cx.pl.dyn with
  | []=>NK cx ops dr st (Q .normal)
  |_=>∃n,NK { cx with nid:=n } ops dr st (Q .normal)
 |.seq a b=>Tn cx a (fun e E6=>match e with |.normal=>Tn cx b Q E6 |e=>Q e E6) st
 |.cond c a b=>match ev st.t c with
  |.v (.bool true)=>Tn cx a Q st
  |.v (.bool false)=>Tn cx b Q st
  |_=>False
 |.block id c=>Tn cx c (fun e E6=>match e with |.exit j=>(bif Nat.beq j id then Q .normal E6 else Q (.exit j) E6) |e=>Q e E6) st
 |.loop c=>∃(α:Type) (I:α->LS) (μ:α->Nat),(∃x,St.le cx st (I x)) /\
   ∀x,Tn cx c (fun e E6=>match e with | .normal=>∃y,μ y<μ x/\St.le cx E6 (I y) | e=>Q e E6) (I x).st
 |.exit id=>Q (.exit id) st
 |.ret=>Q .ret st
 |_=>False
def Qm:List AV->Nat->AV
 | [],_=>.v undef
 |a::r,n=>match n with |0=>a |n+1=>Qm r n
def xQ(T:GL)(st:St):Ao6->(List AV->Prop)->Prop
 | [],K=>K []
 |.tmp i::r,K=>xQ T st r fun l=>K (str st.h (st.t i)::l)
 |.cell a t::r,K=>JN T st.h t (st.t a) fun v=>xQ T st r fun l=>K (str st.h v::l)
def te(st:St)(rs:Ao6)(K:AV->Prop):Prop:=
 xQ cx.T ⟨st.t,Qw st.h cx.pl.fin⟩ rs fun
  | [v]=>K v
  |vs=>K (.tup vs)
def wj(rs:Ao6)(K:AV->Prop)(e:Ex)(st:St):Prop:=
 match e with
 |.normal=>te cx st rs K
 |.ret=>te cx st rs K
 |.exit _=>False
def xS(T:GL)(st:St):Ao6->(List AV->Prop)->Prop
 | [],K=>K []
 |.tmp i::r,K=>xS T st r fun l=>K (st.t i::l)
 |.cell a t::r,K=>JN T st.h t (st.t a) fun v=>xS T st r fun l=>K (v::l)
def oH(st:St)(rs:Ao6)(σ:I7)(Q:AV->(Nat->HO)->Prop):Prop:=
 xS cx.T ⟨st.t,Qw st.h cx.pl.fin⟩ rs fun
  | [v]=>Q (ren (Ck σ) (Qw st.h cx.pl.fin) v) (Fv σ (Qw st.h cx.pl.fin))
  |vs=>Q (ren (Ck σ) (Qw st.h cx.pl.fin) (.tup vs)) (Fv σ (Qw st.h cx.pl.fin))
def cN(rs:Ao6)(σ:I7)(Q:AV->(Nat->HO)->Prop)(e:Ex)(st:St):Prop:=
 match e with
 |.normal=>oH cx st rs σ Q
 |.ret=>oH cx st rs σ Q
 |.exit _=>False
def HX(σ:I7):List (Nat×HO)->Bool
 | []=>true
 |(i,_)::r=>Nat.ble 1000 i&&Nat.blt i 2000&&(match Ck σ i with |some j=>Nat.beq j i |none=>false)&&HX σ r
theorem U{n m:Nat}{b:Prop}(k:b)(h:n <= m:=by exact By rfl):n <= m /\ b:=⟨h,k⟩
abbrev nzA:AV:=.v (.slice none 0 0)
abbrev pC(a c:Ao3):Of:=⟨a,[],[],[],[],[],[],[],[],[],c⟩
abbrev pT(a:Ao3)(b:Ao4)(c:Ao3):Of:=⟨a,b,[],[],[],[],[],[],[],[],c⟩
end Go.Eng
