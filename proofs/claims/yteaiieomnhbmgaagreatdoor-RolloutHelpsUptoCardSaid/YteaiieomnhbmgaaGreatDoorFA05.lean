/- Lemmas 5. -/
import Derived.Test.YteaiieomnhbmgaaGreatDoorFA00
import Derived.WalkKit
import Derived.Still
import Derived.RangeFuncSeq
import Derived.OrdersIn
import Derived.TacticsIn
namespace Go.Eng
variable {vs:Array Value}{E:TypeId}(op:BinOp)(f:Nat->Option Nat)(o:Oper)
theorem Wk{p:Prop}(h:p:=by kernel_rfl):p:=h
inductive Tk|none|full (sz:Nat)|id (r sz:Nat)|ver (r sz v:Nat)
inductive KS|int (k:IntKind)|str|bool
structure E8 where
 agg:Bool
 l:List KS
variable (sh:E8)
inductive AV
 |v (x:Value)
 |slice (tk:Tk) (es:List (List AV))
 |msl (r n:Nat)
 |agg (cs:List AV)
 |tup (vs:List AV)
 |cptr (cs:List AV)
 |ref (r off:Nat)
 |eref (r n sz i off:Nat)
 |mref (r:Nat)
 |cmap (sh:E8) (Ch:List (Value×AV))
 |clo (f:Nat) (caps:List AV)
 |junk
variable (x:AV)(K:AV->Prop)
inductive HO
 |free
 |dead
 |cells (cs:List AV)
 |ro (cs:List AV)
 |tok (sz n:Nat)
 |var (sz v n:Nat)
 |vox (v:Nat)
 |arr (sz:Nat) (es:List (List AV))
 |map (sh:E8) (Ch:List (Value×AV))
 |mapU (sh:E8) (Ch:List (Value×AV))
 |rom (sh:E8) (Ch:List (Value×AV))
 |iter (all rem:List (Value×AV)) (EJ:Option (Value×AV))
 |raw (b:Nat) (ob:Obj)
 |hol (sz:Nat) (es:List (List AV)) (i c:Nat) (a:AV)
structure St where
 t:Nat->AV
 h:Nat->HO
def Ag:Nat->HO:=fun _=>.free
def A3(h:Nat->HO)(r:Nat)(o:HO):Nat->HO:=fun i=>bif Nat.beq i r then o else h i
def H5(t:Nat->AV)(d:Nat)(v:AV):Nat->AV:=fun i=>bif Nat.beq i d then v else t i
def St.put(st:St)(d:Option Nat)(v:AV)(h:Nat->HO):St:=
 match d with
 |none=>⟨st.t,h⟩
 |some d=>⟨H5 st.t d v,h⟩
def ev(t:Nat->AV):Operand->AV
 |.tmp i=>t i
 |.const v=>.v v
 |.global g=>.v (.pointer (some ⟨g,0,none⟩))
 |.func f=>.v (.func (.func f) #[] #[])
inductive TD
 |int (k:IntKind) |bool |string |slice (e:Nat) |array (n e:Nat) |struct (fs:List (Nat×Nat)) |ptr (e:Nat) |map (k e:Nat) |func |iface |other
structure TI where
 d:TD
 size:Nat
 bytes:Nat
 zero:Value
 eqok:Bool
def TI.zc(i:TI):List Value:=match i.zero with | .agg cs=>cs.toList|v=>[v]
abbrev Ha:=Nat->TI
structure Tt where
 frz:List Nat
 tok:List (Nat×Nat)
 arr:List (Nat×Nat)
 fz:List (Nat×List Nat)
 fin:List Nat
 mku:List Nat
 dyn:List Nat
 tz:List (Nat×(Nat×Nat×Nat×Nat))
 dc:List (Nat×Nat)
 ak:List (Nat×Nat)
 cut:List Nat
def JO(l:List Nat)(n:Nat):Bool:=
 match l with
 | []=>false
 |x::r=>bif Nat.beq x n then true else JO r n
def Hl(l:List (Nat×Nat))(n:Nat):Option Nat:=
 match l with
 | []=>none
 |(x,y)::r=>bif Nat.beq x n then some y else Hl r n
def str0(h:Nat->HO):AV->AV
 |.slice _ es=>.slice .none es
 |.ref r off=>match h r with |.ro cs=>.cptr (cs.drop off) |_=>.junk
 |.mref r=>match h r with |.rom sh Ch=>.cmap sh Ch |_=>.junk
 |.v x=>.v x
 |.cptr cs=>.cptr cs
 |.cmap s m=>.cmap s m
 |_=>.junk
def str(h:Nat->HO):AV->AV
 |.agg cs=>.agg (cs.map (str0 h))
 |.clo f cs=>.clo f (cs.map (str0 h))
 |a=>str0 h a
def TK(h:Nat->HO)(Ch:List (Value×AV)):List (Value×AV):=Ch.map fun p=>(p.1,str h p.2)
def mI(h:Nat->HO)(r:Nat):Nat->HO:=
 match h r with
 |.cells cs=>A3 h r (.ro (cs.map (str h)))
 |.map sh Ch=>A3 h r (.rom sh Ch)
 |.mapU sh Ch=>A3 h r (.rom sh (TK h Ch))
 |_=>h
def Qz(h:Nat->HO):List Nat->Nat->HO
 | []=>h
 |r::l=>Qz (mI h r) l
def un(l:List (Nat×List Nat))(n:Nat):List Nat:=
 match l with
 | []=>[]
 |(x,y)::r=>bif Nat.beq x n then y else un r n
def xX(l:List (Nat×(Nat×Nat×Nat×Nat)))(n:Nat):Option (Nat×Nat×Nat×Nat):=
 match l with
 | []=>none
 |(x,y)::r=>bif Nat.beq x n then some y else xX r n
def Kg(l:List AV)(n:Nat):AV:=
 match l with
 | []=>.junk
 |x::r=>match n with |0=>x |n+1=>Kg r n
def EZ(cs:List AV)(o:Nat)(v:AV):List AV:=
 match cs with
 | []=>[]
 |c::cs=>match o with |0=>v::cs |o+1=>c::EZ cs o v
def tz1(h:Nat->HO)(r k j sz:Nat):Nat->HO:=
 match h r with
 |.cells cs=>match Kg cs k with
  |.v (.slice none 0 0)=>match h j with
   |.free=>A3 (A3 h j (.tok sz 0)) r (.cells (EZ cs k (.slice (.id j sz) [])))
   |_=>h
  |_=>h
 |_=>h
def rsv(h:Nat->HO):AV->AV
 |.ref r off=>match h r with |.ro cs=>.cptr (cs.drop off) |_=>.ref r off
 |.mref r=>match h r with |.rom sh Ch=>.cmap sh Ch |_=>.mref r
 |a=>a
def one:AV->Bool
 |.v x=>x.oneCell'
 |.agg _ |.tup _ |.junk=>false
 |_=>true
def Hq:List AV->Bool
 | []=>true
 |a::r=>match one a with |true=>Hq r |false=>false
def Ab6:AV->List AV
 |.agg cs=>cs
 |a=>[a]
def Bc(a:Int):Prop:=-9223372036854775808<=a/\a<9223372036854775808
def MW(cs:List AV)(K:AV->Prop):Prop:=
 match cs with
 |a::_=>K a
 | []=>False
def JW(p:Prop)(K:AV->Prop):Prop:=(p->K (.v (.bool true)))/\(¬p->K (.v (.bool false)))
def M0(T:Ha)(t:Nat)(cs:List AV)(K:AV->Prop):Prop:=
 match(T t).d with
 |.struct _=>(T t).size<=cs.length/\K (.agg (cs.take (T t).size))
 |.array _ _=>(T t).size<=cs.length/\K (.agg (cs.take (T t).size))
 |.bool=>MW cs fun |.v (.bool b)=>(b=true->K (.v (.bool true)))/\(b=false->K (.v (.bool false))) |_=>False
 |.other=>False
 |_=>MW cs K
def pY:List AV->List AV->Prop
 | [],[]=>True
 |.v (.int _ a)::r,.v (.int _ b)::s=>a=b/\pY r s
 |.v (.string a)::r,.v (.string b)::s=>a=b/\pY r s
 |.v (.bool a)::r,.v (.bool b)::s=>a=b/\pY r s
 |_,_=>False
def xN:IntKind->IntKind->Bool
 |.i64,.i64 |.u8,.u8 |.u32,.u32 |.i32,.i32 |.u64,.u64 |.u16,.u16 |.i16,.i16 |.i8,.i8=>true
 |_,_=>false
def Pe(f:Nat->Option (List KS)):Nat->List (Nat×Nat)->Option (List KS)
 |_,[]=>some []
 |n,(t,o)::r=>match Nat.beq o n with
  |true=>match f t with
   |some a=>match Pe f (n+a.length) r with
    |some b=>some (a++b)
    |none=>none
   |none=>none
  |false=>none
def ID(T:Ha):Nat->Nat->Option (List KS)
 |0,_=>none
 |n+1,t=>match(T t).d with
  |.int k=>match(T t).size with |1=>some [.int k] |_=>none
  |.string=>match(T t).size with |1=>some [.str] |_=>none
  |.bool=>match(T t).size with |1=>some [.bool] |_=>none
  |.struct fs=>match(T t).eqok with
   |true=>match Pe (ID T n) 0 fs with
    |some l=>match Nat.beq l.length (T t).size with |true=>some l |false=>none
    |none=>none
   |false=>none
  |_=>none
def OG:KS->Value->Bool
 |.int k,.int k' _=>xN k k'
 |.str,.string _=>true
 |.bool,.bool _=>true
 |_,_=>false
def bG:List KS->List AV->Bool
 | [],[]=>true
 |k::r,.v x::s=>match OG k x with |true=>bG r s |false=>false
 |_,_=>false
def xq(T:Ha)(t:Nat)(x y:AV)(K:AV->Prop):Prop:=
 match(T t).d with
 |.bool=>match x,y with
  |.v (.bool a),.v (.bool b)=>K (.v (.bool (a == b)))
  |_,_=>False
 |.struct _=>match x,y with
  |.agg xs,.agg ys=>match ID T 8 t with
   |some l=>match bG l xs with
    |true=>match bG l ys with
     |true=>JW (pY xs ys) K
     |false=>False
    |false=>False
   |none=>False
  |_,_=>False
 |.slice _=>match x,y with
  |.slice _ es,.v (.slice none 0 0)=>(es≠[]->K (.v (.bool false)))/\(es=[]->K (.v (.bool true))/\K (.v (.bool false)))
  |.v (.slice none 0 0),.v (.slice none 0 0)=>K (.v (.bool true))
  |_,_=>False
 |.ptr _=>match x,y with
  |.v (.pointer none),.v (.pointer none)=>K (.v (.bool true))
  |.cptr _,.v (.pointer none)=>K (.v (.bool false))
  |.ref _ _,.v (.pointer none)=>K (.v (.bool false))
  |.eref _ _ _ _ _,.v (.pointer none)=>K (.v (.bool false))
  |_,_=>False
 |_=>False
def kc:AV->Prop
 |.v (.bool true)=>K (.v (.bool false))
 |.v (.bool false)=>K (.v (.bool true))
 |_=>False
def JV(k:IntKind)(a b:Int):Int:=
 match op with
 |.and=>k.wrap (BitVec.ofInt k.bits a &&& BitVec.ofInt k.bits b).toNat
 |.or=>k.wrap (BitVec.ofInt k.bits a |||BitVec.ofInt k.bits b).toNat
 |_=>k.wrap (BitVec.ofInt k.bits a ^^^ BitVec.ofInt k.bits b).toNat
def GK(k:IntKind)(a b:Int):Int:=
 match op with
 |.shl=>k.wrap (a*2 ^ min b.toNat k.bits)
 |_=>a.fdiv (2 ^ min b.toNat k.bits)
def VY(k:IntKind)(a b:Int)(K:AV->Prop):Prop:=
 match op with
 |.shl=>0<=b/\K (.v (.int k (GK .shl k a b)))
 |.shr=>0<=b/\K (.v (.int k (GK .shr k a b)))
 |_=>False
def YE(k:IntKind)(a b:Int)(K:AV->Prop):Prop:=
 match op with
 |.quo=>(0<=a/\0<b/\k.wrap (a / b)=a / b)/\K (.v (.int k (a / b)))
 |.rem=>(0<=a/\0<b)/\K (.v (.int k (a % b)))
 |.and=>K (.v (.int k (JV .and k a b)))
 |.or=>K (.v (.int k (JV .or k a b)))
 |.xor=>K (.v (.int k (JV .xor k a b)))
 |.add=>K (.v (.int k (k.wrap (a+b))))
 |.sub=>K (.v (.int k (k.wrap (a-b))))
 |.mul=>K (.v (.int k (k.wrap (a*b))))
 |op=>VY op k a b K
def Uo(k:IntKind)(a b:Int)(K:AV->Prop):Prop:=
 match k with
 |.i64=>match op with
  |.add=>Bc (a+b)/\K (.v (.int .i64 (a+b)))
  |.sub=>Bc (a-b)/\K (.v (.int .i64 (a-b)))
  |.mul=>Bc (a*b)/\K (.v (.int .i64 (a*b)))
  |.quo=>(0<=a/\0<b/\Bc a)/\K (.v (.int .i64 (a / b)))
  |.rem=>(0<=a/\0<b)/\K (.v (.int .i64 (a % b)))
  |op=>YE op .i64 a b K
 |k=>YE op k a b K
def Ut(T:Ha)(op:BinOp)(t:Nat)(x y:AV)(K:AV->Prop):Prop:=
 match x,y with
 |.v (.int k a),.v (.int k' b)=>match xN k k' with
  |false=>VY op k a b K
  |true=>match op with
   |.eql=>JW (a=b) K
   |.neq=>JW (a≠b) K
   |.lss=>JW (a<b) K
   |.leq=>JW (a<=b) K
   |.gtr=>JW (b<a) K
   |.geq=>JW (b<=a) K
   |op=>Uo op k a b K
 |.v (.string a),.v (.string b)=>match op with
   |.eql=>JW (a=b) K
   |.neq=>JW (a≠b) K
   |.lss=>JW (Op.bytesLess a.toList b.toList=true) K
   |.geq=>JW (Op.bytesLess a.toList b.toList=false) K
   |.gtr=>JW (Op.bytesLess b.toList a.toList=true) K
   |.leq=>JW (Op.bytesLess b.toList a.toList=false) K
   |.add=>((a.size+b.size:Nat):Int)<=9223372036854775807/\K (.v (.string (a++b)))
   |_=>False
 |x,y=>match op with
  |.eql=>xq T t x y K
  |.neq=>xq T t x y (kc K)
  |_=>False
def ar(T:Ha)(op:BinOp)(t:Nat)(Y:Operand)(x y:AV)(K:AV->Prop):Prop:=
 match Y with
 |.const .nilIface=>match x with
  |.v .nilIface=>match(T t).d with
   |.iface=>match op with
    |.eql=>K (.v (.bool true))
    |.neq=>K (.v (.bool false))
    |_=>False
   |_=>False
  |_=>False
 |_=>Ut T op t x y K
def Xz(T:Ha)(s t:Nat)(x:AV)(K:AV->Prop):Prop:=
 match(T s).d,(T t).d,x with
 |.int _,.int .i64,.v (.int _ n)=>Bc n/\K (.v (.int .i64 n))
 |.int _,.int k,.v (.int _ n)=>K (.v (.int k (k.wrap n)))
 |.string,.string,.v (.string s)=>K (.v (.string s))
 |.slice e,.string,.slice _ es=>match(T e).d with
  |.int .u8=>∃l:List UInt8,es=l.map (fun b=>[AV.v (.int .u8 b.toNat)])/\K (.v (.string ⟨l.toArray⟩))
  |_=>False
 |_,_,_=>False
def Y3(fs:List (Nat×Nat))(n:Nat):Option (Nat×Nat):=
 match fs with
 | []=>none
 |x::r=>match n with |0=>some x |n+1=>Y3 r n
def UP(T:Ha)(s f:Nat)(x:AV)(K:AV->Prop):Prop:=
 match(T s).d with
 |.struct fs=>match Y3 fs f with
  |some (t,o)=>match(T t).size with
   |0=>False
   |_+1=>match x with
    |.cptr cs=>K (.cptr (cs.drop o))
    |.ref r off=>K (.ref r (off+o))
    |.eref r n z i off=>K (.eref r n z i (off+o))
    |_=>False
  |none=>False
 |_=>False
def cp(T:Ha)(t:Nat)(cs:List AV)(K:AV->Prop):Prop:=M0 T t cs K
def Qn(T:Ha)(s f:Nat)(x:AV)(K:AV->Prop):Prop:=
 match(T s).d,x with
 |.struct fs,.agg cs=>match Y3 fs f with
  |some (t,o)=>cp T t (cs.drop o) K
  |none=>False
 |_,_=>False
def KF(T:Ha)(t:Nat)(x ix:AV)(K:AV->Prop):Prop:=
 match(T t).d,ix with
 |.slice e,.v (.int .i64 i)=>match(T e).size with
  |0=>False
  |_+1=>match x with
   |.slice _ es=>∃cs,(0<=i/\es[i.toNat]?=some cs)/\cs.length=(T e).size/\K (.cptr cs)
   |.msl r n=>(0<=i/\i<n)/\K (.eref r n (T e).size i.toNat 0)
   |_=>False
 |.array n e,.v (.int .i64 i)=>match(T e).size with
  |0=>False
  |_+1=>match x with
   |.cptr cs=>(0<=i/\i<n)/\K (.cptr (cs.drop (i.toNat*(T e).size)))
   |.ref r off=>(0<=i/\i<n)/\K (.ref r (off+i.toNat*(T e).size))
   |_=>False
 |_,_=>False
def Vg(T:Ha)(t:Nat)(x ix:AV)(K:AV->Prop):Prop:=
 match(T t).d,x,ix with
 |.string,.v (.string s),.v (.int .i64 i)=>∃b:UInt8,(0<=i/\s.data[i.toNat]?=some b)/\K (.v (.int .u8 b.toNat))
 |.array n e,.agg cs,.v (.int .i64 i)=>(0<=i/\i<n)/\cp T e (cs.drop (i.toNat*(T e).size)) K
 |_,_,_=>False
def Cs(t:Nat->AV):Option Operand->Option (Option Int)
 |none=>some none
 |some x=>match ev t x with |.v (.int .i64 i)=>some (some i) |_=>none
def over{α:Type}(cs:List α)(o:Nat)(vs:List α):List α:=
 match cs with
 | []=>[]
 |c::cs=>match o with
  |o+1=>c::over cs o vs
  |0=>match vs with
   | []=>c::cs
   |v::vs=>v::over cs 0 vs
structure Gh where
 ρ:Nat->Value
 ln:Nat->Nat
 tk:Nat->Bool
 own:Nat->Option Nat
 S:Nat->Nat->Prop
def Kj:List KS->List Value->Bool
 | [],[]=>true
 |k::r,v::s=>match OG k v with |true=>Kj r s |false=>false
 |_,_=>false
def X8(v:Value):Bool:=
 match sh.agg,v with
 |true,.agg cs=>Kj sh.l cs.toList
 |false,v=>Kj sh.l [v]
 |_,_=>false
def H8(es:Array MapEntry)(ck:Nat)(Ch:List (Value×AV)):Prop:=
 es.size=Ch.length/\(∀(i:Nat) (kv:Value×AV) (e:MapEntry),Ch[i]?=some kv->es[i]?=some e->e.key=kv.1) /\
 (∀kv∈Ch,X8 sh kv.1=true)/\(Ch.map (·.1)).Nodup/\(∀(i:Nat) (e:MapEntry),es[i]?=some e->e.born<ck) /\
 ∀(i j:Nat) (e e' : MapEntry),es[i]?=some e->es[j]?=some e'->e.born=e'.born->i=j
inductive BU(g:Gh)(w:World):(Nat->Prop)->AV->Value->Prop
 |v (U:Nat->Prop) (x:Value):BU g w U (.v x) x
 |junk (U:Nat->Prop) (x:Value):BU g w U .junk x
 |snil (U:Nat->Prop) (a:Option Addr) (cap:Nat):BU g w U (.slice .none []) (.slice a 0 cap)
 |slice (U:Nat->Prop) (es:List (List AV)) (b off sz cap:Nat) (val:Nat->Nat->Value) (hc:es.length<=cap)
   (hl:∀(i:Nat) (cs:List AV),es[i]?=some cs->cs.length=sz)
   (DV:∀(i:Nat) (cs:List AV) (j:Nat) (av:AV),es[i]?=some cs->cs[j]?=some av ->
    g.S b (off+i*sz+j)/\w.cell? ⟨b,off+i*sz+j,none⟩=some (val i j)/\(val i j).oneCell'=true)
   (EA:∀(i:Nat) (cs:List AV) (j:Nat) (av:AV),es[i]?=some cs->cs[j]?=some av->BU g w (fun _=>False) av (val i j)) :
   BU g w U (.slice .none es) (.slice (some ⟨b,off,none⟩) es.length cap)
 |tok (U:Nat->Prop) (r sz:Nat) (es:List (List AV)) (x:Value) (h:BU g w U (.slice .none es) x) (hl:∀c∈es,c.length=sz) (hu:U r) (ht:g.tk r=true) (hn:es.length<=g.ln r)
   (hx:es.length=g.ln r->x=g.ρ r):BU g w U (.slice (.id r sz) es) x
 |ver (U:Nat->Prop) (r sz v:Nat) (es:List (List AV)) (x:Value) (h:BU g w U (.slice .none es) x) (hl:∀c∈es,c.length=sz) (hu:U r) (ht:g.tk r=true) (hn:v<=g.ln r)
   (hx:v=g.ln r->x=g.ρ r):BU g w U (.slice (.ver r sz v) es) x
 |full (U:Nat->Prop) (sz:Nat) (es:List (List AV)) (x:Value) (h:BU g w U (.slice .none es) x) (hl:∀c∈es,c.length=sz) (hx:∃a,x=.slice a es.length es.length):BU g w U (.slice (.full sz) es) x
 |msl (U:Nat->Prop) (r n:Nat) (a:Option Addr) (cap:Nat) (hu:U r) (ht:g.tk r=true) (hn:n<=g.ln r) (ha:n=0\/∃b,a=some ⟨b,0,none⟩) (hx:n=g.ln r->.slice a n cap=g.ρ r) :
   BU g w U (.msl r n) (.slice a n cap)
 |agg (U:Nat->Prop) (cs:List AV) (vs:Array Value) (hs:vs.size=cs.length) (h1:∀(i:Nat) (x:Value),vs[i]?=some x->x.oneCell'=true)
   (h:∀(i:Nat) (av:AV) (x:Value),cs[i]?=some av->vs[i]?=some x->BU g w U av x):BU g w U (.agg cs) (.agg vs)
 |tup (U:Nat->Prop) (cs:List AV) (vs:Array Value) (hs:vs.size=cs.length)
   (h:∀(i:Nat) (av:AV) (x:Value),cs[i]?=some av->vs[i]?=some x->BU g w U av x):BU g w U (.tup cs) (.tuple vs)
 |cptr (U:Nat->Prop) (cs:List AV) (b off:Nat) (val:Nat->Value)
   (DV:∀(j:Nat) (av:AV),cs[j]?=some av->g.S b (off+j)/\w.cell? ⟨b,off+j,none⟩=some (val j)/\(val j).oneCell'=true)
   (EA:∀(j:Nat) (av:AV),cs[j]?=some av->BU g w (fun _=>False) av (val j)) :
   BU g w U (.cptr cs) (.pointer (some ⟨b,off,none⟩))
 |ref (U:Nat->Prop) (r off b:Nat) (hu:U r) (ht:g.tk r=false) (hx:g.ρ r=.pointer (some ⟨b,0,none⟩)):BU g w U (.ref r off) (.pointer (some ⟨b,off,none⟩))
 |eref (U:Nat->Prop) (r n sz i off b cap:Nat) (hu:U r) (ht:g.tk r=true) (hn:i<n/\n<=g.ln r) (hx:n=g.ln r->g.ρ r=.slice (some ⟨b,0,none⟩) n cap) :
   BU g w U (.eref r n sz i off) (.pointer (some ⟨b,i*sz+off,none⟩))
 |mref (U:Nat->Prop) (r b:Nat) (hu:U r) (ht:g.tk r=false) (hx:g.ρ r=.map (some b)):BU g w U (.mref r) (.map (some b))
 |cmap (U:Nat->Prop) (sh:E8) (Ch:List (Value×AV)) (b:Nat) (es:Array MapEntry) (ck:Nat) (hS:g.S b 0) (hb:w.heap[b]?=some (.map es ck)) (hm:H8 sh es ck Ch)
   (h:∀(i:Nat) (kv:Value×AV) (e:MapEntry),Ch[i]?=some kv->es[i]?=some e->BU g w (fun _=>False) kv.2 e.val):BU g w U (.cmap sh Ch) (.map (some b))
 |clo (U:Nat->Prop) (f:Nat) (cs:List AV) (vs:Array Value) (hs:vs.size=cs.length)
   (h:∀(i:Nat) (av:AV) (x:Value),cs[i]?=some av->vs[i]?=some x->BU g w U av x):BU g w U (.clo f cs) (.func (.func f) #[] vs)
def HO.live:HO->Prop
 |.free |.dead |.vox _ |.ro _ |.rom _ _=>False
 |_=>True
def AR(h:Nat->HO)(r:Nat):Prop:=h r≠.free
def FB:Nat->Prop:=fun _=>False
def CW(g:Gh)(w:World)(U:Nat->Prop)(cs:List AV)(vs:List Value):Prop:=
 vs.length=cs.length/\(∀x∈vs,x.oneCell'=true)/\∀(i:Nat) (av:AV) (x:Value),cs[i]?=some av->vs[i]?=some x->BU g w U av x
def PV:List Nat->Code->Bool
 |bs,.block id c=>PV (id::bs) c
 |bs,.seq a b=>PV bs a||PV bs b
 |bs,.cond _ a b=>PV bs a||PV bs b
 |bs,.loop c=>PV bs c
 |bs,.exit id=>!(bs.any fun i=>Nat.beq i id)
 |_,_=>false
def ya:Obj->Bool
 |.loop r=>PV [] r.body
 |_=>false
def SB(w:World)(b:Nat)(vs:Array Value)(E:TypeId):Prop:=∃f:Nat×Nat,w.heap[b]?=some (.cells vs E f)/\(f=(0,0)\/vs.size<=f.1)
theorem SB.eq{w w' : World}{b:Nat}(h:SB w b vs E)(e:w'.heap[b]?=w.heap[b]?):SB w' b vs E:=by
 obtain⟨f,h1,h2⟩:=h;exact⟨f,e.trans h1,h2⟩
theorem SB.of{w:World}{b:Nat}(h:w.heap[b]?=some (.cells vs E (0,0))):SB w b vs E:=⟨_,h,.inl rfl⟩
def Ez(g:Gh)(w:World)(U:Nat->Prop)(r:Nat):HO->Prop
  |.free |.dead=>True
  |.cells cs=>g.tk r=false/\∃b E vs,g.own r=some b/\g.ρ r=.pointer (some ⟨b,0,none⟩)/\w.heap[b]?=some (.cells vs E (0,0))/\CW g w U cs vs.toList/\∀o,¬g.S b o
  |.ro cs=>g.tk r=false/\∃b,g.ρ r=.pointer (some ⟨b,0,none⟩)/\BU g w FB (.cptr cs) (.pointer (some ⟨b,0,none⟩))
  |.tok sz n=>g.tk r=true/\g.ln r=n/\∃a cap,g.ρ r=.slice a n cap/\(n=cap/\g.own r=none \/
      n<=cap/\∃b E vs off,a=some ⟨b,off,none⟩/\g.own r=some b/\SB w b vs E/\vs.size=off+cap*sz/\∀o,g.S b o->o<off+n*sz)
  |.var sz v n=>g.tk r=true/\g.ln r=v/\∃a cap,g.ρ r=.slice a n cap/\(n=cap/\g.own r=none \/
      n<=cap/\∃b E vs off,a=some ⟨b,off,none⟩/\g.own r=some b/\SB w b vs E/\vs.size=off+cap*sz/\∀o,g.S b o->o<off+n*sz)
  |.vox v=>g.tk r=true/\g.ln r=v
  |.arr sz es=>g.tk r=true/\g.ln r=es.length/\(∀cs∈es,cs.length=sz)/\(es=[]/\g.ρ r=.slice none 0 0/\g.own r=none \/
      ∃b cap E vs,g.ρ r=.slice (some ⟨b,0,none⟩) es.length cap/\g.own r=some b/\es.length<=cap/\w.heap[b]?=some (.cells vs E (0,0))/\vs.size=cap*sz /\
        CW g w FB es.flatten (vs.toList.take (es.length*sz))/\∀o,¬g.S b o)
  |.map sh Ch=>g.tk r=false/\∃b es ck,g.own r=some b/\g.ρ r=.map (some b)/\w.heap[b]?=some (.map es ck)/\H8 sh es ck Ch /\
      (∀(i:Nat) (kv:Value×AV) (e:MapEntry),Ch[i]?=some kv->es[i]?=some e->BU g w FB kv.2 e.val)/\∀o,¬g.S b o
  |.mapU sh Ch=>g.tk r=false/\∃b es ck,g.own r=some b/\g.ρ r=.map (some b)/\w.heap[b]?=some (.map es ck)/\H8 sh es ck Ch /\
      (∀(i:Nat) (kv:Value×AV) (e:MapEntry),Ch[i]?=some kv->es[i]?=some e->BU g w U kv.2 e.val)/\∀o,¬g.S b o
  |.rom sh Ch=>g.tk r=false/\∃b,g.ρ r=.map (some b)/\BU g w FB (.cmap sh Ch) (.map (some b))
  |.iter all rem EJ=>g.tk r=false/\∃b mb Ln seen st es ck,g.own r=some b/\g.ρ r=.pointer (some ⟨b,0,none⟩)/\w.heap[b]?=some (.mapIter (some mb) Ln seen st) /\
      g.S mb 0/\w.heap[mb]?=some (.map es ck)/\(∃sh,H8 sh es ck all)/\Ln=ck/\st=ck /\
      (∀(i:Nat) (kv:Value×AV) (e:MapEntry),all[i]?=some kv->es[i]?=some e->BU g w FB kv.2 e.val) /\
      (rem.Nodup/\∀kv∈rem,kv∈all)/\(∀(i:Nat) (kv:Value×AV) (e:MapEntry),all[i]?=some kv->es[i]?=some e->(kv∈rem↔e.born∉seen)) /\
      (match EJ with|none=>True|some kv=>∃(i:Nat) (e:MapEntry),all[i]?=some kv/\es[i]?=some e/\seen.back?=some e.born)/\∀o,¬g.S b o
  |.hol sz es i c a=>g.tk r=true/\g.ln r=es.length/\(∀cs∈es,cs.length=sz)/\∃b cap E vs,g.ρ r=.slice (some ⟨b,0,none⟩) es.length cap/\g.own r=some b/\es.length<=cap/\w.heap[b]?=some (.cells vs E (0,0))/\vs.size=cap*sz /\
        CW g w FB es.flatten (vs.toList.take (es.length*sz))/\(∀o,¬g.S b o)/\i*sz+c<es.length*sz/\∃x,vs[i*sz+c]?=some x/\BU g w U a x
  |.raw b ob=>g.tk r=false/\g.own r=some b/\w.heap[b]?=some ob/\ya ob=true/\∀o,¬g.S b o
def gB:Nat:=0
def mK:List (Nat×Nat×Option Value):=(1,20,none)::(List.range 20).map fun i=>(1,i,some (.int .u64 ((10 ^ i:Nat):Int)))
def Yt(g:Gh)(w:World):Prop:=(g.S gB 0/\∃m,w.cell? ⟨gB,0,none⟩=some (.int .i64 m))/\∀x∈mK,g.S x.1 x.2.1/\w.cell? ⟨x.1,x.2.1,none⟩=x.2.2
structure D3(w0:World)(g0:Gh)(h0:Nat->HO)(h:Nat->HO)(g:Gh)(w:World):Prop where
 os:w.os=w0.os
 tape:w.tape=w0.tape
 output:w.output=w0.output
 size:w0.heap.size<=w.heap.size
 frame:∀b,b<w0.heap.size->(∀r,(h0 r).live->g0.own r≠some b)->w.heap[b]?=w0.heap[b]?
 slt:∀b o,g.S b o->b<w.heap.size
 objs:∀r,Ez g w (AR h) r (h r)
 inj:∀r r' b,(h r).live->(h r').live->g.own r=some b->g.own r'=some b->r=r'
 loc:∀r b,(h r).live->g.own r=some b->b<w.heap.size/\(w0.heap.size<=b\/∃r',(h0 r').live/\g0.own r'=some b)
 sg:∀b o,g.S b o->g0.S b o\/w0.heap.size<=b\/∃r',(h0 r').live/\g0.own r'=some b
 glob:Yt g w
def EO(g:Gh)(w:World)(g' : Gh)(w' : World):Prop:=
 ∀b o,g.S b o->g'.S b o/\w'.cell? ⟨b,o,none⟩=w.cell? ⟨b,o,none⟩/\∀es ck,w.heap[b]?=some (.map es ck)->w'.heap[b]?=some (.map es ck)
def Lp(g g' : Gh)(U:Nat->Prop):Prop:=
 ∀i,U i->g'.tk i=g.tk i/\g.ln i<=g'.ln i/\(g.tk i=false->g'.ρ i=g.ρ i)/\(g'.ln i=g.ln i->g'.ρ i=g.ρ i)
structure Le(h:Nat->HO)(g:Gh)(w:World)(h' : Nat->HO)(g' : Gh)(w' : World):Prop where
 gh:Lp g g' (AR h)
 us:∀i,AR h i->AR h' i
 keeps:EO g w g' w'
def F3 (P:Program) (f:Nat):Prop:=∃ fn, P.funcs[f]? = some fn/\(fn.name == "runtime.NumGoroutine") = false/\fn.body.isNone = false
def A9(P:Program)(f:Nat)(args:List AV)(h0:Nat->HO)(Q:AV->(Nat->HO)->Prop):Prop:=
 F3 P f/\∀(g:Gh) (w:World) (vals:Array Value),vals.size=args.length->(∀(i:Nat) (av:AV) (x:Value),args[i]?=some av->vals[i]?=some x->BU g w (AR h0) av x) ->
  D3 w g h0 h0 g w ->
  Calls P f vals w fun e w'=>∃v r h' g',e=.returned v/\Q r h'/\BU g' w' (AR h') r v/\D3 w g h0 h' g' w'/\Le h0 g w h' g' w'
def Jp(P:Program)(f:Nat)(args:List AV)(res:AV):Prop:=A9 P f args Ag fun r h'=>r=res/\h'=Ag
def JU(P:Program)(Y:Gh->World->Prop)(l:Nat)(args:List AV)(h0:Nat->HO)(Q:AV->(Nat->HO)->Prop):Prop:=
 ∀(g:Gh) (w:World) (vals:Array Value),vals.size=args.length->(∀(i:Nat) (av:AV) (x:Value),args[i]?=some av->vals[i]?=some x->BU g w (AR h0) av x) ->
  D3 w g h0 h0 g w->Y g w ->
  YieldAt Fence.wide 0 P l vals w fun e w'=>∃v r h' g',e=.returned v/\Q r h'/\BU g' w' (AR h') r v/\D3 w g h0 h' g' w'/\Le h0 g w h' g' w'
def tX(P:Program)(Y:Gh->World->Prop)(f:Nat)(args:List AV)(h0:Nat->HO)(Q:AV->(Nat->HO)->Prop):Prop:=
 F3 P f/\∀(g:Gh) (w:World) (vals:Array Value),vals.size=args.length->(∀(i:Nat) (av:AV) (x:Value),args[i]?=some av->vals[i]?=some x->BU g w (AR h0) av x) ->
  D3 w g h0 h0 g w->Y g w ->
  Calls P f vals w fun e w'=>∃v r h' g',e=.returned v/\Q r h'/\BU g' w' (AR h') r v/\D3 w g h0 h' g' w'/\Le h0 g w h' g' w'
def GF(P:Program)(Y:Nat->Gh->World->Prop)(F:AV)(args:List AV)(h:Nat->HO)(Q:AV->(Nat->HO)->Prop):Prop:=
 match F with
 |.v (.func (.func f) ⟨[]⟩ ⟨[]⟩)=>A9 P f args h Q
 |.clo f caps=>A9 P f (args++caps) h Q
 |.v (.func (.yield l) ⟨[]⟩ ⟨[]⟩)=>JU P (Y l) l args h Q
 |_=>False
def Rt(P:Program)(F:AV)(args:List AV)(res:AV):Prop:=
 match F with
 |.v (.func (.func f) ⟨[]⟩ ⟨[]⟩)=>Jp P f args res
 |.clo f caps=>Jp P f (args++caps) res
 |_=>False
structure Cx where
 P:Program
 T:Ha
 pl:Tt
 ext:Bool
 nid:Nat
 yp:Nat->List (Nat×Nat)->Gh->World->Prop
variable (cx:Cx)
def KZ(d:Nat):Nat:=bif JO cx.pl.dyn d then cx.nid else d
abbrev HK:=AV->(Nat->HO)->Prop
def Um(T:Ha)(d:Option Nat)(h:Nat->HO)(e:Nat)(K:HK):Prop:=
 match d with
 |none=>False
 |some d=>match h d with
  |.free=>match(T e).d with
   |.other=>False
   |_=>match Hq ((T e).zc.map .v)with
    |true=>K (.ref d 0) (A3 h d (.cells ((T e).zc.map .v)))
    |false=>False
  |_=>False
def HY(n:Nat)(a:AV)(K:List AV->Prop):Prop:=
 match a with
 |.agg cs=>match Nat.beq cs.length n with
  |true=>K cs
  |false=>False
 |a=>match one a with
  |true=>match n with
   |1=>K [a]
   |_=>False
  |false=>False
def jb(d:Option Nat)(h:Nat->HO)(e:Nat)(x:AV)(K:HK):Prop:=
 match d with
 |none=>False
 |some d=>match h d with
  |.free=>match(cx.T e).d with
   |.other=>False
   |_=>HY (cx.T e).size x fun cs=>match JO cx.pl.frz d with
    |true=>K (.ref d 0) (A3 h d (.ro (cs.map (str h))))
    |false=>K (.ref d 0) (A3 h d (.cells cs))
  |_=>False
def PA(h:Nat->HO)(t:Nat)(p x:AV)(K:HK):Prop:=
 match(cx.T t).d with
 |.other=>False
 |_=>HY (cx.T t).size x fun vs=>match p with
  |.ref r off=>match h r with
   |.cells cs=>off+vs.length<=cs.length/\(match JO cx.pl.frz r with
    |true=>K (.v undef) (A3 h r (.ro ((over cs off vs).map (str h))))
    |false=>K (.v undef) (A3 h r (.cells (over cs off vs))))
   |_=>False
  |.eref r n sz i off=>match h r with
   |.arr Hb es=>match Nat.beq sz Hb with
    |true=>n=es.length/\∃cs,es[i]?=some cs/\off+vs.length<=sz/\(match vs with
     | [.msl j m]=>K (.v undef) (A3 h r (.hol sz (es.set i (over cs off [.junk])) i off (.msl j m)))
     |_=>K (.v undef) (A3 h r (.arr sz (es.set i (over cs off (vs.map (str h)))))))
    |false=>False
   |_=>False
  |_=>False
def Jb(T:Ha)(h:Nat->HO)(t:Nat)(p:AV)(K:AV->Prop):Prop:=
 match p with
 |.cptr cs=>M0 T t cs K
 |.ref r off=>match h r with
  |.cells cs=>M0 T t (cs.drop off) K
  |.ro cs=>M0 T t (cs.drop off) K
  |_=>False
 |.eref r n sz i off=>match h r with
  |.arr Hb es=>match Nat.beq sz Hb with
   |true=>n=es.length/\∃cs,es[i]?=some cs/\M0 T t (cs.drop off) K
   |false=>False
  |.hol Hb es i' c a=>match Nat.beq sz Hb with
   |true=>(n=es.length/\i=i'/\off=c)/\M0 T t [a] K
   |false=>False
  |_=>False
 |_=>False
def LV(pl:Nat->Option (Nat×Nat))(cs:List AV)(t:Nat->AV)(ps:List (Nat×Operand))(K:List AV->Prop):Prop:=
 match ps with
 | []=>K cs
 |(i,x)::r=>match pl i with
  |none=>False
  |some (o,n)=>HY n (ev t x) fun vs=>match Nat.ble (o+n) cs.length with
   |true=>LV pl (over cs o vs) t r K
   |false=>False
def PQ(T:Ha):List (Nat×Nat)->Bool
 | []=>true
 |(t,_)::r=>match(T t).size with |0=>false |_+1=>PQ T r
def Ry(T:Ha)(ty:Nat)(t:Nat->AV)(ps:List (Nat×Operand))(K:AV->Prop):Prop:=
 match Hq ((T ty).zc.map .v)with
 |false=>False
 |true=>match(T ty).d with
  |.struct fs=>match PQ T fs with
   |false=>False
   |true=>LV (fun i=>match Y3 fs i with |some (t,o)=>some (o,(T t).size) |none=>none) ((T ty).zc.map .v) t ps fun cs=>K (.agg cs)
  |.array _ e=>match(T e).size with
   |0=>False
   |_+1=>LV (fun i=>some (i*(T e).size,(T e).size)) ((T ty).zc.map .v) t ps fun cs=>K (.agg cs)
  |_=>False
def SJ(n sz:Nat)(h:Nat->HO)(es:List (List AV))(t:Nat->AV)(ps:List (Nat×Operand))(K:List (List AV)->Prop):Prop:=
 match ps with
 | []=>K es
 |(i,x)::r=>match Nat.blt i n with
  |true=>HY sz (ev t x) fun vs=>SJ n sz h (es.set i (vs.map (str h))) t r K
  |false=>False
abbrev Mi(b:ByteArray):List (List AV):=b.data.toList.map fun c=>[AV.v (.int .u8 c.toNat)]
def dH(d:Option Nat)(h:Nat->HO)(s t:Nat)(x:AV)(K:HK):Prop:=
 match(cx.T s).d,(cx.T t).d,x with
 |.string,.slice e,.v (.string b)=>match(cx.T e).d,d with
  |.int .u8,some d=>match h (KZ cx d)with
   |.free=>K (.slice (.id (KZ cx d) 1) (Mi b)) (A3 h (KZ cx d) (.tok 1 (Mi b).length))
   |_=>False
  |_,_=>False
 |_,_,_=>Xz cx.T s t x fun v=>K v h
def EY(d:Option Nat)(h:Nat->HO)(sz:Nat)(es:List (List AV))(K:HK):Prop:=
 match d with
 |none=>False
 |some d=>match h (KZ cx d)with
  |.free=>match Hl cx.pl.arr d with
   |some _=>K (.msl (KZ cx d) es.length) (A3 h (KZ cx d) (.arr sz es))
   |none=>K (.slice (.id (KZ cx d) sz) es) (A3 h (KZ cx d) (.tok sz es.length))
  |_=>False
def Js(d:Option Nat)(h:Nat->HO)(ty n:Nat)(t:Nat->AV)(ps:List (Nat×Operand))(K:HK):Prop:=
 match(cx.T ty).d with
 |.slice e=>match Hq ((cx.T e).zc.map .v),Nat.beq (cx.T e).zc.length (cx.T e).size with
  |true,true=>match(cx.T e).size with
   |0=>False
   |_+1=>match Nat.ble (n*(cx.T e).size) 16777216 with
    |true=>SJ n (cx.T e).size h (List.replicate n ((cx.T e).zc.map .v)) t ps fun es=>EY cx d h (cx.T e).size es K
    |false=>False
  |_,_=>False
 |_=>False
def LY(t:Nat->AV)(h:Nat->HO)(fn:Fn)(first captured:List Operand)(K:AV->Prop):Prop:=
 match fn,first with
 |.func f,[]=>K (.clo f (captured.map fun x=>rsv h (ev t x)))
 |_,_=>False
def Cr(sz:Nat):List (List AV)->Prop
 | []=>True
 |c::r=>c.length=sz/\Cr sz r
def Mr(h:Nat->HO)(x:AV)(K:List (List AV)->Prop):Prop:=
 match x with
 |.slice _ es=>K es
 |.v (.slice none 0 0)=>K []
 |.msl r n=>match h r with
  |.arr _ es=>n=es.length/\K es
  |_=>False
 |_=>False
def Jh(d:Option Nat)(h:Nat->HO)(ty:Nat)(s x:AV)(K:HK):Prop:=
 match(cx.T ty).d with
 |.slice e=>match Nat.beq (cx.T e).zc.length (cx.T e).size with
  |false=>False
  |true=>match(cx.T e).size with
   |0=>False
   |_+1=>Mr h x fun es2=>match s with
    |.v (.slice none 0 0)=>(Cr (cx.T e).size es2/\es2.length*(cx.T e).bytes<=140737488355328/\es2.length<=9223372036854775807)/\EY cx d h (cx.T e).size es2 K
    |.slice (.full Hb) es=>match Nat.beq Hb (cx.T e).size with
     |true=>(Cr (cx.T e).size es2/\0<es2.length/\(es.length+es2.length)*(cx.T e).bytes<=140737488355328/\es.length+es2.length<=9223372036854775807)/\EY cx d h (cx.T e).size (es++es2) K
     |false=>False
    |.slice (.id r Hb) es=>match h r with
     |.tok sz n=>match Nat.beq sz (cx.T e).size,Nat.beq Hb sz with
      |true,true=>(Cr sz es2/\es.length=n/\(es.length+es2.length)*(cx.T e).bytes<=140737488355328/\es.length+es2.length<=9223372036854775807) /\
        K (.slice (.id r sz) (es++es2)) (A3 h r (.tok sz (es.length+es2.length)))
      |_,_=>False
     |_=>False
    |.msl r n=>match h r with
     |.arr sz es=>match Nat.beq sz (cx.T e).size with
      |true=>(Cr sz es2/\es.length=n/\(es.length+es2.length)*(cx.T e).bytes<=140737488355328/\es.length+es2.length<=9223372036854775807) /\
        K (.msl r (es.length+es2.length)) (A3 h r (.arr sz (es++es2)))
      |false=>False
     |_=>False
    |_=>False
 |_=>False
abbrev J6:=List (Nat×Nat)
variable (σ:J6)
inductive xQ|pure|rel|gen (σ:J6) (nn:Nat)|geny (σ:J6) (nn:Nat)
def CI(σ:J6)(n:Nat):Option Nat:=
 match σ with
 | []=>none
 |(i,j)::r=>bif Nat.beq i n then some j else CI r n
def IQ(σ:J6)(n:Nat):Option Nat:=
 match σ with
 | []=>none
 |(i,j)::r=>bif Nat.beq j n then some i else IQ r n
def EK:J6->Bool
 | []=>true
 |(i,j)::r=>(match CI r i,IQ r j with |none,none=>true |_,_=>false)&&Nat.ble 1000 j&&Nat.blt j 2000&&EK r
def Hv:J6->Bool
 | []=>true
 |(i,j)::r=>(match CI r i,IQ r j with |none,none=>true |_,_=>false)&&Hv r
def ren0(h:Nat->HO):AV->AV
 |.slice (.id r sz) es=>match f r with |some r'=>.slice (.id r' sz) es |none=>.slice .none es
 |.slice (.ver r sz v) es=>match f r with |some r'=>.slice (.ver r' sz v) es |none=>.slice .none es
 |.msl r n=>match f r with |some r'=>.msl r' n |none=>.junk
 |.ref r off=>match f r with |some r'=>.ref r' off |none=>str0 h (.ref r off)
 |.eref r n sz i off=>match f r with |some r'=>.eref r' n sz i off |none=>.junk
 |.mref r=>match f r with |some r'=>.mref r' |none=>str0 h (.mref r)
 |a=>str0 h a
def ren1(h:Nat->HO):AV->AV
 |.agg cs=>.agg (cs.map (ren0 f h))
 |.clo g cs=>.clo g (cs.map (ren0 f h))
 |a=>ren0 f h a
def ren(h:Nat->HO):AV->AV
 |.tup cs=>.tup (cs.map (ren1 f h))
 |a=>ren1 f h a
def HO.ren(h:Nat->HO):HO->HO
 |.cells cs=>.cells (cs.map (ren1 f h))
 |.mapU sh Ch=>.mapU sh (Ch.map fun p=>(p.1,ren1 f h p.2))
 |.hol sz es i c a=>.hol sz es i c (ren1 f h a)
 |o=>o
def As(l:List (Nat×HO))(hb:Nat->HO)(i:Nat):HO:=match l with | []=>hb i|(j,v)::r=>bif Nat.beq i j then v else As r hb i
def ZB(f:Nat->Option Nat)(h:Nat->HO):J6->List (Nat×HO)
 | []=>[]
 |(i,j)::r=>(j,(h i).ren f h)::ZB f h r
def F1(h:Nat->HO):Nat->HO:=As (ZB (CI σ) h σ) Ag
def BG(d k:Nat):Nat:=10000+100*d+k
def FA(d nn:Nat)(j:Nat):Option Nat:=
 match IQ σ j with
 |some i=>some i
 |none=>match Nat.ble 2000 j&&Nat.blt j (2000+nn)with |true=>some (BG d (j-2000)) |false=>none
def Eu(d nn:Nat)(h h' : Nat->HO):Nat->HO:=fun i=>
 match CI σ i with
 |some j=>(h' j).ren (FA σ d nn) h'
 |none=>match Nat.ble (BG d 0) i&&Nat.blt i (BG d nn)with |true=>(h' (2000+(i-BG d 0))).ren (FA σ d nn) h' |false=>h i
def D0(h:Nat->HO)(d:Nat):Nat->Bool
 |0=>true
 |k+1=>(match h (BG d k)with |.free=>true |_=>false)&&D0 h d k
def DK(σ:J6)(d nn:Nat):Bool:=
 match σ with
 | []=>true
 |(i,_)::r=>!(Nat.ble (BG d 0) i&&Nat.blt i (BG d nn))&&DK r d nn
def OV(l:List (Nat×Nat))(d:Option Nat):Option Nat:=match d with|none=>none|some d=>Hl l d
def gT:AV->Bool | .tup _=>false|_=>true
def VB:List AV->Bool
 | []=>true
 |a::r=>match gT a with |true=>VB r |false=>false
def Ym:List AV->Option (List Value)
 | []=>some []
 |.v x::r=>match Ym r with |some l=>some (x::l) |none=>none
 |_=>none
def Tq(k:Nat)(d:Option Nat)(h:Nat->HO)(F:AV)(args:List AV)(K:HK):Prop:=
 match d,F,args with
 |some d,.v (.func (.func f) ⟨[]⟩ ⟨[]⟩),.msl r n::l=>match Ym l with
  |some vs=>match h r with
   |.arr sz es=>match k with
    |0=>∃n' F2,A9 cx.P f (.msl 1000 n::vs.map .v) (As [(1000,.arr sz es)] Ag) (fun r' h'=>r'=.msl 1000 n'/\h'=As [(1000,.arr sz F2)] Ag)/\K (.msl r n') (A3 h r (.arr sz F2))
    |_+1=>∃n' F2,(D0 h d 1&&Nat.blt r 10000000&&!Nat.beq r (BG d 0))=true/\A9 cx.P f (.msl 1000 n::vs.map .v) (As [(1000,.arr sz es)] Ag) (fun r' h'=>r'=.msl 2000 n'/\h'=As [(1000,.dead),(2000,.arr sz F2)] Ag) /\
      K (.msl (BG d 0) n') (A3 (A3 h r .dead) (BG d 0) (.arr sz F2))
   |_=>False
  |none=>False
 |_,_,_=>False
def Wl(d:Option Nat)(st:St)(F:AV)(args:List AV)(K:HK):Prop:=
 match d with
 |none=>False
 |some d=>∃sz es,(D0 st.h d 1&&gT F&&VB args)=true/\GF cx.P (fun l=>cx.yp l []) (str st.h F) (args.map (str st.h)) Ag (fun r h'=>r=.slice (.id 2000 sz) es/\h'=As [(2000,.tok sz es.length)] Ag) /\
   K (.slice (.id (BG d 0) sz) es) (A3 st.h (BG d 0) (.tok sz es.length))
def Sv(d:Option Nat)(st:St)(F:AV)(args:List AV)(K:HK):Prop:=
  match d,F,Ym args with
  |some _,.v (.func (.yield l) ⟨[]⟩ ⟨[]⟩),some vs=>match st.h 1000,st.h 1001 with
    |.cells [.slice (.id r sz) es],.tok iw n=>(r=1001/\iw=sz)/\∃v F2 n',JU cx.P (cx.yp l [(1000,1000),(1001,1001)]) l (vs.map .v) (As [(1000,.cells [.slice (.id 1001 sz) es]),(1001,.tok sz n)] Ag)
          (fun r h'=>r=.v v/\h'=As [(1000,.cells [.slice (.id 1001 sz) F2]),(1001,.tok sz n')] Ag) /\
        K (.v v) (A3 (A3 st.h 1001 (.tok sz n')) 1000 (.cells [.slice (.id 1001 sz) F2]))
    |_,_=>False
  |_,_,_=>False
def qP:List Nat:=[1000,1001,1002,1003,1004,1005,1006,1007,10900,5]
def bl(d:Option Nat)(st:St)(F:AV)(args:List AV)(K:HK):Prop:=
 match d,F with
 |some d,.v (.func (.func f) ⟨[]⟩ ⟨[]⟩)=>∃(σ:J6) (H0 Hn:List (Nat×HO)) (args' : List AV) (res:AV),
   (∀h2:Nat->HO,(∀r∈qP,h2 r=st.h r)->F1 σ h2=As H0 Ag/\args.map (ren (CI σ) h2)=args')/\(EK σ&&DK σ d 0&&σ.all fun p=>JO qP p.1)=true /\
   A9 cx.P f args' (As H0 Ag) (fun r h'=>r=res/\h'=As Hn Ag)/\K (ren (FA σ d 0) (As Hn Ag) res) (Eu σ d 0 st.h (As Hn Ag))
 |_,_=>False
def Ra(k:Nat)(d:Option Nat)(st:St)(F:AV)(args:List AV)(K:HK):Prop:=
 match Nat.beq k 4 with
 |true=>bl cx d st F args K
 |false=>Tq cx k d st.h F args K
def GV(dr:Bool)(d:Option Nat)(st:St)(F:AV)(args:List AV)(K:HK):Prop:=
 match dr with
 |true=>match OV cx.pl.dc d with
  |none=>∃res,Rt cx.P (str st.h F) (args.map (str st.h)) res/\K res st.h
  |some 0=>match d with
   |none=>False
   |some d=>∃n sz es,(D0 st.h d 1&&gT F&&VB args)=true/\GF cx.P (fun l=>cx.yp l []) (str st.h F) (args.map (str st.h)) Ag (fun r h'=>r=.msl 2000 n/\h'=As [(2000,.arr sz es)] Ag) /\
     K (.msl (BG d 0) n) (A3 st.h (BG d 0) (.arr sz es))
  |some (k+1)=>match Nat.beq k 2 with
   |true=>Wl cx d st F args K
   |false=>match Nat.beq k 3 with
    |true=>Sv cx d st F args K
    |false=>Ra cx k d st F args K
 |false=>∃m:xQ,match m with
  |.pure=>∃res,Rt cx.P (str st.h F) (args.map (str st.h)) res/\K res st.h
  |.rel=>GF cx.P (fun _ _ _=>True) (str st.h F) (args.map (str st.h)) Ag fun r h'=>h'=Ag/\K r st.h
  |.gen σ nn=>match d with
   |none=>False
   |some d=>(EK σ&&D0 st.h d nn&&DK σ d nn)=true /\
     GF cx.P (fun l=>cx.yp l σ) (ren (CI σ) st.h F) (args.map (ren (CI σ) st.h)) (F1 σ st.h) fun r h'=>K (ren (FA σ d nn) h' r) (Eu σ d nn st.h h')
  |.geny σ nn=>match d with
   |none=>False
   |some d=>(EK σ&&D0 st.h d nn&&DK σ d nn)=true /\
     match ren (CI σ) st.h F with
     |.clo f caps=>tX cx.P (fun g w=>∀l,cx.yp l σ g w) f (args.map (ren (CI σ) st.h)++caps) (F1 σ st.h) fun r h'=>K (ren (FA σ d nn) h' r) (Eu σ d nn st.h h')
     |_=>False
def ZK:List AV->Option (List Value)
 | []=>some []
 |.v x::r=>match ZK r with |some l=>some (x::l) |none=>none
 |_=>none
def vQ:AV->Option Value
 |.v x=>some x
 |.agg cs=>match ZK cs with |some l=>some (.agg l.toArray) |none=>none
 |_=>none
def IU(T:Ha)(t:Nat):Option E8:=
 match(T t).d with
 |.struct _=>match ID T 8 t with |some l=>some ⟨true,l⟩ |none=>none
 |_=>match ID T 1 t with |some l=>some ⟨false,l⟩ |none=>none
def rp:KS->KS->Bool
 |.int k,.int k'=>xN k k'
 |.str,.str=>true
 |.bool,.bool=>true
 |_,_=>false
def Vm:List KS->List KS->Bool
 | [],[]=>true
 |a::r,b::s=>match rp a b with |true=>Vm r s |false=>false
 |_,_=>false
def wy(a b:E8):Bool:=
 match a.agg,b.agg with
 |true,true=>Vm a.l b.l
 |false,false=>Vm a.l b.l
 |_,_=>false
def Lw(T:Ha)(ty:Nat)(sh:E8)(k:AV)(K:Value->Prop):Prop:=
 match(T ty).d with
 |.map kt _=>match IU T kt with
  |some sh'=>match wy sh sh' with
   |true=>match vQ k with
    |some kx=>match X8 sh kx with
     |true=>K kx
     |false=>False
    |none=>False
   |false=>False
  |none=>False
 |_=>False
open Classical in
noncomputable def E2(Ch:List (Value×AV))(k:Value)(a:AV):List (Value×AV):=
 if ∃a',(k,a')∈Ch then Ch.map fun p=>if p.1=k then(k,a)else p else Ch++[(k,a)]
def LZ(T:Ha)(mku:List Nat)(d:Option Nat)(h:Nat->HO)(ty:Nat)(K:HK):Prop:=
 match d with
 |none=>False
 |some d=>match h d with
  |.free=>match(T ty).d with
   |.map kt _=>match IU T kt with
    |some sh=>match JO mku d with
     |true=>K (.mref d) (A3 h d (.mapU sh []))
     |false=>K (.mref d) (A3 h d (.map sh []))
    |none=>False
   |_=>False
  |_=>False
def H3(T:Ha)(h:Nat->HO)(ty:Nat)(m k x:AV)(K:HK):Prop:=
 match m with
 |.mref r=>match h r with
  |.map sh Ch=>Lw T ty sh k fun kx=>K (.v undef) (A3 h r (.map sh (E2 Ch kx (str h x))))
  |.mapU sh Ch=>Lw T ty sh k fun kx=>K (.v undef) (A3 h r (.mapU sh (E2 Ch kx x)))
  |_=>False
 |_=>False
def LD(T:Ha)(t:Nat)(K:AV->Prop):Prop:=
 match(T t).d with
 |.other=>False
 |_=>match(T t).zero with
  |.agg cs=>match Hq (cs.toList.map .v)with |true=>K (.agg (cs.toList.map .v)) |false=>False
  |z=>K (.v z)
def Nw(T:Ha)(ty:Nat)(ok:Bool)(Ch:List (Value×AV))(kx:Value)(K:AV->Prop):Prop:=
 match(T ty).d with
 |.map _ e=>match ok with
  |true=>(∀a,(kx,a)∈Ch->K (.tup [a,.v (.bool true)]))/\((∀a,(kx,a)∉Ch)->LD T e fun z=>K (.tup [z,.v (.bool false)]))
  |false=>(∀a,(kx,a)∈Ch->K a)/\((∀a,(kx,a)∉Ch)->LD T e K)
 |_=>False
def Nv(T:Ha)(ty:Nat)(ok:Bool)(Ch:List (Value×AV))(kx:Value)(K:AV->Prop):Prop:=
 match(T ty).d with
 |.map _ e=>match ok with
  |true=>(∃a,((kx,a)∈Ch/\∀b,(kx,b)∈Ch->b=a)/\K (.tup [a,.v (.bool true)]))\/((∀a,(kx,a)∉Ch)/\LD T e fun z=>K (.tup [z,.v (.bool false)]))
  |false=>(∃a,((kx,a)∈Ch/\∀b,(kx,b)∈Ch->b=a)/\K a)\/((∀a,(kx,a)∉Ch)/\LD T e K)
 |_=>False
def N4(T:Ha)(h:Nat->HO)(ty:Nat)(m k:AV)(ok:Bool)(K:AV->Prop):Prop:=
 match m with
 |.cmap sh Ch=>Lw T ty sh k fun kx=>Nv T ty ok Ch kx K
 |.mref r=>match h r with
  |.map sh Ch=>Lw T ty sh k fun kx=>Nv T ty ok Ch kx K
  |.mapU sh Ch=>Lw T ty sh k fun kx=>Nv T ty ok Ch kx K
  |.rom sh Ch=>Lw T ty sh k fun kx=>Nv T ty ok Ch kx K
  |_=>False
 |_=>False
def N5(T:Ha)(h:Nat->HO)(ty:Nat)(m k:AV)(ok:Bool)(K:AV->Prop):Prop:=
 match m with
 |.cmap sh Ch=>Lw T ty sh k fun kx=>Nw T ty ok Ch kx K
 |.mref r=>match h r with
  |.map sh Ch=>Lw T ty sh k fun kx=>Nw T ty ok Ch kx K
  |.mapU sh Ch=>Lw T ty sh k fun kx=>Nw T ty ok Ch kx K
  |.rom sh Ch=>Lw T ty sh k fun kx=>Nw T ty ok Ch kx K
  |_=>False
 |_=>False
def fp(d:Option Nat)(h:Nat->HO)(x:AV)(K:HK):Prop:=
 match d with
 |none=>False
 |some d=>match h d with
  |.free=>match x with
   |.cmap _ Ch=>K (.ref d 0) (A3 h d (.iter Ch Ch none))
   |.mref r=>match h r with
    |.rom _ Ch=>K (.ref d 0) (A3 h d (.iter Ch Ch none))
    |.map sh Ch=>K (.ref d 0) (A3 (A3 h r (.rom sh Ch)) d (.iter Ch Ch none))
    |_=>False
   |_=>False
  |_=>False
def nX(h:Nat->HO)(x:AV)(K:HK):Prop:=
 match x with
 |.ref r 0=>match h r with
  |.iter all rem _=>(rem=[]->K (.tup [.v (.bool false)]) h) /\
    (∀kv MH,rem.Perm (kv::MH)->K (.tup [.v (.bool true),.v kv.1,kv.2]) (A3 h r (.iter all MH (some kv))))
  |_=>False
 |_=>False
def dL(h:Nat->HO)(x:AV)(K:AV->Prop):Prop:=
 match x with
 |.ref r 0=>match h r with
  |.iter _ _ (some kv)=>K (.tup [.v kv.1,kv.2])
  |_=>False
 |_=>False
def SZ(T:Ha)(t:Nat)(h:Nat->HO)(x:AV)(K:AV->Prop):Prop:=
 match(T t).d with
 |.slice _=>match x with
  |.slice _ es=>K (.v (.int .i64 es.length))
  |.msl _ n=>K (.v (.int .i64 n))
  |.v (.slice none 0 0)=>K (.v (.int .i64 0))
  |_=>False
 |.string=>match x with
  |.v (.string s)=>K (.v (.int .i64 s.size))
  |_=>False
 |.map _ _=>match x with
  |.cmap _ Ch=>K (.v (.int .i64 Ch.length))
  |.mref r=>match h r with
   |.map _ Ch=>K (.v (.int .i64 Ch.length))
   |.mapU _ Ch=>K (.v (.int .i64 Ch.length))
   |.rom _ Ch=>K (.v (.int .i64 Ch.length))
   |_=>False
  |_=>False
 |_=>False
def G8(d:Option Nat)(h:Nat->HO)(ty:Nat)(x:AV)(lo hi mx:Option (Option Int))(K:HK):Prop:=
 match lo,hi,mx with
 |some lo,some hi,some mx=>match(cx.T ty).d with
  |.string=>match mx,x with
   |none,.v (.string s)=>(0<=lo.getD 0/\lo.getD 0<=hi.getD s.size/\hi.getD s.size<=s.size)/\K (.v (.string (s.extract (lo.getD 0).toNat (hi.getD s.size).toNat))) h
   |_,_=>False
  |.slice e=>match(cx.T e).size with
   |0=>False
   |_+1=>match x with
    |.slice _ es=>match mx with
     |none=>(0<=lo.getD 0/\lo.getD 0<=hi.getD es.length/\hi.getD es.length<=es.length) /\
       (∀cs∈es,cs.length=(cx.T e).size)/\K (.slice .none ((es.take (hi.getD es.length).toNat).drop (lo.getD 0).toNat)) h
     |some m=>match d,hi with
      |some d,some hi=>match Hl cx.pl.arr d with
       |some _=>(0<=lo.getD 0/\lo.getD 0<=hi/\m=hi/\hi<=es.length)/\(∀cs∈es,cs.length=(cx.T e).size) /\
         K (.slice (.full (cx.T e).size) ((es.take hi.toNat).drop (lo.getD 0).toNat)) h
       |none=>match h d with
        |.free=>(0<=lo.getD 0/\lo.getD 0<=hi/\m=hi/\hi<=es.length)/\(∀cs∈es,cs.length=(cx.T e).size) /\
          K (.slice (.id d (cx.T e).size) ((es.take hi.toNat).drop (lo.getD 0).toNat)) (A3 h d (.tok (cx.T e).size (hi.toNat-(lo.getD 0).toNat)))
        |_=>False
      |_,_=>False
    |.v (.slice none 0 0)=>(lo.getD 0=0/\hi.getD 0=0/\mx.getD 0=0)/\(mx=none\/hi≠none)/\K (.v (.slice none 0 0)) h
    |.msl r n=>match h r with
     |.arr sz es=>match Nat.beq sz (cx.T e).size with
      |true=>(n=es.length/\0<=lo.getD 0/\lo.getD 0<=hi.getD es.length/\hi.getD es.length<=es.length/\(mx=none\/(mx=hi/\hi≠none))) /\
        K (.slice .none ((es.take (hi.getD es.length).toNat).drop (lo.getD 0).toNat)) (A3 h r .dead)
      |false=>False
     |_=>False
    |_=>False
  |_=>False
 |_,_,_=>False
def VQ(d:Option Nat)(h:Nat->HO)(ty:Nat)(x:AV)(lo:Option (Option Int))(hi mx:Option Operand)(K:HK):Prop:=
 match d,lo,hi,mx with
 |some d,some (some lo),none,none=>match(cx.T ty).d with
  |.slice e=>match(cx.T e).size with
   |0=>False
   |_+1=>match x with
    |.slice (.id r sz) es=>match h r with
     |.tok Hb n=>match h (KZ cx d)with
      |.free=>match Nat.beq Hb sz,Nat.beq sz (cx.T e).size with
       |true,true=>(es.length=n/\0<=lo/\lo<=es.length)/\K (.slice (.id (KZ cx d) sz) (es.drop lo.toNat)) (A3 (A3 h r .dead) (KZ cx d) (.tok sz (es.drop lo.toNat).length))
       |_,_=>False
      |_=>False
     |_=>False
    |_=>False
  |_=>False
 |_,_,_,_=>False
def oJ(d:Option Nat)(h:Nat->HO)(ty:Nat)(x:AV)(hi:Option (Option Int))(K:HK):Prop:=
 match d,hi with
 |some d,some (some hi)=>match(cx.T ty).d with
  |.slice e=>match(cx.T e).size with
   |0=>False
   |_+1=>match x with
    |.msl r n=>match h r with
     |.arr sz es=>match h (KZ cx d)with
      |.free=>match Nat.beq sz (cx.T e).size,Nat.blt r 10000000&&Nat.blt 0 (KZ cx d)with
       |true,true=>(n=es.length/\0<=hi/\hi<=es.length)/\K (.msl (KZ cx d) hi.toNat) (A3 (A3 h r .dead) (KZ cx d) (.arr sz (es.take hi.toNat)))
       |_,_=>False
      |_=>False
     |_=>False
    |_=>False
  |_=>False
 |_,_=>False
def QX(d:Option Nat)(h:Nat->HO)(ty:Nat)(x:AV)(lo:Option Operand)(hi:Option (Option Int))(mx:Option Operand)(K:HK):Prop:=
 match lo,mx with
 |none,none=>oJ cx d h ty x hi K
 |_,_=>False
def dt(T:Ha)(h:Nat->HO)(ty:Nat)(x:AV)(hi mx:Option Operand)(K:AV->Prop):Prop:=
 match hi,mx,(T ty).d,x with
 |none,none,.array n e,.ref r 0=>match(T e).size,h r with
  |1,.ro cs=>n=cs.length/\K (.slice .none (cs.map fun c=>[c]))
  |_,_=>False
 |_,_,_,_=>False
def cA(d:Option Nat)(h:Nat->HO)(ty:Nat)(x:AV)(t:Nat->AV)(lo hi mx:Option Operand)(K:HK):Prop:=
 match lo with
 |none=>match(cx.T ty).d with
  |.array _ _=>dt cx.T h ty x hi mx fun v=>K v h
  |_=>QX cx d h ty x none (Cs t hi) mx K
 |some lo=>VQ cx d h ty x (Cs t (some lo)) hi mx K
def unT:AV->AV
 |.slice _ es=>.slice .none es
 |a=>a
def PT(d:Option Nat)(h:Nat->HO)(x:AV)(K:HK):Prop:=
 match d with
 |none=>K x h
 |some d=>match Hl cx.pl.tok d with
  |some sz=>match Nat.beq sz 0 with
   |true=>K (unT x) h
   |false=>match x with
    |.v (.slice none 0 0)=>match h d with
     |.free=>K (.slice (.id d sz) []) (A3 h d (.tok sz 0))
     |_=>False
    |x=>K x h
  |none=>match Hl cx.pl.arr d with
   |some sz=>match x with
    |.v (.slice none 0 0)=>match h d with
     |.free=>K (.msl d 0) (A3 h d (.arr sz []))
     |_=>False
    |x=>K x h
   |none=>K x h
def rK(l:List AV)(n:Nat):Option AV:=
 match l with
 | []=>none
 |x::r=>match n with |0=>some x |n+1=>rK r n
def Nq(i:Nat)(K:AV->Prop):Prop:=
 match x with
 |.tup vs=>match rK vs i with
  |some a=>K a
  |none=>False
 |_=>False
def L1:Prop:=
 match x with
 |.ref r o=>K (.ref r o)
 |.eref r n z i o=>K (.eref r n z i o)
 |.cptr cs=>K (.cptr cs)
 |.clo f cs=>K (.clo f cs)
 |.v (.func (.func f) a b)=>K (.v (.func (.func f) a b))
 |_=>False
def ct(c a b:AV)(K:AV->Prop):Prop:=
 match c with
 |.v (.bool true)=>K a
 |.v (.bool false)=>K b
 |_=>False
def rC(f:Int->Int->Int)(x y:AV)(K:AV->Prop):Prop:=
 match x,y with
 |.v (.int k a),.v (.int k' b)=>match xN k k' with
  |true=>K (.v (.int k (f a b)))
  |false=>False
 |_,_=>False
def KH(d:Option Nat)(h:Nat->HO)(ty:Nat)(len cap:AV)(K:HK):Prop:=
 match(cx.T ty).d,len,cap with
 |.slice e,.v (.int .i64 n),.v (.int .i64 c)=>match Hq ((cx.T e).zc.map .v)with
  |true=>match Nat.beq (cx.T e).zc.length (cx.T e).size with
   |true=>match(cx.T e).size with
    |0=>False
    |_+1=>(0<=n/\n<=c/\c*(cx.T e).bytes<=140737488355328/\c<=9223372036854775807)/\EY cx d h (cx.T e).size (List.replicate n.toNat ((cx.T e).zc.map .v)) K
   |false=>False
  |false=>False
 |_,_,_=>False
def cQ(op:UnOp)(x:AV)(K:AV->Prop):Prop:=
 match op,x with
 |.not,x=>kc K x
 |.neg,.v (.int .i64 a)=>Bc (-a)/\K (.v (.int .i64 (-a)))
 |.xor,.v (.int k a)=>K (.v (.int k (JV .xor k (if k.signed then -1 else k.max) a)))
 |_,_=>False
def Gy(d:Option Nat)(h:Nat->HO)(b:Builtin)(Hz:List Nat)(args:List AV)(K:HK):Prop:=
 match b,args,Hz with
 |.len,[x],[t]=>SZ cx.T t h x fun v=>K v h
 |.append,[s,x],[t,t']=>match Nat.beq t t' with
  |true=>Jh cx d h t s x K
  |false=>False
 |.max,[x,y],_=>rC max x y fun v=>K v h
 |.min,[x,y],_=>rC min x y fun v=>K v h
 |_,_,_=>False
def Gl(dr:Bool)(o:Oper)(st:St)(K:HK):Prop:=
 match o.op with
 |.move x=>K (ev st.t x) st.h
 |.assign x=>PT cx o.dst st.h (ev st.t x) K
 |.pick c a b=>ct (ev st.t c) (ev st.t a) (ev st.t b) fun v=>K v st.h
 |.alloc e=>Um cx.T o.dst st.h e K
 |.box e x=>jb cx o.dst st.h e (ev st.t x) K
 |.build ty ps=>Ry cx.T ty st.t ps.toList fun v=>K v st.h
 |.buildSlice ty n ps=>Js cx o.dst st.h ty n st.t ps.toList K
 |.insert ty m k x=>H3 cx.T st.h ty (ev st.t m) (ev st.t k) (ev st.t x) K
 |.load ty x=>Jb cx.T st.h ty (ev st.t x) fun v=>K v st.h
 |.store ty p x=>PA cx st.h ty (ev st.t p) (ev st.t x) K
 |.nilCheck x=>L1 (ev st.t x) fun v=>K v st.h
 |.binOp op ty x y _=>ar cx.T op ty y (ev st.t x) (ev st.t y) fun v=>K v st.h
 |.unOp op _ x=>cQ op (ev st.t x) fun v=>K v st.h
 |.convert s ty x=>match dr with
  |true=>Xz cx.T s ty (ev st.t x) fun v=>K v st.h
  |false=>dH cx o.dst st.h s ty (ev st.t x) K
 |.makeFunc fn first cap=>LY st.t st.h fn first.toList cap.toList fun v=>K v st.h
 |.makeMap ty none=>LZ cx.T cx.pl.mku o.dst st.h ty K
 |.makeSlice ty n c=>KH cx o.dst st.h ty (ev st.t n) (ev st.t c) K
 |.slice ty x lo hi mx=>match dr with
  |true=>match OV cx.pl.tok o.dst with
   |none=>G8 cx o.dst st.h ty (ev st.t x) (Cs st.t lo) (Cs st.t hi) (Cs st.t mx) K
   |some _=>QX cx o.dst st.h ty (ev st.t x) lo (Cs st.t hi) mx K
  |false=>match OV cx.pl.tok o.dst with
   |none=>G8 cx o.dst st.h ty (ev st.t x) (Cs st.t lo) (Cs st.t hi) (Cs st.t mx) K
   |some _=>cA cx o.dst st.h ty (ev st.t x) st.t lo hi mx K
 |.fieldAddr s x f=>UP cx.T s f (ev st.t x) fun v=>K v st.h
 |.field s x f=>Qn cx.T s f (ev st.t x) fun v=>K v st.h
 |.indexAddr ty x ix=>KF cx.T ty (ev st.t x) (ev st.t ix) fun v=>K v st.h
 |.index ty x ix=>Vg cx.T ty (ev st.t x) (ev st.t ix) fun v=>K v st.h
 |.lookup ty x ix ok=>match dr with
  |true=>N4 cx.T st.h ty (ev st.t x) (ev st.t ix) ok fun v=>K v st.h
  |false=>N5 cx.T st.h ty (ev st.t x) (ev st.t ix) ok fun v=>K v st.h
 |.mapUpdate ty m k x=>H3 cx.T st.h ty (ev st.t m) (ev st.t k) (ev st.t x) K
 |.range ty x=>match(cx.T ty).d with |.map _ _=>fp o.dst st.h (ev st.t x) K |_=>False
 |.next it false=>nX st.h (ev st.t it) K
 |.entry it=>dL st.h (ev st.t it) fun v=>K v st.h
 |.extract x i=>Nq (ev st.t x) i fun v=>K v st.h
 |.call c=>match c.callee with
  |.builtin b=>Gy cx o.dst st.h b c.argTypes.toList (c.args.toList.map (ev st.t)) K
  |.value f=>GV cx dr o.dst st (ev st.t f) (c.args.toList.map (ev st.t)) K
  |_=>False
 |_=>False
def Lx(ops:List Oper)(j:Nat):Option Nat:=match ops with | []=>none|o::r=>match j with|0=>o.dst|j+1=>Lx r j
def oK(o:Oper)(st:St):St:=
 match o.dst with
 |none=>st
 |some d=>match xX cx.pl.tz d with
  |some (r,k,j,sz)=>⟨st.t,tz1 st.h r k j sz⟩
  |none=>match un cx.pl.fz d with
   | []=>st
   |l=>⟨st.t,Qz st.h l⟩
def akK(o:Oper)(st:St)(K:St->Prop):Prop:=
 match o.dst with
 |none=>K st
 |some d=>match Hl cx.pl.ak d with
  |none=>K st
  |some s=>match st.t s with
   |.msl r n=>match st.h r with
    |.arr sz es=>n=es.length/\K ⟨H5 st.t s (.slice (.id r sz) es),A3 st.h r (.tok sz es.length)⟩
    |_=>K st
   |_=>K st
def lJ(dr:Bool)(o:Oper)(st:St)(K:St->Prop):Prop:=
 match dr with
 |true=>Gl cx true o st fun v h=>K (st.put o.dst v h)
 |false=>akK cx o (oK cx o st) fun EB=>Gl cx false o EB fun v h=>K (EB.put o.dst v h)
def H9(dr:Bool)(all:List Oper)(o:Oper)(st:St)(K:St->Prop):Prop:=
 match o.guard with
 |none=>lJ cx dr o st K
 |some (j,want)=>match Lx all j with
  |none=>False
  |some d=>match st.t d,want with
   |.v (.bool true),true=>lJ cx dr o st K
   |.v (.bool false),false=>lJ cx dr o st K
   |.v (.bool true),false=>K (st.put o.dst (.v undef) st.h)
   |.v (.bool false),true=>K (st.put o.dst (.v undef) st.h)
   |.v (.tuple _),_=>K (st.put o.dst (.v undef) st.h)
   |_,_=>False
def Vi(o2:Oper):Bool:=
 match o2.op with
 |.call c=>match c.callee with
  |.builtin .clear=>match o.op with
   |.slice ty _ (some _) none none=>match o.dst,o2.dst,c.args.toList,c.argTypes.toList,o.guard,o2.guard with
    |some d,none,[.tmp d'],[ty'],none,none=>Nat.beq d d'&&Nat.beq ty ty'
    |_,_,_,_,_,_=>false
   |_=>false
  |_=>false
 |_=>false
def yt(d:Nat)(st:St)(r i sz:Nat)(es:List (List AV))(z:List Value)(K:St->Prop):Prop:=
 match z.all Value.oneCell' with
 |true=>K ⟨H5 st.t d .junk,A3 st.h r (.arr sz (es.take i++List.replicate (es.length-i) (z.map AV.v)))⟩
 |false=>False
def jh(o:Oper)(st:St)(K:St->Prop):Prop:=
 match o.op with
 |.slice ty x (some lo) none none=>match o.dst with
  |some d=>match(cx.T ty).d with
   |.slice e=>match ev st.t x with
    |.msl r n=>match ev st.t lo with
     |.v (.int .i64 i)=>match st.h r with
      |.arr sz es=>match Nat.beq sz (cx.T e).size with
       |true=>match(cx.T e).size with
        |0=>False
        |_+1=>match Nat.beq (cx.T e).zc.length sz with
         |true=>(n=es.length/\0<=i/\i<=es.length)/\yt d st r i.toNat sz es (cx.T e).zc K
         |false=>False
       |false=>False
      |_=>False
     |_=>False
    |_=>False
   |_=>False
  |none=>False
 |_=>False
def WC(cx:Cx)(all l:List Oper)(st:St)(K:St->Prop):Prop:=
 match l with
 | []=>K st
 | [o]=>H9 cx false all o st K
 |o::o2::r=>match Vi o o2 with
  |true=>jh cx o st fun EB=>WC cx all r EB K
  |false=>H9 cx false all o st fun EB=>WC cx all (o2::r) EB K
def WN:AV->List Nat
 |.ref r _=>[r]
 |.mref r=>[r]
 |_=>[]
def rh:List AV->List Nat
 | []=>[]
 |a::r=>WN a++rh r
def WO:AV->List Nat
 |.agg cs=>rh cs
 |.clo _ cs=>rh cs
 |a=>WN a
def vL:List AV->List Nat
 | []=>[]
 |a::r=>WO a++vL r
def ZV:AV->List Nat
 |.agg cs=>vL cs
 |a=>WO a
def Vc:List AV->List Nat
 | []=>[]
 |a::r=>ZV a++Vc r
abbrev FV:=List Nat×Option Nat
def Jx(d:Option Nat)(l:List Nat):Option FV:=match d with|some d=>some (d::l,some d)|none=>none
def jW:AV->List Nat
 |.msl r _=>[r]
 |_=>[]
def Y5(d:Option Nat)(s x:AV):Option FV:=
 match s with
 |.v (.slice none 0 0)=>Jx (d.map (KZ cx)) (jW x)
 |.slice (.full _) _=>Jx (d.map (KZ cx)) (jW x)
 |.slice (.id r _) _=>Jx (some r) (jW x)
 |.msl r _=>Jx (some r) (jW x)
 |_=>none
def gq(d:Option Nat)(args:List AV):Option FV:=
 match d with
 |some d=>match args with
  |.msl r _::_=>some ([r,BG d 0],some (r+10000000*BG d 0))
  |_=>none
 |none=>none
theorem dQ{d:Option Nat}{args:List AV}{f:FV}(h:gq d args=some f):∃d' r n l,d=some d'/\args=.msl r n::l/\f=([r,BG d' 0],some (r+10000000*BG d' 0)):=by
 unfold gq at h;split at h
 .split at h
  .cases h;exact⟨_,_,_,_,rfl,rfl,rfl⟩
  .cases h
 .cases h
def mF(d:Option Nat)(x:AV):Option FV:=
 match d with
 |some d=>match x with
  |.msl r _=>some ([r,d],some (r+10000000*d))
  |_=>none
 |none=>none
theorem dR{d:Option Nat}{x:AV}{f:FV}(h:mF d x=some f):∃d' r n,d=some d'/\x=.msl r n/\f=([r,d'],some (r+10000000*d')):=by
 unfold mF at h;split at h
 .split at h
  .cases h;exact⟨_,_,_,rfl,rfl,rfl⟩
  .cases h
 .cases h
def mG(args:List AV):Option FV:=match Ym args with|some _=>some ([1000,1001],some 10010001000)|none=>none
def YC:Nat:=99999999999999
def mE(k:Nat)(d:Option Nat)(args:List AV):Option FV:=
 match Nat.beq k 3 with
 |true=>some (qP,some YC)
 |false=>gq d args
def HL(d:Option Nat)(c:Callee)(t:Nat->AV)(args:List AV):Option FV:=
 match c,args with
 |.builtin .len,[.mref r]=>some ([r],none)
 |.builtin .len,[_]=>some ([],none)
 |.builtin .max,_=>some ([],none)
 |.builtin .min,_=>some ([],none)
 |.builtin .append,[s,x]=>Y5 cx d s x
 |.value f,args=>match OV cx.pl.dc d with
  |none=>some (ZV (ev t f)++Vc args,none)
  |some 0=>Jx (d.map fun d=>BG d 0) (ZV (ev t f)++Vc args)
  |some 1=>match args with |.msl r _::_=>some ([r],some r) |_=>none
  |some (k+2)=>match Nat.beq k 1 with
   |true=>Jx (d.map fun d=>BG d 0) (ZV (ev t f)++Vc args)
   |false=>match Nat.beq k 2 with
    |true=>mG args
    |false=>mE k d args
 |_,_=>none
def FH(o:Oper)(st:St):Option FV:=
 match o.op with
 |.move _ |.pick .. |.nilCheck _ |.unOp .. |.convert .. |.fieldAddr .. |.field .. |.indexAddr .. |.index .. |.extract .. |.build ..=>some ([],none)
 |.binOp _ _ x _ _=>match ev st.t x with |.slice ..=>none |_=>some ([],none)
 |.assign x=>match ev st.t x with |.v (.slice ..)=>none |_=>some ([],none)
 |.load _ p=>match ev st.t p with |.cptr _=>some ([],none) |.ref r _=>some ([r],none) |.eref r ..=>some ([r],none) |_=>none
 |.call c=>HL cx o.dst c.callee st.t (c.args.toList.map (ev st.t))
 |.alloc _=>Jx o.dst []
 |.box _ x=>Jx o.dst (ZV (ev st.t x))
 |.buildSlice _ _ ps=>Jx (o.dst.map (KZ cx)) (Vc (ps.toList.map fun p=>ev st.t p.2))
 |.store _ p x=>match ev st.t p with
  |.ref r _=>match JO cx.pl.frz r with |true=>none |false=>Jx (some r) []
  |.eref r ..=>Jx (some r) (ZV (ev st.t x))
  |_=>none
 |.slice _ x _ _ mx=>match OV cx.pl.tok o.dst with
  |some _=>mF (o.dst.map (KZ cx)) (ev st.t x)
  |none=>match mx,ev st.t x with
   |none,.msl ..=>none
   |none,_=>some ([],none)
   |some _,.slice ..=>Jx o.dst []
   |_,_=>none
 |.makeFunc _ _ cap=>some (Vc (cap.toList.map (ev st.t)),none)
 |.mapUpdate _ m _ x=>match ev st.t m with |.mref r=>Jx (some r) (ZV (ev st.t x)) |_=>none
 |.makeSlice ..=>Jx (o.dst.map (KZ cx)) []
 |.lookup _ m _ _=>match ev st.t m with |.cmap ..=>some ([],none) |.mref r=>some ([r],none) |_=>none
 |.makeMap ..=>Jx o.dst []
 |_=>none
def OB(all:List Oper)(o:Oper)(st:St):Option FV:=
 match o.guard with
 |none=>FH cx o st
 |some (j,want)=>match Lx all j with
  |none=>none
  |some d=>match st.t d,want with
   |.v (.bool true),true=>FH cx o st
   |.v (.bool false),false=>FH cx o st
   |_,_=>some ([],none)
def zM(l:List Nat):Bool:=match l with | []=>true|_=>false
def cg(l:List Nat)(r:Nat):Bool:=bif Nat.beq r YC then zM l else !JO l r&&(Nat.blt r 10000000||(!JO l (r % 10000000)&&!JO l (r / 10000000)))
def UI(a b:FV):Bool:=
 (match a.2 with|some r=>cg b.1 r|none=>true)&&(match b.2 with|some r=>cg a.1 r|none=>true)
def QA(i:Nat)(D:List Nat):Bool:=o.after.toList.any fun e=>Region.binds .any e&&(Nat.beq e.on i||JO D e.on)
def RB(i:Nat)(D:List Nat)(k:Nat):List Oper->List Nat
 | []=>D
 |o::r=>match QA o i D with
  |true=>RB i (k::D) (k+1) r
  |false=>RB i D (k+1) r
def We(i:Nat)(D:List Nat)(k:Nat):List Oper->Bool
 | []=>true
 |o::r=>(QA o i D||!JO D k)&&We i D (k+1) r
def Jr(ops:Array Oper)(oi:Oper)(fi:FV)(D:List Nat)(k:Nat):List Oper->List FV->Bool
 |o::r,f::fs=>(JO D k||(oi.apart ops o&&UI fi f))&&Jr ops oi fi D (k+1) r fs
 | [],[]=>true
 |_,_=>false
def Np(ops:Array Oper)(all:List Oper)(k:Nat):List Oper->List FV->Bool
 |o::r,f::fs=>
  let D:=RB k [] 0 all
  (o.after.toList.all fun e=>!Region.binds .any e||Nat.blt e.on k)&&We k D 0 all&&(D.all fun j=>Nat.blt k j&&Nat.blt j all.length)&&Jr ops o f D (k+1) r fs&&Np ops all (k+1) r fs
 | [],[]=>true
 |_,_=>false
def UJ(ops:Array Oper)(fs:List FV):Bool:=Region.noSelect ops&&Np ops ops.toList 0 ops.toList fs
def ap(cx:Cx)(ops:Array Oper)(l:List Oper)(fs:List FV)(st:St)(K:St->Prop):Prop:=
 match l with
 | []=>UJ ops fs.reverse=true/\K st
 |o::r=>match OB cx ops.toList o st with
  |some f=>H9 cx true ops.toList o st fun EB=>ap cx ops r (f::fs) EB K
  |none=>False
def UM(l:List (Nat×AV))(i:Nat):AV:=match l with | []=>.junk|(j,v)::r=>bif Nat.beq i j then v else UM r i
structure LS where
 t:List (Nat×AV)
 h:List (Nat×HO)
 hb:Nat->HO
def LS.st(s:LS):St:=⟨UM s.t,As s.h s.hb⟩
def TE(h:Nat->HO)(r:Nat):Bool:=match h r with | .free=>false|_=>true
def ids0(h:Nat->HO):AV->Bool
 |.slice (.id r _) _=>TE h r
 |.slice (.ver r _ _) _=>TE h r
 |.msl r _=>TE h r
 |.ref r _=>TE h r
 |.eref r _ _ _ _=>TE h r
 |.mref r=>TE h r
 |.agg _ |.tup _ |.clo ..=>false
 |_=>true
def bA(h:Nat->HO):List AV->Bool
 | []=>true
 |a::r=>match ids0 h a with |true=>bA h r |false=>false
def WP(h:Nat->HO):AV->Bool
 |.agg cs=>bA h cs
 |.tup cs=>bA h cs
 |.clo _ cs=>bA h cs
 |a=>ids0 h a
def SU(h:Nat->HO):List (Value×AV)->Bool
 | []=>true
 |p::r=>match WP h p.2 with |true=>SU h r |false=>false
def Zi(h:Nat->HO):List AV->Bool
 | []=>true
 |a::r=>match WP h a with |true=>Zi h r |false=>false
def TF(h:Nat->HO):HO->Bool
 |.cells cs=>Zi h cs
 |.mapU _ Ch=>SU h Ch
 |.hol _ _ _ _ a=>WP h a
 |_=>true
def leT(st:St)(h:Nat->HO):List (Nat×AV)->Prop
 | []=>True
 |(j,a)::r=>(st.t j=a/\WP h a=true)/\leT st h r
def leH(st:St)(h:Nat->HO):List (Nat×HO)->Prop
 | []=>True
 |(j,o)::r=>(st.h j=o/\TF h o=true)/\leH st h r
def St.le(st:St)(s:LS):Prop:=
 leT st s.st.h s.t/\leH st s.st.h s.h/\(∀j,s.hb j=.free\/(st.h j=s.hb j/\TF s.st.h (s.hb j)=true)) /\
 match cx.ext with
 |false=>True
 |true=>∀j,1000<=j->j<2000->st.h j≠.free->s.st.h j≠.free
def NU(ops:Array Oper)(dr:Bool)(st:St)(K:St->Prop):Prop:=
 match dr with
 |false=>WC cx ops.toList ops.toList st K
 |true=>ap cx ops ops.toList [] st K
inductive Ex|normal|exit (id:Nat)|ret
def azK(h:Nat->HO)(o k:Nat)(K:(Nat->HO)->Prop):Prop:=
 match h o with
 |.cells cs=>match Kg cs k with
  |.msl r n=>match h r with
   |.arr sz es=>n=es.length/\K (A3 (A3 h r (.tok sz es.length)) o (.cells (EZ cs k (.slice (.id r sz) es))))
   |_=>K h
  |_=>K h
 |_=>K h
def amK(h:Nat->HO)(o k j:Nat)(K:(Nat->HO)->Prop):Prop:=
 match h o with
 |.cells cs=>match Kg cs k with
  |.msl r n=>match h r with
   |.arr sz es=>match h j with
    |.free=>n=es.length/\K (A3 (A3 (A3 h r .dead) j (.arr sz es)) o (.cells (EZ cs k (.msl j n))))
    |_=>False
   |_=>False
  |_=>False
 |_=>False
def uvK(h:Nat->HO)(o k d:Nat)(K:(Nat->HO)->Prop):Prop:=
 match h o with
 |.cells cs=>match Kg cs k with
  |.slice (.ver r sz v) es=>match h r with
   |.var Hb v' _=>match h d with
    |.free=>(v=v'/\sz=Hb)/\K (A3 (A3 (A3 h r (.vox v)) d (.tok sz es.length)) o (.cells (EZ cs k (.slice (.id d sz) es))))
    |_=>False
   |_=>False
  |_=>K h
 |_=>False
def rvK(h:Nat->HO)(o k r:Nat)(K:(Nat->HO)->Prop):Prop:=
 match h o with
 |.cells cs=>match Kg cs k with
  |.slice (.id d sz) es=>match h d with
   |.tok Hb n=>match h r with
    |.vox v=>(es.length=n/\sz=Hb)/\K (A3 (A3 (A3 h d .dead) r (.var sz (v+1) n)) o (.cells (EZ cs k (.slice (.ver r sz (v+1)) es))))
    |_=>False
   |_=>False
  |_=>K h
 |_=>False
def nvK(h:Nat->HO)(r:Nat)(K:(Nat->HO)->Prop):Prop:=
 match h r with
 |.free=>K (A3 h r (.vox 0))
 |_=>False
def rmK(h:Nat->HO)(o k:Nat)(K:(Nat->HO)->Prop):Prop:=
 match h o with
 |.cells cs=>match Kg cs k with
  |.mref r=>match h r with
   |.rom sh Ch=>K (A3 h o (.cells (EZ cs k (.cmap sh Ch))))
   |_=>False
  |_=>False
 |_=>False
def zaK(h:Nat->HO)(o k j sz:Nat)(K:(Nat->HO)->Prop):Prop:=
 match h o with
 |.cells cs=>match Kg cs k with
  |.v (.slice none 0 0)=>match h j with
   |.free=>K (A3 (A3 h j (.arr sz [])) o (.cells (EZ cs k (.msl j 0))))
   |_=>False
  |_=>False
 |_=>False
def fz0(id:Nat)(h:Nat->HO)(K:(Nat->HO)->Prop):Prop:=
 match Hl cx.pl.ak (850000+id)with
 |some v=>K (mI h v)
 |none=>K h
def rm0(id:Nat)(h:Nat->HO)(K:(Nat->HO)->Prop):Prop:=
 match Hl cx.pl.ak (800000+id)with
 |some v=>rmK h (v % 10000) (v / 10000 % 100) K
 |none=>K h
def rm1(id:Nat)(h:Nat->HO)(K:(Nat->HO)->Prop):Prop:=
 match Hl cx.pl.ak (810000+id)with
 |some v=>rmK h (v % 10000) (v / 10000 % 100) K
 |none=>K h
def xP(id:Nat)(h:Nat->HO)(K:(Nat->HO)->Prop):Prop:=
 match Hl cx.pl.ak (900000+id)with
 |some v=>zaK h (v % 10000) (v / 10000 % 100) (v / 1000000 % 10000) (v / 10000000000) K
 |none=>K h
def hoK(h:Nat->HO)(r:Nat)(K:(Nat->HO)->Prop):Prop:=
 match h r with
 |.hol sz es i c (.msl j m)=>match Nat.beq r j with
  |true=>False
  |false=>match h j with
   |.arr iw qs=>m=qs.length/\∃cs,es[i]?=some cs/\c<sz/\K (A3 (A3 (A3 h j (.tok iw qs.length)) j .dead) r (.arr sz (es.set i (over cs c [.slice .none qs]))))
   |_=>False
 |_=>False
def wG(id:Nat)(h:Nat->HO)(K:(Nat->HO)->Prop):Prop:=
 match Hl cx.pl.ak (500000+id)with
 |some v=>uvK h (v % 10000) (v / 10000 % 100) (v / 1000000) K
 |none=>match Hl cx.pl.ak (600000+id)with
  |some v=>rvK h (v % 10000) (v / 10000 % 100) (v / 1000000) K
  |none=>match Hl cx.pl.ak (700000+id)with
   |some v=>nvK h v K
   |none=>match Hl cx.pl.ak (950000+id)with
    |some v=>hoK h v K
    |none=>fz0 cx id h fun h=>rm0 cx id h fun h=>rm1 cx id h fun h=>xP cx id h K
def asK(st:St)(s k:Nat)(K:St->Prop):Prop:=
 match st.t s with
 |.msl r n=>match st.h r with
  |.arr sz es=>match k with
   |0=>n=es.length/\K ⟨H5 st.t s (.slice .none es),A3 (A3 st.h r (.tok sz es.length)) r .dead⟩
   |k+1=>match Nat.beq r (k+1)with
    |true=>K st
    |false=>match st.h (k+1)with
     |.free=>n=es.length/\K ⟨H5 st.t s (.msl (k+1) n),A3 (A3 st.h r .dead) (k+1) (.arr sz es)⟩
     |_=>False
  |_=>K st
 |_=>K st
def yu(id:Nat)(st:St)(K:St->Prop):Prop:=
 match JO cx.pl.cut id with
 |true=>match Hl cx.pl.ak (100000+id)with
  |none=>match Hl cx.pl.ak (200000+id)with
   |none=>match Hl cx.pl.ak (300000+id)with
    |none=>wG cx id st.h fun h'=>∃s:LS,St.le cx ⟨st.t,h'⟩ s/\K s.st
    |some v=>amK st.h (v % 10000) (v / 10000 % 100) (v / 1000000) fun h'=>∃s:LS,St.le cx ⟨st.t,h'⟩ s/\K s.st
   |some v=>asK st (v % 1000) (v / 1000) fun EB=>∃s:LS,St.le cx EB s/\K s.st
  |some v=>azK st.h (v % 1000) (v / 1000) fun h'=>∃s:LS,St.le cx ⟨st.t,h'⟩ s/\K s.st
 |false=>K st
def Tw(cx:Cx)(c:Code)(Q:Ex->St->Prop)(st:St):Prop:=
 match c with
 |.skip=>Q .normal st
 |.label _=>Q .normal st
 |.region id ops dr=>yu cx id st fun st=>match cx.pl.dyn with
  | []=>NU cx ops dr st (Q .normal)
  |_=>∃n,NU { cx with nid:=n } ops dr st (Q .normal)
 |.seq a b=>Tw cx a (fun e EB=>match e with |.normal=>Tw cx b Q EB |e=>Q e EB) st
 |.cond c a b=>match ev st.t c with
  |.v (.bool true)=>Tw cx a Q st
  |.v (.bool false)=>Tw cx b Q st
  |_=>False
 |.block id c=>Tw cx c (fun e EB=>match e with |.exit j=>(bif Nat.beq j id then Q .normal EB else Q (.exit j) EB) |e=>Q e EB) st
 |.loop c=>∃(α:Type) (I:α->LS) (μ:α->Nat),(∃x,St.le cx st (I x)) /\
   ∀x,Tw cx c (fun e EB=>match e with | .normal=>∃y,μ y<μ x/\St.le cx EB (I y)|e=>Q e EB) (I x).st
 |.exit id=>Q (.exit id) st
 |.ret=>Q .ret st
 |_=>False
def Qh:List AV->Nat->AV
 | [],_=>.v undef
 |a::r,n=>match n with |0=>a |n+1=>Qh r n
def rS(T:Ha)(st:St):List ResultVar->(List AV->Prop)->Prop
 | [],K=>K []
 |.tmp i::r,K=>rS T st r fun l=>K (str st.h (st.t i)::l)
 |.cell a t::r,K=>Jb T st.h t (st.t a) fun v=>rS T st r fun l=>K (str st.h v::l)
def rQ(st:St)(rs:List ResultVar)(K:AV->Prop):Prop:=
 rS cx.T ⟨st.t,Qz st.h cx.pl.fin⟩ rs fun
  | [v]=>K v
  |vs=>K (.tup vs)
def uN(rs:List ResultVar)(K:AV->Prop)(e:Ex)(st:St):Prop:=
 match e with
 |.normal=>rQ cx st rs K
 |.ret=>rQ cx st rs K
 |.exit _=>False
def rT(T:Ha)(st:St):List ResultVar->(List AV->Prop)->Prop
 | [],K=>K []
 |.tmp i::r,K=>rT T st r fun l=>K (st.t i::l)
 |.cell a t::r,K=>Jb T st.h t (st.t a) fun v=>rT T st r fun l=>K (v::l)
def kl(st:St)(rs:List ResultVar)(σ:J6)(Q:AV->(Nat->HO)->Prop):Prop:=
 rT cx.T ⟨st.t,Qz st.h cx.pl.fin⟩ rs fun
  | [v]=>Q (ren (CI σ) (Qz st.h cx.pl.fin) v) (F1 σ (Qz st.h cx.pl.fin))
  |vs=>Q (ren (CI σ) (Qz st.h cx.pl.fin) (.tup vs)) (F1 σ (Qz st.h cx.pl.fin))
def aM(rs:List ResultVar)(σ:J6)(Q:AV->(Nat->HO)->Prop)(e:Ex)(st:St):Prop:=
 match e with
 |.normal=>kl cx st rs σ Q
 |.ret=>kl cx st rs σ Q
 |.exit _=>False
def Jw(σ:J6):List (Nat×HO)->Bool
 | []=>true
 |(i,_)::r=>Nat.ble 1000 i&&Nat.blt i 2000&&(match CI σ i with |some j=>Nat.beq j i |none=>false)&&Jw σ r
theorem yN{n m:Nat}{b:Prop}(k:b)(h:n <= m:=by exact GE rfl):n <= m/\b:=⟨h,k⟩
abbrev nzA:AV:=.v (.slice none 0 0)
abbrev pC(a c:List Nat):Tt:=⟨a,[],[],[],[],[],[],[],[],[],c⟩
abbrev pT(a:List Nat)(b:List (Nat×Nat))(c:List Nat):Tt:=⟨a,b,[],[],[],[],[],[],[],[],c⟩
end Go.Eng
