/- Lemmas for the claims of this seat, without a condition: part 5 (EngA). -/
import Derived.Test.YteaiieomnhbmgaaGreatDoorA00
import Derived.WalkKit
import Derived.Still
import Derived.RangeFuncSeq
import Derived.OrdersIn
import Derived.TacticsIn
namespace Go.Eng
variable {vs:Array Value}{E:TypeId}(op:BinOp)(f:Nat->Option Nat)(o:Oper)
theorem Wk{p:Prop}(h:p:=by kernel_rfl):p:=h
inductive Tk | none | full (sz:Nat) | id (r sz:Nat) | ver (r sz v:Nat)
inductive KS | int (k:IntKind) | str | bool
structure E2 where
 agg:Bool
 l:List KS
variable (sh:E2)
inductive AV
 |v (x:Value)
 |slice (tk:Tk) (es:List (List AV))
 |msl (r n:Nat)
 |agg (cs:List AV)
 |tup (vs:List AV)
 |cptr (cs:List AV)
 |ref (r off:Nat)
 |eref (r n sz i off:Nat)
 |mref (r:Nat)
 |cmap (sh:E2) (B7:List (Value×AV))
 |clo (f:Nat) (caps:List AV)
 |junk
variable (x:AV)(K:AV->Prop)
inductive HO
 |free
 |dead
 |cells (cs:List AV)
 |ro (cs:List AV)
 |tok (sz n:Nat)
 |var (sz v n:Nat)
 |vox (v:Nat)
 |arr (sz:Nat) (es:List (List AV))
 |map (sh:E2) (B7:List (Value×AV))
 |mapU (sh:E2) (B7:List (Value×AV))
 |rom (sh:E2) (B7:List (Value×AV))
 |iter (all rem:List (Value×AV)) (EC:Option (Value×AV))
 |raw (b:Nat) (ob:Obj)
 |hol (sz:Nat) (es:List (List AV)) (i c:Nat) (a:AV)
structure St where
 t:Nat->AV
 h:Nat->HO
def Af:Nat->HO:=fun _=>.free
def A0(h:Nat->HO)(r:Nat)(o:HO):Nat->HO:=fun i=>bif Nat.beq i r then o else h i
def HG(t:Nat->AV)(d:Nat)(v:AV):Nat->AV:=fun i=>bif Nat.beq i d then v else t i
def St.put(st:St)(d:Option Nat)(v:AV)(h:Nat->HO):St :=
 match d with
 |none=>⟨st.t,h⟩
 |some d=>⟨HG st.t d v,h⟩
def ev(t:Nat->AV):Operand->AV
 |.tmp i=>t i
 |.const v=>.v v
 |.global g=>.v (.pointer (some ⟨g,0,none⟩))
 |.func f=>.v (.func (.func f) #[] #[])
inductive TD
 |int (k:IntKind) |bool |string |slice (e:Nat) |array (n e:Nat) |struct (fs:List (Nat×Nat)) |ptr (e:Nat) |map (k e:Nat) |func |iface |other
structure TI where
 d:TD
 size:Nat
 bytes:Nat
 zero:Value
 eqok:Bool
def TI.zc(i:TI):List Value:=match i.zero with | .agg cs=>cs.toList | v=>[v]
abbrev GU:=Nat->TI
structure SB where
 frz:List Nat
 tok:List (Nat×Nat)
 arr:List (Nat×Nat)
 fz:List (Nat×List Nat)
 fin:List Nat
 mku:List Nat
 dyn:List Nat
 tz:List (Nat×(Nat×Nat×Nat×Nat))
 dc:List (Nat×Nat)
 ak:List (Nat×Nat)
 cut:List Nat
def Jk(l:List Nat)(n:Nat):Bool :=
 match l with
 | []=>false
 |x::r=>bif Nat.beq x n then true else Jk r n
def G6(l:List (Nat×Nat))(n:Nat):Option Nat :=
 match l with
 | []=>none
 |(x,y)::r=>bif Nat.beq x n then some y else G6 r n
def str0(h:Nat->HO):AV->AV
 |.slice _ es=>.slice .none es
 |.ref r off=>match h r with |.ro cs=>.cptr (cs.drop off) |_=>.junk
 |.mref r=>match h r with |.rom sh B7=>.cmap sh B7 |_=>.junk
 |.v x=>.v x
 |.cptr cs=>.cptr cs
 |.cmap s m=>.cmap s m
 |_=>.junk
def str(h:Nat->HO):AV->AV
 |.agg cs=>.agg (cs.map (str0 h))
 |.clo f cs=>.clo f (cs.map (str0 h))
 |a=>str0 h a
def SQ(h:Nat->HO)(B7:List (Value×AV)):List (Value×AV):=B7.map fun p=>(p.1,str h p.2)
def kZ(h:Nat->HO)(r:Nat):Nat->HO :=
 match h r with
 |.cells cs=>A0 h r (.ro (cs.map (str h)))
 |.map sh B7=>A0 h r (.rom sh B7)
 |.mapU sh B7=>A0 h r (.rom sh (SQ h B7))
 |_=>h
def PM(h:Nat->HO):List Nat->Nat->HO
 | []=>h
 |r::l=>PM (kZ h r) l
def sA(l:List (Nat×List Nat))(n:Nat):List Nat :=
 match l with
 | []=>[]
 |(x,y)::r=>bif Nat.beq x n then y else sA r n
def vV(l:List (Nat×(Nat×Nat×Nat×Nat)))(n:Nat):Option (Nat×Nat×Nat×Nat) :=
 match l with
 | []=>none
 |(x,y)::r=>bif Nat.beq x n then some y else vV r n
def JJ(l:List AV)(n:Nat):AV :=
 match l with
 | []=>.junk
 |x::r=>match n with |0=>x |n+1=>JJ r n
def EU(cs:List AV)(o:Nat)(v:AV):List AV :=
 match cs with
 | []=>[]
 |c::cs=>match o with |0=>v::cs |o+1=>c::EU cs o v
def tz1(h:Nat->HO)(r k j sz:Nat):Nat->HO :=
 match h r with
 |.cells cs=>match JJ cs k with
  |.v (.slice none 0 0)=>match h j with
   |.free=>A0 (A0 h j (.tok sz 0)) r (.cells (EU cs k (.slice (.id j sz) [])))
   |_=>h
  |_=>h
 |_=>h
def rsv(h:Nat->HO):AV->AV
 |.ref r off=>match h r with |.ro cs=>.cptr (cs.drop off) |_=>.ref r off
 |.mref r=>match h r with |.rom sh B7=>.cmap sh B7 |_=>.mref r
 |a=>a
def one:AV->Bool
 |.v x=>x.oneCell'
 |.agg _ |.tup _ |.junk=>false
 |_=>true
def G9:List AV->Bool
 | []=>true
 |a::r=>match one a with |true=>G9 r |false=>false
def zo:AV->List AV
 |.agg cs=>cs
 |a=>[a]
def A7(a:Int):Prop:=-9223372036854775808<=a/\a<9223372036854775808
def Ml(cs:List AV)(K:AV->Prop):Prop :=
 match cs with
 |a::_=>K a
 | []=>False
def Jr(p:Prop)(K:AV->Prop):Prop:=(p->K (.v (.bool true)))/\(¬p->K (.v (.bool false)))
def Mq(T:GU)(t:Nat)(cs:List AV)(K:AV->Prop):Prop :=
 match(T t).d with
 |.struct _=>(T t).size<=cs.length/\K (.agg (cs.take (T t).size))
 |.array _ _=>(T t).size<=cs.length/\K (.agg (cs.take (T t).size))
 |.bool=>Ml cs fun |.v (.bool b)=>(b=true->K (.v (.bool true)))/\(b=false->K (.v (.bool false))) |_=>False
 |.other=>False
 |_=>Ml cs K
def oa:List AV->List AV->Prop
 | [],[]=>True
 |.v (.int _ a)::r,.v (.int _ b)::s=>a=b/\oa r s
 |.v (.string a)::r,.v (.string b)::s=>a=b/\oa r s
 |.v (.bool a)::r,.v (.bool b)::s=>a=b/\oa r s
 |_,_=>False
def vM:IntKind->IntKind->Bool
 |.i64,.i64 |.u8,.u8 |.u32,.u32 |.i32,.i32 |.u64,.u64 |.u16,.u16 |.i16,.i16 |.i8,.i8=>true
 |_,_=>false
def Ou(f:Nat->Option (List KS)):Nat->List (Nat×Nat)->Option (List KS)
 |_,[]=>some []
 |n,(t,o)::r=>match Nat.beq o n with
  |true=>match f t with
   |some a=>match Ou f (n+a.length) r with
    |some b=>some (a++b)
    |none=>none
   |none=>none
  |false=>none
def Ie(T:GU):Nat->Nat->Option (List KS)
 |0,_=>none
 |n+1,t=>match(T t).d with
  |.int k=>match(T t).size with |1=>some [.int k] |_=>none
  |.string=>match(T t).size with |1=>some [.str] |_=>none
  |.bool=>match(T t).size with |1=>some [.bool] |_=>none
  |.struct fs=>match(T t).eqok with
   |true=>match Ou (Ie T n) 0 fs with
    |some l=>match Nat.beq l.length (T t).size with |true=>some l |false=>none
    |none=>none
   |false=>none
  |_=>none
def N4:KS->Value->Bool
 |.int k,.int k' _=>vM k k'
 |.str,.string _=>true
 |.bool,.bool _=>true
 |_,_=>false
def ah:List KS->List AV->Bool
 | [],[]=>true
 |k::r,.v x::s=>match N4 k x with |true=>ah r s |false=>false
 |_,_=>false
def vt(T:GU)(t:Nat)(x y:AV)(K:AV->Prop):Prop :=
 match(T t).d with
 |.bool=>match x,y with
  |.v (.bool a),.v (.bool b)=>K (.v (.bool (a == b)))
  |_,_=>False
 |.struct _=>match x,y with
  |.agg xs,.agg ys=>match Ie T 8 t with
   |some l=>match ah l xs with
    |true=>match ah l ys with
     |true=>Jr (oa xs ys) K
     |false=>False
    |false=>False
   |none=>False
  |_,_=>False
 |.slice _=>match x,y with
  |.slice _ es,.v (.slice none 0 0)=>(es≠[]->K (.v (.bool false)))/\(es=[]->K (.v (.bool true))/\K (.v (.bool false)))
  |.v (.slice none 0 0),.v (.slice none 0 0)=>K (.v (.bool true))
  |_,_=>False
 |.ptr _=>match x,y with
  |.v (.pointer none),.v (.pointer none)=>K (.v (.bool true))
  |.cptr _,.v (.pointer none)=>K (.v (.bool false))
  |.ref _ _,.v (.pointer none)=>K (.v (.bool false))
  |.eref _ _ _ _ _,.v (.pointer none)=>K (.v (.bool false))
  |_,_=>False
 |_=>False
def iM:AV->Prop
 |.v (.bool true)=>K (.v (.bool false))
 |.v (.bool false)=>K (.v (.bool true))
 |_=>False
def Jq(k:IntKind)(a b:Int):Int :=
 match op with
 |.and=>k.wrap (BitVec.ofInt k.bits a &&& BitVec.ofInt k.bits b).toNat
 |.or=>k.wrap (BitVec.ofInt k.bits a |||BitVec.ofInt k.bits b).toNat
 |_=>k.wrap (BitVec.ofInt k.bits a ^^^ BitVec.ofInt k.bits b).toNat
def Gx(k:IntKind)(a b:Int):Int :=
 match op with
 |.shl=>k.wrap (a*2 ^ min b.toNat k.bits)
 |_=>a.fdiv (2 ^ min b.toNat k.bits)
def Vh(k:IntKind)(a b:Int)(K:AV->Prop):Prop :=
 match op with
 |.shl=>0<=b/\K (.v (.int k (Gx .shl k a b)))
 |.shr=>0<=b/\K (.v (.int k (Gx .shr k a b)))
 |_=>False
def XO(k:IntKind)(a b:Int)(K:AV->Prop):Prop :=
 match op with
 |.quo=>(0<=a/\0<b/\k.wrap (a / b)=a / b)/\K (.v (.int k (a / b)))
 |.rem=>(0<=a/\0<b)/\K (.v (.int k (a % b)))
 |.and=>K (.v (.int k (Jq .and k a b)))
 |.or=>K (.v (.int k (Jq .or k a b)))
 |.xor=>K (.v (.int k (Jq .xor k a b)))
 |.add=>K (.v (.int k (k.wrap (a+b))))
 |.sub=>K (.v (.int k (k.wrap (a-b))))
 |.mul=>K (.v (.int k (k.wrap (a*b))))
 |op=>Vh op k a b K
def TL(k:IntKind)(a b:Int)(K:AV->Prop):Prop :=
 match k with
 |.i64=>match op with
  |.add=>A7 (a+b)/\K (.v (.int .i64 (a+b)))
  |.sub=>A7 (a-b)/\K (.v (.int .i64 (a-b)))
  |.mul=>A7 (a*b)/\K (.v (.int .i64 (a*b)))
  |.quo=>(0<=a/\0<b/\A7 a)/\K (.v (.int .i64 (a / b)))
  |.rem=>(0<=a/\0<b)/\K (.v (.int .i64 (a % b)))
  |op=>XO op .i64 a b K
 |k=>XO op k a b K
def TQ(T:GU)(op:BinOp)(t:Nat)(x y:AV)(K:AV->Prop):Prop :=
 match x,y with
 |.v (.int k a),.v (.int k' b)=>match vM k k' with
  |false=>Vh op k a b K
  |true=>match op with
   |.eql=>Jr (a=b) K
   |.neq=>Jr (a≠b) K
   |.lss=>Jr (a<b) K
   |.leq=>Jr (a<=b) K
   |.gtr=>Jr (b<a) K
   |.geq=>Jr (b<=a) K
   |op=>TL op k a b K
 |.v (.string a),.v (.string b)=>match op with
   |.eql=>Jr (a=b) K
   |.neq=>Jr (a≠b) K
   |.lss=>Jr (Op.bytesLess a.toList b.toList=true) K
   |.geq=>Jr (Op.bytesLess a.toList b.toList=false) K
   |.gtr=>Jr (Op.bytesLess b.toList a.toList=true) K
   |.leq=>Jr (Op.bytesLess b.toList a.toList=false) K
   |.add=>((a.size+b.size:Nat):Int)<=9223372036854775807/\K (.v (.string (a++b)))
   |_=>False
 |x,y=>match op with
  |.eql=>vt T t x y K
  |.neq=>vt T t x y (iM K)
  |_=>False
def Zf(T:GU)(op:BinOp)(t:Nat)(Y:Operand)(x y:AV)(K:AV->Prop):Prop :=
 match Y with
 |.const .nilIface=>match x with
  |.v .nilIface=>match(T t).d with
   |.iface=>match op with
    |.eql=>K (.v (.bool true))
    |.neq=>K (.v (.bool false))
    |_=>False
   |_=>False
  |_=>False
 |_=>TQ T op t x y K
def WB(T:GU)(s t:Nat)(x:AV)(K:AV->Prop):Prop :=
 match(T s).d,(T t).d,x with
 |.int _,.int .i64,.v (.int _ n)=>A7 n/\K (.v (.int .i64 n))
 |.int _,.int k,.v (.int _ n)=>K (.v (.int k (k.wrap n)))
 |.string,.string,.v (.string s)=>K (.v (.string s))
 |.slice e,.string,.slice _ es=>match(T e).d with
  |.int .u8=>∃l:List UInt8,es=l.map (fun b=>[AV.v (.int .u8 b.toNat)])/\K (.v (.string ⟨l.toArray⟩))
  |_=>False
 |_,_,_=>False
def Yc(fs:List (Nat×Nat))(n:Nat):Option (Nat×Nat) :=
 match fs with
 | []=>none
 |x::r=>match n with |0=>some x |n+1=>Yc r n
def Ua(T:GU)(s f:Nat)(x:AV)(K:AV->Prop):Prop :=
 match(T s).d with
 |.struct fs=>match Yc fs f with
  |some (t,o)=>match(T t).size with
   |0=>False
   |_+1=>match x with
    |.cptr cs=>K (.cptr (cs.drop o))
    |.ref r off=>K (.ref r (off+o))
    |.eref r n z i off=>K (.eref r n z i (off+o))
    |_=>False
  |none=>False
 |_=>False
def aN(T:GU)(t:Nat)(cs:List AV)(K:AV->Prop):Prop:=Mq T t cs K
def PA(T:GU)(s f:Nat)(x:AV)(K:AV->Prop):Prop :=
 match(T s).d,x with
 |.struct fs,.agg cs=>match Yc fs f with
  |some (t,o)=>aN T t (cs.drop o) K
  |none=>False
 |_,_=>False
def J8(T:GU)(t:Nat)(x ix:AV)(K:AV->Prop):Prop :=
 match(T t).d,ix with
 |.slice e,.v (.int .i64 i)=>match(T e).size with
  |0=>False
  |_+1=>match x with
   |.slice _ es=>∃cs,(0<=i/\es[i.toNat]?=some cs)/\cs.length=(T e).size/\K (.cptr cs)
   |.msl r n=>(0<=i/\i<n)/\K (.eref r n (T e).size i.toNat 0)
   |_=>False
 |.array n e,.v (.int .i64 i)=>match(T e).size with
  |0=>False
  |_+1=>match x with
   |.cptr cs=>(0<=i/\i<n)/\K (.cptr (cs.drop (i.toNat*(T e).size)))
   |.ref r off=>(0<=i/\i<n)/\K (.ref r (off+i.toNat*(T e).size))
   |_=>False
 |_,_=>False
def Uz(T:GU)(t:Nat)(x ix:AV)(K:AV->Prop):Prop :=
 match(T t).d,x,ix with
 |.string,.v (.string s),.v (.int .i64 i)=>∃b:UInt8,(0<=i/\s.data[i.toNat]?=some b)/\K (.v (.int .u8 b.toNat))
 |.array n e,.agg cs,.v (.int .i64 i)=>(0<=i/\i<n)/\aN T e (cs.drop (i.toNat*(T e).size)) K
 |_,_,_=>False
def Ci(t:Nat->AV):Option Operand->Option (Option Int)
 |none=>some none
 |some x=>match ev t x with |.v (.int .i64 i)=>some (some i) |_=>none
def over{α:Type}(cs:List α)(o:Nat)(vs:List α):List α :=
 match cs with
 | []=>[]
 |c::cs=>match o with
  |o+1=>c::over cs o vs
  |0=>match vs with
   | []=>c::cs
   |v::vs=>v::over cs 0 vs
structure Gh where
 ρ:Nat->Value
 ln:Nat->Nat
 tk:Nat->Bool
 own:Nat->Option Nat
 S:Nat->Nat->Prop
def JM:List KS->List Value->Bool
 | [],[]=>true
 |k::r,v::s=>match N4 k v with |true=>JM r s |false=>false
 |_,_=>false
def Xj(v:Value):Bool :=
 match sh.agg,v with
 |true,.agg cs=>JM sh.l cs.toList
 |false,v=>JM sh.l [v]
 |_,_=>false
def HJ(es:Array MapEntry)(ck:Nat)(B7:List (Value×AV)):Prop :=
 es.size=B7.length/\(∀(i:Nat) (kv:Value×AV) (e:MapEntry),B7[i]?=some kv->es[i]?=some e->e.key=kv.1) /\
 (∀kv∈B7,Xj sh kv.1=true)/\(B7.map (·.1)).Nodup/\(∀(i:Nat) (e:MapEntry),es[i]?=some e->e.born<ck) /\
 ∀(i j:Nat) (e e' : MapEntry),es[i]?=some e->es[j]?=some e'->e.born=e'.born->i=j
inductive BM(g:Gh)(w:World):(Nat->Prop)->AV->Value->Prop
 |v (U:Nat->Prop) (x:Value):BM g w U (.v x) x
 |junk (U:Nat->Prop) (x:Value):BM g w U .junk x
 |snil (U:Nat->Prop) (a:Option Addr) (cap:Nat):BM g w U (.slice .none []) (.slice a 0 cap)
 |slice (U:Nat->Prop) (es:List (List AV)) (b off sz cap:Nat) (val:Nat->Nat->Value) (hc:es.length<=cap)
   (hl:∀(i:Nat) (cs:List AV),es[i]?=some cs->cs.length=sz)
   (DN:∀(i:Nat) (cs:List AV) (j:Nat) (av:AV),es[i]?=some cs->cs[j]?=some av ->
    g.S b (off+i*sz+j)/\w.cell? ⟨b,off+i*sz+j,none⟩=some (val i j)/\(val i j).oneCell'=true)
   (Es:∀(i:Nat) (cs:List AV) (j:Nat) (av:AV),es[i]?=some cs->cs[j]?=some av->BM g w (fun _=>False) av (val i j)) :
   BM g w U (.slice .none es) (.slice (some ⟨b,off,none⟩) es.length cap)
 |tok (U:Nat->Prop) (r sz:Nat) (es:List (List AV)) (x:Value) (h:BM g w U (.slice .none es) x) (hl:∀c∈es,c.length=sz) (hu:U r) (ht:g.tk r=true) (hn:es.length<=g.ln r)
   (hx:es.length=g.ln r->x=g.ρ r):BM g w U (.slice (.id r sz) es) x
 |ver (U:Nat->Prop) (r sz v:Nat) (es:List (List AV)) (x:Value) (h:BM g w U (.slice .none es) x) (hl:∀c∈es,c.length=sz) (hu:U r) (ht:g.tk r=true) (hn:v<=g.ln r)
   (hx:v=g.ln r->x=g.ρ r):BM g w U (.slice (.ver r sz v) es) x
 |full (U:Nat->Prop) (sz:Nat) (es:List (List AV)) (x:Value) (h:BM g w U (.slice .none es) x) (hl:∀c∈es,c.length=sz) (hx:∃a,x=.slice a es.length es.length):BM g w U (.slice (.full sz) es) x
 |msl (U:Nat->Prop) (r n:Nat) (a:Option Addr) (cap:Nat) (hu:U r) (ht:g.tk r=true) (hn:n<=g.ln r) (ha:n=0\/∃b,a=some ⟨b,0,none⟩) (hx:n=g.ln r->.slice a n cap=g.ρ r) :
   BM g w U (.msl r n) (.slice a n cap)
 |agg (U:Nat->Prop) (cs:List AV) (vs:Array Value) (hs:vs.size=cs.length) (h1:∀(i:Nat) (x:Value),vs[i]?=some x->x.oneCell'=true)
   (h:∀(i:Nat) (av:AV) (x:Value),cs[i]?=some av->vs[i]?=some x->BM g w U av x):BM g w U (.agg cs) (.agg vs)
 |tup (U:Nat->Prop) (cs:List AV) (vs:Array Value) (hs:vs.size=cs.length)
   (h:∀(i:Nat) (av:AV) (x:Value),cs[i]?=some av->vs[i]?=some x->BM g w U av x):BM g w U (.tup cs) (.tuple vs)
 |cptr (U:Nat->Prop) (cs:List AV) (b off:Nat) (val:Nat->Value)
   (DN:∀(j:Nat) (av:AV),cs[j]?=some av->g.S b (off+j)/\w.cell? ⟨b,off+j,none⟩=some (val j)/\(val j).oneCell'=true)
   (Es:∀(j:Nat) (av:AV),cs[j]?=some av->BM g w (fun _=>False) av (val j)) :
   BM g w U (.cptr cs) (.pointer (some ⟨b,off,none⟩))
 |ref (U:Nat->Prop) (r off b:Nat) (hu:U r) (ht:g.tk r=false) (hx:g.ρ r=.pointer (some ⟨b,0,none⟩)):BM g w U (.ref r off) (.pointer (some ⟨b,off,none⟩))
 |eref (U:Nat->Prop) (r n sz i off b cap:Nat) (hu:U r) (ht:g.tk r=true) (hn:i<n/\n<=g.ln r) (hx:n=g.ln r->g.ρ r=.slice (some ⟨b,0,none⟩) n cap) :
   BM g w U (.eref r n sz i off) (.pointer (some ⟨b,i*sz+off,none⟩))
 |mref (U:Nat->Prop) (r b:Nat) (hu:U r) (ht:g.tk r=false) (hx:g.ρ r=.map (some b)):BM g w U (.mref r) (.map (some b))
 |cmap (U:Nat->Prop) (sh:E2) (B7:List (Value×AV)) (b:Nat) (es:Array MapEntry) (ck:Nat) (hS:g.S b 0) (hb:w.heap[b]?=some (.map es ck)) (hm:HJ sh es ck B7)
   (h:∀(i:Nat) (kv:Value×AV) (e:MapEntry),B7[i]?=some kv->es[i]?=some e->BM g w (fun _=>False) kv.2 e.val):BM g w U (.cmap sh B7) (.map (some b))
 |clo (U:Nat->Prop) (f:Nat) (cs:List AV) (vs:Array Value) (hs:vs.size=cs.length)
   (h:∀(i:Nat) (av:AV) (x:Value),cs[i]?=some av->vs[i]?=some x->BM g w U av x):BM g w U (.clo f cs) (.func (.func f) #[] vs)
def HO.live:HO->Prop
 |.free |.dead |.vox _ |.ro _ |.rom _ _=>False
 |_=>True
def AQ(h:Nat->HO)(r:Nat):Prop:=h r≠.free
def Fw:Nat->Prop:=fun _=>False
def CO(g:Gh)(w:World)(U:Nat->Prop)(cs:List AV)(vs:List Value):Prop :=
 vs.length=cs.length/\(∀x∈vs,x.oneCell'=true)/\∀(i:Nat) (av:AV) (x:Value),cs[i]?=some av->vs[i]?=some x->BM g w U av x
def Pg:List Nat->Code->Bool
 |bs,.block id c=>Pg (id::bs) c
 |bs,.seq a b=>Pg bs a||Pg bs b
 |bs,.cond _ a b=>Pg bs a||Pg bs b
 |bs,.loop c=>Pg bs c
 |bs,.exit id=>!(bs.any fun i=>Nat.beq i id)
 |_,_=>false
def wd:Obj->Bool
 |.loop r=>Pg [] r.body
 |_=>false
def RK(w:World)(b:Nat)(vs:Array Value)(E:TypeId):Prop:=∃f:Nat×Nat,w.heap[b]?=some (.cells vs E f)/\(f=(0,0)\/vs.size<=f.1)
theorem RK.eq{w w' : World}{b:Nat}(h:RK w b vs E)(e:w'.heap[b]?=w.heap[b]?):RK w' b vs E:=by
 obtain⟨f,h1,h2⟩:=h;exact⟨f,e.trans h1,h2⟩
theorem RK.of{w:World}{b:Nat}(h:w.heap[b]?=some (.cells vs E (0,0))):RK w b vs E:=⟨_,h,.inl rfl⟩
def Ep(g:Gh)(w:World)(U:Nat->Prop)(r:Nat):HO->Prop
  |.free |.dead=>True
  |.cells cs=>g.tk r=false/\∃b E vs,g.own r=some b/\g.ρ r=.pointer (some ⟨b,0,none⟩)/\w.heap[b]?=some (.cells vs E (0,0))/\CO g w U cs vs.toList/\∀o,¬g.S b o
  |.ro cs=>g.tk r=false/\∃b,g.ρ r=.pointer (some ⟨b,0,none⟩)/\BM g w Fw (.cptr cs) (.pointer (some ⟨b,0,none⟩))
  |.tok sz n=>g.tk r=true/\g.ln r=n/\∃a cap,g.ρ r=.slice a n cap/\(n=cap/\g.own r=none \/
      n<=cap/\∃b E vs off,a=some ⟨b,off,none⟩/\g.own r=some b/\RK w b vs E/\vs.size=off+cap*sz/\∀o,g.S b o->o<off+n*sz)
  |.var sz v n=>g.tk r=true/\g.ln r=v/\∃a cap,g.ρ r=.slice a n cap/\(n=cap/\g.own r=none \/
      n<=cap/\∃b E vs off,a=some ⟨b,off,none⟩/\g.own r=some b/\RK w b vs E/\vs.size=off+cap*sz/\∀o,g.S b o->o<off+n*sz)
  |.vox v=>g.tk r=true/\g.ln r=v
  |.arr sz es=>g.tk r=true/\g.ln r=es.length/\(∀cs∈es,cs.length=sz)/\(es=[]/\g.ρ r=.slice none 0 0/\g.own r=none \/
      ∃b cap E vs,g.ρ r=.slice (some ⟨b,0,none⟩) es.length cap/\g.own r=some b/\es.length<=cap/\w.heap[b]?=some (.cells vs E (0,0))/\vs.size=cap*sz /\
        CO g w Fw es.flatten (vs.toList.take (es.length*sz))/\∀o,¬g.S b o)
  |.map sh B7=>g.tk r=false/\∃b es ck,g.own r=some b/\g.ρ r=.map (some b)/\w.heap[b]?=some (.map es ck)/\HJ sh es ck B7 /\
      (∀(i:Nat) (kv:Value×AV) (e:MapEntry),B7[i]?=some kv->es[i]?=some e->BM g w Fw kv.2 e.val)/\∀o,¬g.S b o
  |.mapU sh B7=>g.tk r=false/\∃b es ck,g.own r=some b/\g.ρ r=.map (some b)/\w.heap[b]?=some (.map es ck)/\HJ sh es ck B7 /\
      (∀(i:Nat) (kv:Value×AV) (e:MapEntry),B7[i]?=some kv->es[i]?=some e->BM g w U kv.2 e.val)/\∀o,¬g.S b o
  |.rom sh B7=>g.tk r=false/\∃b,g.ρ r=.map (some b)/\BM g w Fw (.cmap sh B7) (.map (some b))
  |.iter all rem EC=>g.tk r=false/\∃b mb KL seen st es ck,g.own r=some b/\g.ρ r=.pointer (some ⟨b,0,none⟩)/\w.heap[b]?=some (.mapIter (some mb) KL seen st) /\
      g.S mb 0/\w.heap[mb]?=some (.map es ck)/\(∃sh,HJ sh es ck all)/\KL=ck/\st=ck /\
      (∀(i:Nat) (kv:Value×AV) (e:MapEntry),all[i]?=some kv->es[i]?=some e->BM g w Fw kv.2 e.val) /\
      (rem.Nodup/\∀kv∈rem,kv∈all)/\(∀(i:Nat) (kv:Value×AV) (e:MapEntry),all[i]?=some kv->es[i]?=some e->(kv∈rem↔e.born∉seen)) /\
      (match EC with | none=>True | some kv=>∃(i:Nat) (e:MapEntry),all[i]?=some kv/\es[i]?=some e/\seen.back?=some e.born)/\∀o,¬g.S b o
  |.hol sz es i c a=>g.tk r=true/\g.ln r=es.length/\(∀cs∈es,cs.length=sz)/\∃b cap E vs,g.ρ r=.slice (some ⟨b,0,none⟩) es.length cap/\g.own r=some b/\es.length<=cap/\w.heap[b]?=some (.cells vs E (0,0))/\vs.size=cap*sz /\
        CO g w Fw es.flatten (vs.toList.take (es.length*sz))/\(∀o,¬g.S b o)/\i*sz+c<es.length*sz/\∃x,vs[i*sz+c]?=some x/\BM g w U a x
  |.raw b ob=>g.tk r=false/\g.own r=some b/\w.heap[b]?=some ob/\wd ob=true/\∀o,¬g.S b o
def gB:Nat:=0
def lc:List (Nat×Nat×Option Value):=(1,20,none)::(List.range 20).map fun i=>(1,i,some (.int .u64 ((10 ^ i:Nat):Int)))
def XD(g:Gh)(w:World):Prop:=(g.S gB 0/\∃m,w.cell? ⟨gB,0,none⟩=some (.int .i64 m))/\∀x∈lc,g.S x.1 x.2.1/\w.cell? ⟨x.1,x.2.1,none⟩=x.2.2
structure DX(w0:World)(g0:Gh)(h0:Nat->HO)(h:Nat->HO)(g:Gh)(w:World):Prop where
 os:w.os=w0.os
 tape:w.tape=w0.tape
 output:w.output=w0.output
 size:w0.heap.size<=w.heap.size
 frame:∀b,b<w0.heap.size->(∀r,(h0 r).live->g0.own r≠some b)->w.heap[b]?=w0.heap[b]?
 slt:∀b o,g.S b o->b<w.heap.size
 objs:∀r,Ep g w (AQ h) r (h r)
 inj:∀r r' b,(h r).live->(h r').live->g.own r=some b->g.own r'=some b->r=r'
 loc:∀r b,(h r).live->g.own r=some b->b<w.heap.size/\(w0.heap.size<=b\/∃r',(h0 r').live/\g0.own r'=some b)
 sg:∀b o,g.S b o->g0.S b o\/w0.heap.size<=b\/∃r',(h0 r').live/\g0.own r'=some b
 glob:XD g w
def EH(g:Gh)(w:World)(g' : Gh)(w' : World):Prop :=
 ∀b o,g.S b o->g'.S b o/\w'.cell? ⟨b,o,none⟩=w.cell? ⟨b,o,none⟩/\∀es ck,w.heap[b]?=some (.map es ck)->w'.heap[b]?=some (.map es ck)
def KN(g g' : Gh)(U:Nat->Prop):Prop :=
 ∀i,U i->g'.tk i=g.tk i/\g.ln i<=g'.ln i/\(g.tk i=false->g'.ρ i=g.ρ i)/\(g'.ln i=g.ln i->g'.ρ i=g.ρ i)
structure Le(h:Nat->HO)(g:Gh)(w:World)(h' : Nat->HO)(g' : Gh)(w' : World):Prop where
 gh:KN g g' (AQ h)
 us:∀i,AQ h i->AQ h' i
 keeps:EH g w g' w'
def FQ (P : Program) (f : Nat) : Prop := ∃ fn, P.funcs[f]? = some fn /\ (fn.name == "runtime.NumGoroutine") = false /\ fn.body.isNone = false
def A9(P:Program)(f:Nat)(args:List AV)(h0:Nat->HO)(Q:AV->(Nat->HO)->Prop):Prop :=
 FQ P f/\∀(g:Gh) (w:World) (vals:Array Value),vals.size=args.length->(∀(i:Nat) (av:AV) (x:Value),args[i]?=some av->vals[i]?=some x->BM g w (AQ h0) av x) ->
  DX w g h0 h0 g w ->
  Calls P f vals w fun e w'=>∃v r h' g',e=.returned v/\Q r h'/\BM g' w' (AQ h') r v/\DX w g h0 h' g' w'/\Le h0 g w h' g' w'
def IY(P:Program)(f:Nat)(args:List AV)(res:AV):Prop:=A9 P f args Af fun r h'=>r=res/\h'=Af
def Jp(P:Program)(Y:Gh->World->Prop)(l:Nat)(args:List AV)(h0:Nat->HO)(Q:AV->(Nat->HO)->Prop):Prop :=
 ∀(g:Gh) (w:World) (vals:Array Value),vals.size=args.length->(∀(i:Nat) (av:AV) (x:Value),args[i]?=some av->vals[i]?=some x->BM g w (AQ h0) av x) ->
  DX w g h0 h0 g w->Y g w ->
  YieldAt Fence.wide 0 P l vals w fun e w'=>∃v r h' g',e=.returned v/\Q r h'/\BM g' w' (AQ h') r v/\DX w g h0 h' g' w'/\Le h0 g w h' g' w'
def r9(P:Program)(Y:Gh->World->Prop)(f:Nat)(args:List AV)(h0:Nat->HO)(Q:AV->(Nat->HO)->Prop):Prop :=
 FQ P f/\∀(g:Gh) (w:World) (vals:Array Value),vals.size=args.length->(∀(i:Nat) (av:AV) (x:Value),args[i]?=some av->vals[i]?=some x->BM g w (AQ h0) av x) ->
  DX w g h0 h0 g w->Y g w ->
  Calls P f vals w fun e w'=>∃v r h' g',e=.returned v/\Q r h'/\BM g' w' (AQ h') r v/\DX w g h0 h' g' w'/\Le h0 g w h' g' w'
def Gs(P:Program)(Y:Nat->Gh->World->Prop)(F:AV)(args:List AV)(h:Nat->HO)(Q:AV->(Nat->HO)->Prop):Prop :=
 match F with
 |.v (.func (.func f) ⟨[]⟩ ⟨[]⟩)=>A9 P f args h Q
 |.clo f caps=>A9 P f (args++caps) h Q
 |.v (.func (.yield l) ⟨[]⟩ ⟨[]⟩)=>Jp P (Y l) l args h Q
 |_=>False
def QD(P:Program)(F:AV)(args:List AV)(res:AV):Prop :=
 match F with
 |.v (.func (.func f) ⟨[]⟩ ⟨[]⟩)=>IY P f args res
 |.clo f caps=>IY P f (args++caps) res
 |_=>False
structure Cx where
 P:Program
 T:GU
 pl:SB
 ext:Bool
 nid:Nat
 yp:Nat->List (Nat×Nat)->Gh->World->Prop
variable (cx:Cx)
def Ks(d:Nat):Nat:=bif Jk cx.pl.dyn d then cx.nid else d
abbrev HK:=AV->(Nat->HO)->Prop
def TJ(T:GU)(d:Option Nat)(h:Nat->HO)(e:Nat)(K:HK):Prop :=
 match d with
 |none=>False
 |some d=>match h d with
  |.free=>match(T e).d with
   |.other=>False
   |_=>match G9 ((T e).zc.map .v)with
    |true=>K (.ref d 0) (A0 h d (.cells ((T e).zc.map .v)))
    |false=>False
  |_=>False
def HA(n:Nat)(a:AV)(K:List AV->Prop):Prop :=
 match a with
 |.agg cs=>match Nat.beq cs.length n with
  |true=>K cs
  |false=>False
 |a=>match one a with
  |true=>match n with
   |1=>K [a]
   |_=>False
  |false=>False
def gA(d:Option Nat)(h:Nat->HO)(e:Nat)(x:AV)(K:HK):Prop :=
 match d with
 |none=>False
 |some d=>match h d with
  |.free=>match(cx.T e).d with
   |.other=>False
   |_=>HA (cx.T e).size x fun cs=>match Jk cx.pl.frz d with
    |true=>K (.ref d 0) (A0 h d (.ro (cs.map (str h))))
    |false=>K (.ref d 0) (A0 h d (.cells cs))
  |_=>False
def OO(h:Nat->HO)(t:Nat)(p x:AV)(K:HK):Prop :=
 match(cx.T t).d with
 |.other=>False
 |_=>HA (cx.T t).size x fun vs=>match p with
  |.ref r off=>match h r with
   |.cells cs=>off+vs.length<=cs.length/\(match Jk cx.pl.frz r with
    |true=>K (.v undef) (A0 h r (.ro ((over cs off vs).map (str h))))
    |false=>K (.v undef) (A0 h r (.cells (over cs off vs))))
   |_=>False
  |.eref r n sz i off=>match h r with
   |.arr GV es=>match Nat.beq sz GV with
    |true=>n=es.length/\∃cs,es[i]?=some cs/\off+vs.length<=sz/\(match vs with
     | [.msl j m]=>K (.v undef) (A0 h r (.hol sz (es.set i (over cs off [.junk])) i off (.msl j m)))
     |_=>K (.v undef) (A0 h r (.arr sz (es.set i (over cs off (vs.map (str h)))))))
    |false=>False
   |_=>False
  |_=>False
def IK(T:GU)(h:Nat->HO)(t:Nat)(p:AV)(K:AV->Prop):Prop :=
 match p with
 |.cptr cs=>Mq T t cs K
 |.ref r off=>match h r with
  |.cells cs=>Mq T t (cs.drop off) K
  |.ro cs=>Mq T t (cs.drop off) K
  |_=>False
 |.eref r n sz i off=>match h r with
  |.arr GV es=>match Nat.beq sz GV with
   |true=>n=es.length/\∃cs,es[i]?=some cs/\Mq T t (cs.drop off) K
   |false=>False
  |.hol GV es i' c a=>match Nat.beq sz GV with
   |true=>(n=es.length/\i=i'/\off=c)/\Mq T t [a] K
   |false=>False
  |_=>False
 |_=>False
def Lp(pl:Nat->Option (Nat×Nat))(cs:List AV)(t:Nat->AV)(ps:List (Nat×Operand))(K:List AV->Prop):Prop :=
 match ps with
 | []=>K cs
 |(i,x)::r=>match pl i with
  |none=>False
  |some (o,n)=>HA n (ev t x) fun vs=>match Nat.ble (o+n) cs.length with
   |true=>Lp pl (over cs o vs) t r K
   |false=>False
def Pb(T:GU):List (Nat×Nat)->Bool
 | []=>true
 |(t,_)::r=>match(T t).size with |0=>false |_+1=>Pb T r
def QI(T:GU)(ty:Nat)(t:Nat->AV)(ps:List (Nat×Operand))(K:AV->Prop):Prop :=
 match G9 ((T ty).zc.map .v)with
 |false=>False
 |true=>match(T ty).d with
  |.struct fs=>match Pb T fs with
   |false=>False
   |true=>Lp (fun i=>match Yc fs i with |some (t,o)=>some (o,(T t).size) |none=>none) ((T ty).zc.map .v) t ps fun cs=>K (.agg cs)
  |.array _ e=>match(T e).size with
   |0=>False
   |_+1=>Lp (fun i=>some (i*(T e).size,(T e).size)) ((T ty).zc.map .v) t ps fun cs=>K (.agg cs)
  |_=>False
def RR(n sz:Nat)(h:Nat->HO)(es:List (List AV))(t:Nat->AV)(ps:List (Nat×Operand))(K:List (List AV)->Prop):Prop :=
 match ps with
 | []=>K es
 |(i,x)::r=>match Nat.blt i n with
  |true=>HA sz (ev t x) fun vs=>RR n sz h (es.set i (vs.map (str h))) t r K
  |false=>False
abbrev LK(b:ByteArray):List (List AV):=b.data.toList.map fun c=>[AV.v (.int .u8 c.toNat)]
def bZ(d:Option Nat)(h:Nat->HO)(s t:Nat)(x:AV)(K:HK):Prop :=
 match(cx.T s).d,(cx.T t).d,x with
 |.string,.slice e,.v (.string b)=>match(cx.T e).d,d with
  |.int .u8,some d=>match h (Ks cx d)with
   |.free=>K (.slice (.id (Ks cx d) 1) (LK b)) (A0 h (Ks cx d) (.tok 1 (LK b).length))
   |_=>False
  |_,_=>False
 |_,_,_=>WB cx.T s t x fun v=>K v h
def ET(d:Option Nat)(h:Nat->HO)(sz:Nat)(es:List (List AV))(K:HK):Prop :=
 match d with
 |none=>False
 |some d=>match h (Ks cx d)with
  |.free=>match G6 cx.pl.arr d with
   |some _=>K (.msl (Ks cx d) es.length) (A0 h (Ks cx d) (.arr sz es))
   |none=>K (.slice (.id (Ks cx d) sz) es) (A0 h (Ks cx d) (.tok sz es.length))
  |_=>False
def I1(d:Option Nat)(h:Nat->HO)(ty n:Nat)(t:Nat->AV)(ps:List (Nat×Operand))(K:HK):Prop :=
 match(cx.T ty).d with
 |.slice e=>match G9 ((cx.T e).zc.map .v),Nat.beq (cx.T e).zc.length (cx.T e).size with
  |true,true=>match(cx.T e).size with
   |0=>False
   |_+1=>match Nat.ble (n*(cx.T e).size) 16777216 with
    |true=>RR n (cx.T e).size h (List.replicate n ((cx.T e).zc.map .v)) t ps fun es=>ET cx d h (cx.T e).size es K
    |false=>False
  |_,_=>False
 |_=>False
def Ls(t:Nat->AV)(h:Nat->HO)(fn:Fn)(first captured:List Operand)(K:AV->Prop):Prop :=
 match fn,first with
 |.func f,[]=>K (.clo f (captured.map fun x=>rsv h (ev t x)))
 |_,_=>False
def Cn(sz:Nat):List (List AV)->Prop
 | []=>True
 |c::r=>c.length=sz/\Cn sz r
def LX(h:Nat->HO)(x:AV)(K:List (List AV)->Prop):Prop :=
 match x with
 |.slice _ es=>K es
 |.v (.slice none 0 0)=>K []
 |.msl r n=>match h r with
  |.arr _ es=>n=es.length/\K es
  |_=>False
 |_=>False
def IR(d:Option Nat)(h:Nat->HO)(ty:Nat)(s x:AV)(K:HK):Prop :=
 match(cx.T ty).d with
 |.slice e=>match Nat.beq (cx.T e).zc.length (cx.T e).size with
  |false=>False
  |true=>match(cx.T e).size with
   |0=>False
   |_+1=>LX h x fun es2=>match s with
    |.v (.slice none 0 0)=>(Cn (cx.T e).size es2/\es2.length*(cx.T e).bytes<=140737488355328/\es2.length<=9223372036854775807)/\ET cx d h (cx.T e).size es2 K
    |.slice (.full GV) es=>match Nat.beq GV (cx.T e).size with
     |true=>(Cn (cx.T e).size es2/\0<es2.length/\(es.length+es2.length)*(cx.T e).bytes<=140737488355328/\es.length+es2.length<=9223372036854775807)/\ET cx d h (cx.T e).size (es++es2) K
     |false=>False
    |.slice (.id r GV) es=>match h r with
     |.tok sz n=>match Nat.beq sz (cx.T e).size,Nat.beq GV sz with
      |true,true=>(Cn sz es2/\es.length=n/\(es.length+es2.length)*(cx.T e).bytes<=140737488355328/\es.length+es2.length<=9223372036854775807) /\
        K (.slice (.id r sz) (es++es2)) (A0 h r (.tok sz (es.length+es2.length)))
      |_,_=>False
     |_=>False
    |.msl r n=>match h r with
     |.arr sz es=>match Nat.beq sz (cx.T e).size with
      |true=>(Cn sz es2/\es.length=n/\(es.length+es2.length)*(cx.T e).bytes<=140737488355328/\es.length+es2.length<=9223372036854775807) /\
        K (.msl r (es.length+es2.length)) (A0 h r (.arr sz (es++es2)))
      |false=>False
     |_=>False
    |_=>False
 |_=>False
abbrev JA:=List (Nat×Nat)
variable (σ:JA)
inductive vP | pure | rel | gen (σ:JA) (nn:Nat) | geny (σ:JA) (nn:Nat)
def CC(σ:JA)(n:Nat):Option Nat :=
 match σ with
 | []=>none
 |(i,j)::r=>bif Nat.beq i n then some j else CC r n
def Ip(σ:JA)(n:Nat):Option Nat :=
 match σ with
 | []=>none
 |(i,j)::r=>bif Nat.beq j n then some i else Ip r n
def ED:JA->Bool
 | []=>true
 |(i,j)::r=>(match CC r i,Ip r j with |none,none=>true |_,_=>false)&&Nat.ble 1000 j&&Nat.blt j 2000&&ED r
def Hd:JA->Bool
 | []=>true
 |(i,j)::r=>(match CC r i,Ip r j with |none,none=>true |_,_=>false)&&Hd r
def ren0(h:Nat->HO):AV->AV
 |.slice (.id r sz) es=>match f r with |some r'=>.slice (.id r' sz) es |none=>.slice .none es
 |.slice (.ver r sz v) es=>match f r with |some r'=>.slice (.ver r' sz v) es |none=>.slice .none es
 |.msl r n=>match f r with |some r'=>.msl r' n |none=>.junk
 |.ref r off=>match f r with |some r'=>.ref r' off |none=>str0 h (.ref r off)
 |.eref r n sz i off=>match f r with |some r'=>.eref r' n sz i off |none=>.junk
 |.mref r=>match f r with |some r'=>.mref r' |none=>str0 h (.mref r)
 |a=>str0 h a
def ren1(h:Nat->HO):AV->AV
 |.agg cs=>.agg (cs.map (ren0 f h))
 |.clo g cs=>.clo g (cs.map (ren0 f h))
 |a=>ren0 f h a
def ren(h:Nat->HO):AV->AV
 |.tup cs=>.tup (cs.map (ren1 f h))
 |a=>ren1 f h a
def HO.ren(h:Nat->HO):HO->HO
 |.cells cs=>.cells (cs.map (ren1 f h))
 |.mapU sh B7=>.mapU sh (B7.map fun p=>(p.1,ren1 f h p.2))
 |.hol sz es i c a=>.hol sz es i c (ren1 f h a)
 |o=>o
def Ao(l:List (Nat×HO))(hb:Nat->HO)(i:Nat):HO:=match l with | []=>hb i | (j,v)::r=>bif Nat.beq i j then v else Ao r hb i
def YF(f:Nat->Option Nat)(h:Nat->HO):JA->List (Nat×HO)
 | []=>[]
 |(i,j)::r=>(j,(h i).ren f h)::YF f h r
def FO(h:Nat->HO):Nat->HO:=Ao (YF (CC σ) h σ) Af
def BD(d k:Nat):Nat:=10000+100*d+k
def Fq(d nn:Nat)(j:Nat):Option Nat :=
 match Ip σ j with
 |some i=>some i
 |none=>match Nat.ble 2000 j&&Nat.blt j (2000+nn)with |true=>some (BD d (j-2000)) |false=>none
def En(d nn:Nat)(h h' : Nat->HO):Nat->HO:=fun i =>
 match CC σ i with
 |some j=>(h' j).ren (Fq σ d nn) h'
 |none=>match Nat.ble (BD d 0) i&&Nat.blt i (BD d nn)with |true=>(h' (2000+(i-BD d 0))).ren (Fq σ d nn) h' |false=>h i
def DU(h:Nat->HO)(d:Nat):Nat->Bool
 |0=>true
 |k+1=>(match h (BD d k)with |.free=>true |_=>false)&&DU h d k
def DA(σ:JA)(d nn:Nat):Bool :=
 match σ with
 | []=>true
 |(i,_)::r=>!(Nat.ble (BD d 0) i&&Nat.blt i (BD d nn))&&DA r d nn
def Oj(l:List (Nat×Nat))(d:Option Nat):Option Nat:=match d with | none=>none | some d=>G6 l d
def fj:AV->Bool | .tup _=>false | _=>true
def UU:List AV->Bool
 | []=>true
 |a::r=>match fj a with |true=>UU r |false=>false
def Xw:List AV->Option (List Value)
 | []=>some []
 |.v x::r=>match Xw r with |some l=>some (x::l) |none=>none
 |_=>none
def Sy(k:Nat)(d:Option Nat)(h:Nat->HO)(F:AV)(args:List AV)(K:HK):Prop :=
 match d,F,args with
 |some d,.v (.func (.func f) ⟨[]⟩ ⟨[]⟩),.msl r n::l=>match Xw l with
  |some vs=>match h r with
   |.arr sz es=>match k with
    |0=>∃n' FP,A9 cx.P f (.msl 1000 n::vs.map .v) (Ao [(1000,.arr sz es)] Af) (fun r' h'=>r'=.msl 1000 n'/\h'=Ao [(1000,.arr sz FP)] Af)/\K (.msl r n') (A0 h r (.arr sz FP))
    |_+1=>∃n' FP,(DU h d 1&&Nat.blt r 10000000&&!Nat.beq r (BD d 0))=true/\A9 cx.P f (.msl 1000 n::vs.map .v) (Ao [(1000,.arr sz es)] Af) (fun r' h'=>r'=.msl 2000 n'/\h'=Ao [(1000,.dead),(2000,.arr sz FP)] Af) /\
      K (.msl (BD d 0) n') (A0 (A0 h r .dead) (BD d 0) (.arr sz FP))
   |_=>False
  |none=>False
 |_,_,_=>False
def Vq(d:Option Nat)(st:St)(F:AV)(args:List AV)(K:HK):Prop :=
 match d with
 |none=>False
 |some d=>∃sz es,(DU st.h d 1&&fj F&&UU args)=true/\Gs cx.P (fun l=>cx.yp l []) (str st.h F) (args.map (str st.h)) Af (fun r h'=>r=.slice (.id 2000 sz) es/\h'=Ao [(2000,.tok sz es.length)] Af) /\
   K (.slice (.id (BD d 0) sz) es) (A0 st.h (BD d 0) (.tok sz es.length))
def RF(d:Option Nat)(st:St)(F:AV)(args:List AV)(K:HK):Prop :=
  match d,F,Xw args with
  |some _,.v (.func (.yield l) ⟨[]⟩ ⟨[]⟩),some vs=>match st.h 1000,st.h 1001 with
    |.cells [.slice (.id r sz) es],.tok fN n=>(r=1001/\fN=sz)/\∃v FP n',Jp cx.P (cx.yp l [(1000,1000),(1001,1001)]) l (vs.map .v) (Ao [(1000,.cells [.slice (.id 1001 sz) es]),(1001,.tok sz n)] Af)
          (fun r h'=>r=.v v/\h'=Ao [(1000,.cells [.slice (.id 1001 sz) FP]),(1001,.tok sz n')] Af) /\
        K (.v v) (A0 (A0 st.h 1001 (.tok sz n')) 1000 (.cells [.slice (.id 1001 sz) FP]))
    |_,_=>False
  |_,_,_=>False
def ph:List Nat:=[1000,1001,1002,1003,1004,1005,1006,1007,10900,5]
def ZP(d:Option Nat)(st:St)(F:AV)(args:List AV)(K:HK):Prop :=
 match d,F with
 |some d,.v (.func (.func f) ⟨[]⟩ ⟨[]⟩)=>∃(σ:JA) (H0 Hn:List (Nat×HO)) (args' : List AV) (res:AV),
   (∀h2:Nat->HO,(∀r∈ph,h2 r=st.h r)->FO σ h2=Ao H0 Af/\args.map (ren (CC σ) h2)=args')/\(ED σ&&DA σ d 0&&σ.all fun p=>Jk ph p.1)=true /\
   A9 cx.P f args' (Ao H0 Af) (fun r h'=>r=res/\h'=Ao Hn Af)/\K (ren (Fq σ d 0) (Ao Hn Af) res) (En σ d 0 st.h (Ao Hn Af))
 |_,_=>False
def Ql(k:Nat)(d:Option Nat)(st:St)(F:AV)(args:List AV)(K:HK):Prop :=
 match Nat.beq k 4 with
 |true=>ZP cx d st F args K
 |false=>Sy cx k d st.h F args K
def GF(dr:Bool)(d:Option Nat)(st:St)(F:AV)(args:List AV)(K:HK):Prop :=
 match dr with
 |true=>match Oj cx.pl.dc d with
  |none=>∃res,QD cx.P (str st.h F) (args.map (str st.h)) res/\K res st.h
  |some 0=>match d with
   |none=>False
   |some d=>∃n sz es,(DU st.h d 1&&fj F&&UU args)=true/\Gs cx.P (fun l=>cx.yp l []) (str st.h F) (args.map (str st.h)) Af (fun r h'=>r=.msl 2000 n/\h'=Ao [(2000,.arr sz es)] Af) /\
     K (.msl (BD d 0) n) (A0 st.h (BD d 0) (.arr sz es))
  |some (k+1)=>match Nat.beq k 2 with
   |true=>Vq cx d st F args K
   |false=>match Nat.beq k 3 with
    |true=>RF cx d st F args K
    |false=>Ql cx k d st F args K
 |false=>∃m:vP,match m with
  |.pure=>∃res,QD cx.P (str st.h F) (args.map (str st.h)) res/\K res st.h
  |.rel=>Gs cx.P (fun _ _ _=>True) (str st.h F) (args.map (str st.h)) Af fun r h'=>h'=Af/\K r st.h
  |.gen σ nn=>match d with
   |none=>False
   |some d=>(ED σ&&DU st.h d nn&&DA σ d nn)=true /\
     Gs cx.P (fun l=>cx.yp l σ) (ren (CC σ) st.h F) (args.map (ren (CC σ) st.h)) (FO σ st.h) fun r h'=>K (ren (Fq σ d nn) h' r) (En σ d nn st.h h')
  |.geny σ nn=>match d with
   |none=>False
   |some d=>(ED σ&&DU st.h d nn&&DA σ d nn)=true /\
     match ren (CC σ) st.h F with
     |.clo f caps=>r9 cx.P (fun g w=>∀l,cx.yp l σ g w) f (args.map (ren (CC σ) st.h)++caps) (FO σ st.h) fun r h'=>K (ren (Fq σ d nn) h' r) (En σ d nn st.h h')
     |_=>False
def YN:List AV->Option (List Value)
 | []=>some []
 |.v x::r=>match YN r with |some l=>some (x::l) |none=>none
 |_=>none
def tV:AV->Option Value
 |.v x=>some x
 |.agg cs=>match YN cs with |some l=>some (.agg l.toArray) |none=>none
 |_=>none
def It(T:GU)(t:Nat):Option E2 :=
 match(T t).d with
 |.struct _=>match Ie T 8 t with |some l=>some ⟨true,l⟩ |none=>none
 |_=>match Ie T 1 t with |some l=>some ⟨false,l⟩ |none=>none
def pN:KS->KS->Bool
 |.int k,.int k'=>vM k k'
 |.str,.str=>true
 |.bool,.bool=>true
 |_,_=>false
def UG:List KS->List KS->Bool
 | [],[]=>true
 |a::r,b::s=>match pN a b with |true=>UG r s |false=>false
 |_,_=>false
def uu(a b:E2):Bool :=
 match a.agg,b.agg with
 |true,true=>UG a.l b.l
 |false,false=>UG a.l b.l
 |_,_=>false
def KW(T:GU)(ty:Nat)(sh:E2)(k:AV)(K:Value->Prop):Prop :=
 match(T ty).d with
 |.map kt _=>match It T kt with
  |some z6=>match uu sh z6 with
   |true=>match tV k with
    |some kx=>match Xj sh kx with
     |true=>K kx
     |false=>False
    |none=>False
   |false=>False
  |none=>False
 |_=>False
open Classical in
noncomputable def EX(B7:List (Value×AV))(k:Value)(a:AV):List (Value×AV) :=
 if ∃a',(k,a')∈B7 then B7.map fun p=>if p.1=k then(k,a)else p else B7++[(k,a)]
def Lt(T:GU)(mku:List Nat)(d:Option Nat)(h:Nat->HO)(ty:Nat)(K:HK):Prop :=
 match d with
 |none=>False
 |some d=>match h d with
  |.free=>match(T ty).d with
   |.map kt _=>match It T kt with
    |some sh=>match Jk mku d with
     |true=>K (.mref d) (A0 h d (.mapU sh []))
     |false=>K (.mref d) (A0 h d (.map sh []))
    |none=>False
   |_=>False
  |_=>False
def HE(T:GU)(h:Nat->HO)(ty:Nat)(m k x:AV)(K:HK):Prop :=
 match m with
 |.mref r=>match h r with
  |.map sh B7=>KW T ty sh k fun kx=>K (.v undef) (A0 h r (.map sh (EX B7 kx (str h x))))
  |.mapU sh B7=>KW T ty sh k fun kx=>K (.v undef) (A0 h r (.mapU sh (EX B7 kx x)))
  |_=>False
 |_=>False
def K6(T:GU)(t:Nat)(K:AV->Prop):Prop :=
 match(T t).d with
 |.other=>False
 |_=>match(T t).zero with
  |.agg cs=>match G9 (cs.toList.map .v)with |true=>K (.agg (cs.toList.map .v)) |false=>False
  |z=>K (.v z)
def MS(T:GU)(ty:Nat)(ok:Bool)(B7:List (Value×AV))(kx:Value)(K:AV->Prop):Prop :=
 match(T ty).d with
 |.map _ e=>match ok with
  |true=>(∀a,(kx,a)∈B7->K (.tup [a,.v (.bool true)]))/\((∀a,(kx,a)∉B7)->K6 T e fun z=>K (.tup [z,.v (.bool false)]))
  |false=>(∀a,(kx,a)∈B7->K a)/\((∀a,(kx,a)∉B7)->K6 T e K)
 |_=>False
def MR(T:GU)(ty:Nat)(ok:Bool)(B7:List (Value×AV))(kx:Value)(K:AV->Prop):Prop :=
 match(T ty).d with
 |.map _ e=>match ok with
  |true=>(∃a,((kx,a)∈B7/\∀b,(kx,b)∈B7->b=a)/\K (.tup [a,.v (.bool true)]))\/((∀a,(kx,a)∉B7)/\K6 T e fun z=>K (.tup [z,.v (.bool false)]))
  |false=>(∃a,((kx,a)∈B7/\∀b,(kx,b)∈B7->b=a)/\K a)\/((∀a,(kx,a)∉B7)/\K6 T e K)
 |_=>False
def Nw(T:GU)(h:Nat->HO)(ty:Nat)(m k:AV)(ok:Bool)(K:AV->Prop):Prop :=
 match m with
 |.cmap sh B7=>KW T ty sh k fun kx=>MR T ty ok B7 kx K
 |.mref r=>match h r with
  |.map sh B7=>KW T ty sh k fun kx=>MR T ty ok B7 kx K
  |.mapU sh B7=>KW T ty sh k fun kx=>MR T ty ok B7 kx K
  |.rom sh B7=>KW T ty sh k fun kx=>MR T ty ok B7 kx K
  |_=>False
 |_=>False
def Nx(T:GU)(h:Nat->HO)(ty:Nat)(m k:AV)(ok:Bool)(K:AV->Prop):Prop :=
 match m with
 |.cmap sh B7=>KW T ty sh k fun kx=>MS T ty ok B7 kx K
 |.mref r=>match h r with
  |.map sh B7=>KW T ty sh k fun kx=>MS T ty ok B7 kx K
  |.mapU sh B7=>KW T ty sh k fun kx=>MS T ty ok B7 kx K
  |.rom sh B7=>KW T ty sh k fun kx=>MS T ty ok B7 kx K
  |_=>False
 |_=>False
def dp(d:Option Nat)(h:Nat->HO)(x:AV)(K:HK):Prop :=
 match d with
 |none=>False
 |some d=>match h d with
  |.free=>match x with
   |.cmap _ B7=>K (.ref d 0) (A0 h d (.iter B7 B7 none))
   |.mref r=>match h r with
    |.rom _ B7=>K (.ref d 0) (A0 h d (.iter B7 B7 none))
    |.map sh B7=>K (.ref d 0) (A0 (A0 h r (.rom sh B7)) d (.iter B7 B7 none))
    |_=>False
   |_=>False
  |_=>False
def ml(h:Nat->HO)(x:AV)(K:HK):Prop :=
 match x with
 |.ref r 0=>match h r with
  |.iter all rem _=>(rem=[]->K (.tup [.v (.bool false)]) h) /\
    (∀kv Ma,rem.Perm (kv::Ma)->K (.tup [.v (.bool true),.v kv.1,kv.2]) (A0 h r (.iter all Ma (some kv))))
  |_=>False
 |_=>False
def ce(h:Nat->HO)(x:AV)(K:AV->Prop):Prop :=
 match x with
 |.ref r 0=>match h r with
  |.iter _ _ (some kv)=>K (.tup [.v kv.1,kv.2])
  |_=>False
 |_=>False
def Sg(T:GU)(t:Nat)(h:Nat->HO)(x:AV)(K:AV->Prop):Prop :=
 match(T t).d with
 |.slice _=>match x with
  |.slice _ es=>K (.v (.int .i64 es.length))
  |.msl _ n=>K (.v (.int .i64 n))
  |.v (.slice none 0 0)=>K (.v (.int .i64 0))
  |_=>False
 |.string=>match x with
  |.v (.string s)=>K (.v (.int .i64 s.size))
  |_=>False
 |.map _ _=>match x with
  |.cmap _ B7=>K (.v (.int .i64 B7.length))
  |.mref r=>match h r with
   |.map _ B7=>K (.v (.int .i64 B7.length))
   |.mapU _ B7=>K (.v (.int .i64 B7.length))
   |.rom _ B7=>K (.v (.int .i64 B7.length))
   |_=>False
  |_=>False
 |_=>False
def GS(d:Option Nat)(h:Nat->HO)(ty:Nat)(x:AV)(lo hi mx:Option (Option Int))(K:HK):Prop :=
 match lo,hi,mx with
 |some lo,some hi,some mx=>match(cx.T ty).d with
  |.string=>match mx,x with
   |none,.v (.string s)=>(0<=lo.getD 0/\lo.getD 0<=hi.getD s.size/\hi.getD s.size<=s.size)/\K (.v (.string (s.extract (lo.getD 0).toNat (hi.getD s.size).toNat))) h
   |_,_=>False
  |.slice e=>match(cx.T e).size with
   |0=>False
   |_+1=>match x with
    |.slice _ es=>match mx with
     |none=>(0<=lo.getD 0/\lo.getD 0<=hi.getD es.length/\hi.getD es.length<=es.length) /\
       (∀cs∈es,cs.length=(cx.T e).size)/\K (.slice .none ((es.take (hi.getD es.length).toNat).drop (lo.getD 0).toNat)) h
     |some m=>match d,hi with
      |some d,some hi=>match G6 cx.pl.arr d with
       |some _=>(0<=lo.getD 0/\lo.getD 0<=hi/\m=hi/\hi<=es.length)/\(∀cs∈es,cs.length=(cx.T e).size) /\
         K (.slice (.full (cx.T e).size) ((es.take hi.toNat).drop (lo.getD 0).toNat)) h
       |none=>match h d with
        |.free=>(0<=lo.getD 0/\lo.getD 0<=hi/\m=hi/\hi<=es.length)/\(∀cs∈es,cs.length=(cx.T e).size) /\
          K (.slice (.id d (cx.T e).size) ((es.take hi.toNat).drop (lo.getD 0).toNat)) (A0 h d (.tok (cx.T e).size (hi.toNat-(lo.getD 0).toNat)))
        |_=>False
      |_,_=>False
    |.v (.slice none 0 0)=>(lo.getD 0=0/\hi.getD 0=0/\mx.getD 0=0)/\(mx=none\/hi≠none)/\K (.v (.slice none 0 0)) h
    |.msl r n=>match h r with
     |.arr sz es=>match Nat.beq sz (cx.T e).size with
      |true=>(n=es.length/\0<=lo.getD 0/\lo.getD 0<=hi.getD es.length/\hi.getD es.length<=es.length/\(mx=none\/(mx=hi/\hi≠none))) /\
        K (.slice .none ((es.take (hi.getD es.length).toNat).drop (lo.getD 0).toNat)) (A0 h r .dead)
      |false=>False
     |_=>False
    |_=>False
  |_=>False
 |_,_,_=>False
def Va(d:Option Nat)(h:Nat->HO)(ty:Nat)(x:AV)(lo:Option (Option Int))(hi mx:Option Operand)(K:HK):Prop :=
 match d,lo,hi,mx with
 |some d,some (some lo),none,none=>match(cx.T ty).d with
  |.slice e=>match(cx.T e).size with
   |0=>False
   |_+1=>match x with
    |.slice (.id r sz) es=>match h r with
     |.tok GV n=>match h (Ks cx d)with
      |.free=>match Nat.beq GV sz,Nat.beq sz (cx.T e).size with
       |true,true=>(es.length=n/\0<=lo/\lo<=es.length)/\K (.slice (.id (Ks cx d) sz) (es.drop lo.toNat)) (A0 (A0 h r .dead) (Ks cx d) (.tok sz (es.drop lo.toNat).length))
       |_,_=>False
      |_=>False
     |_=>False
    |_=>False
  |_=>False
 |_,_,_,_=>False
def mR(d:Option Nat)(h:Nat->HO)(ty:Nat)(x:AV)(hi:Option (Option Int))(K:HK):Prop :=
 match d,hi with
 |some d,some (some hi)=>match(cx.T ty).d with
  |.slice e=>match(cx.T e).size with
   |0=>False
   |_+1=>match x with
    |.msl r n=>match h r with
     |.arr sz es=>match h (Ks cx d)with
      |.free=>match Nat.beq sz (cx.T e).size,Nat.blt r 10000000&&Nat.blt 0 (Ks cx d)with
       |true,true=>(n=es.length/\0<=hi/\hi<=es.length)/\K (.msl (Ks cx d) hi.toNat) (A0 (A0 h r .dead) (Ks cx d) (.arr sz (es.take hi.toNat)))
       |_,_=>False
      |_=>False
     |_=>False
    |_=>False
  |_=>False
 |_,_=>False
def Qh(d:Option Nat)(h:Nat->HO)(ty:Nat)(x:AV)(lo:Option Operand)(hi:Option (Option Int))(mx:Option Operand)(K:HK):Prop :=
 match lo,mx with
 |none,none=>mR cx d h ty x hi K
 |_,_=>False
def bL(T:GU)(h:Nat->HO)(ty:Nat)(x:AV)(hi mx:Option Operand)(K:AV->Prop):Prop :=
 match hi,mx,(T ty).d,x with
 |none,none,.array n e,.ref r 0=>match(T e).size,h r with
  |1,.ro cs=>n=cs.length/\K (.slice .none (cs.map fun c=>[c]))
  |_,_=>False
 |_,_,_,_=>False
def aV(d:Option Nat)(h:Nat->HO)(ty:Nat)(x:AV)(t:Nat->AV)(lo hi mx:Option Operand)(K:HK):Prop :=
 match lo with
 |none=>match(cx.T ty).d with
  |.array _ _=>bL cx.T h ty x hi mx fun v=>K v h
  |_=>Qh cx d h ty x none (Ci t hi) mx K
 |some lo=>Va cx d h ty x (Ci t (some lo)) hi mx K
def unT:AV->AV
 |.slice _ es=>.slice .none es
 |a=>a
def Pe(d:Option Nat)(h:Nat->HO)(x:AV)(K:HK):Prop :=
 match d with
 |none=>K x h
 |some d=>match G6 cx.pl.tok d with
  |some sz=>match Nat.beq sz 0 with
   |true=>K (unT x) h
   |false=>match x with
    |.v (.slice none 0 0)=>match h d with
     |.free=>K (.slice (.id d sz) []) (A0 h d (.tok sz 0))
     |_=>False
    |x=>K x h
  |none=>match G6 cx.pl.arr d with
   |some sz=>match x with
    |.v (.slice none 0 0)=>match h d with
     |.free=>K (.msl d 0) (A0 h d (.arr sz []))
     |_=>False
    |x=>K x h
   |none=>K x h
def p9(l:List AV)(n:Nat):Option AV :=
 match l with
 | []=>none
 |x::r=>match n with |0=>some x |n+1=>p9 r n
def MN(i:Nat)(K:AV->Prop):Prop :=
 match x with
 |.tup vs=>match p9 vs i with
  |some a=>K a
  |none=>False
 |_=>False
def Lv:Prop :=
 match x with
 |.ref r o=>K (.ref r o)
 |.eref r n z i o=>K (.eref r n z i o)
 |.cptr cs=>K (.cptr cs)
 |.clo f cs=>K (.clo f cs)
 |.v (.func (.func f) a b)=>K (.v (.func (.func f) a b))
 |_=>False
def aQ(c a b:AV)(K:AV->Prop):Prop :=
 match c with
 |.v (.bool true)=>K a
 |.v (.bool false)=>K b
 |_=>False
def pV(f:Int->Int->Int)(x y:AV)(K:AV->Prop):Prop :=
 match x,y with
 |.v (.int k a),.v (.int k' b)=>match vM k k' with
  |true=>K (.v (.int k (f a b)))
  |false=>False
 |_,_=>False
def J9(d:Option Nat)(h:Nat->HO)(ty:Nat)(len cap:AV)(K:HK):Prop :=
 match(cx.T ty).d,len,cap with
 |.slice e,.v (.int .i64 n),.v (.int .i64 c)=>match G9 ((cx.T e).zc.map .v)with
  |true=>match Nat.beq (cx.T e).zc.length (cx.T e).size with
   |true=>match(cx.T e).size with
    |0=>False
    |_+1=>(0<=n/\n<=c/\c*(cx.T e).bytes<=140737488355328/\c<=9223372036854775807)/\ET cx d h (cx.T e).size (List.replicate n.toNat ((cx.T e).zc.map .v)) K
   |false=>False
  |false=>False
 |_,_,_=>False
def bl(op:UnOp)(x:AV)(K:AV->Prop):Prop :=
 match op,x with
 |.not,x=>iM K x
 |.neg,.v (.int .i64 a)=>A7 (-a)/\K (.v (.int .i64 (-a)))
 |.xor,.v (.int k a)=>K (.v (.int k (Jq .xor k (if k.signed then -1 else k.max) a)))
 |_,_=>False
def Gj(d:Option Nat)(h:Nat->HO)(b:Builtin)(Hg:List Nat)(args:List AV)(K:HK):Prop :=
 match b,args,Hg with
 |.len,[x],[t]=>Sg cx.T t h x fun v=>K v h
 |.append,[s,x],[t,t']=>match Nat.beq t t' with
  |true=>IR cx d h t s x K
  |false=>False
 |.max,[x,y],_=>pV max x y fun v=>K v h
 |.min,[x,y],_=>pV min x y fun v=>K v h
 |_,_,_=>False
def F5(dr:Bool)(o:Oper)(st:St)(K:HK):Prop :=
 match o.op with
 |.move x=>K (ev st.t x) st.h
 |.assign x=>Pe cx o.dst st.h (ev st.t x) K
 |.pick c a b=>aQ (ev st.t c) (ev st.t a) (ev st.t b) fun v=>K v st.h
 |.alloc e=>TJ cx.T o.dst st.h e K
 |.box e x=>gA cx o.dst st.h e (ev st.t x) K
 |.build ty ps=>QI cx.T ty st.t ps.toList fun v=>K v st.h
 |.buildSlice ty n ps=>I1 cx o.dst st.h ty n st.t ps.toList K
 |.insert ty m k x=>HE cx.T st.h ty (ev st.t m) (ev st.t k) (ev st.t x) K
 |.load ty x=>IK cx.T st.h ty (ev st.t x) fun v=>K v st.h
 |.store ty p x=>OO cx st.h ty (ev st.t p) (ev st.t x) K
 |.nilCheck x=>Lv (ev st.t x) fun v=>K v st.h
 |.binOp op ty x y _=>Zf cx.T op ty y (ev st.t x) (ev st.t y) fun v=>K v st.h
 |.unOp op _ x=>bl op (ev st.t x) fun v=>K v st.h
 |.convert s ty x=>match dr with
  |true=>WB cx.T s ty (ev st.t x) fun v=>K v st.h
  |false=>bZ cx o.dst st.h s ty (ev st.t x) K
 |.makeFunc fn first cap=>Ls st.t st.h fn first.toList cap.toList fun v=>K v st.h
 |.makeMap ty none=>Lt cx.T cx.pl.mku o.dst st.h ty K
 |.makeSlice ty n c=>J9 cx o.dst st.h ty (ev st.t n) (ev st.t c) K
 |.slice ty x lo hi mx=>match dr with
  |true=>match Oj cx.pl.tok o.dst with
   |none=>GS cx o.dst st.h ty (ev st.t x) (Ci st.t lo) (Ci st.t hi) (Ci st.t mx) K
   |some _=>Qh cx o.dst st.h ty (ev st.t x) lo (Ci st.t hi) mx K
  |false=>match Oj cx.pl.tok o.dst with
   |none=>GS cx o.dst st.h ty (ev st.t x) (Ci st.t lo) (Ci st.t hi) (Ci st.t mx) K
   |some _=>aV cx o.dst st.h ty (ev st.t x) st.t lo hi mx K
 |.fieldAddr s x f=>Ua cx.T s f (ev st.t x) fun v=>K v st.h
 |.field s x f=>PA cx.T s f (ev st.t x) fun v=>K v st.h
 |.indexAddr ty x ix=>J8 cx.T ty (ev st.t x) (ev st.t ix) fun v=>K v st.h
 |.index ty x ix=>Uz cx.T ty (ev st.t x) (ev st.t ix) fun v=>K v st.h
 |.lookup ty x ix ok=>match dr with
  |true=>Nw cx.T st.h ty (ev st.t x) (ev st.t ix) ok fun v=>K v st.h
  |false=>Nx cx.T st.h ty (ev st.t x) (ev st.t ix) ok fun v=>K v st.h
 |.mapUpdate ty m k x=>HE cx.T st.h ty (ev st.t m) (ev st.t k) (ev st.t x) K
 |.range ty x=>match(cx.T ty).d with |.map _ _=>dp o.dst st.h (ev st.t x) K |_=>False
 |.next it false=>ml st.h (ev st.t it) K
 |.entry it=>ce st.h (ev st.t it) fun v=>K v st.h
 |.extract x i=>MN (ev st.t x) i fun v=>K v st.h
 |.call c=>match c.callee with
  |.builtin b=>Gj cx o.dst st.h b c.argTypes.toList (c.args.toList.map (ev st.t)) K
  |.value f=>GF cx dr o.dst st (ev st.t f) (c.args.toList.map (ev st.t)) K
  |_=>False
 |_=>False
def KX(ops:List Oper)(j:Nat):Option Nat:=match ops with | []=>none | o::r=>match j with | 0=>o.dst | j+1=>KX r j
def mS(o:Oper)(st:St):St :=
 match o.dst with
 |none=>st
 |some d=>match vV cx.pl.tz d with
  |some (r,k,j,sz)=>⟨st.t,tz1 st.h r k j sz⟩
  |none=>match sA cx.pl.fz d with
   | []=>st
   |l=>⟨st.t,PM st.h l⟩
def akK(o:Oper)(st:St)(K:St->Prop):Prop :=
 match o.dst with
 |none=>K st
 |some d=>match G6 cx.pl.ak d with
  |none=>K st
  |some s=>match st.t s with
   |.msl r n=>match st.h r with
    |.arr sz es=>n=es.length/\K ⟨HG st.t s (.slice (.id r sz) es),A0 st.h r (.tok sz es.length)⟩
    |_=>K st
   |_=>K st
def j7(dr:Bool)(o:Oper)(st:St)(K:St->Prop):Prop :=
 match dr with
 |true=>F5 cx true o st fun v h=>K (st.put o.dst v h)
 |false=>akK cx o (mS cx o st) fun Et=>F5 cx false o Et fun v h=>K (Et.put o.dst v h)
def HL(dr:Bool)(all:List Oper)(o:Oper)(st:St)(K:St->Prop):Prop :=
 match o.guard with
 |none=>j7 cx dr o st K
 |some (j,want)=>match KX all j with
  |none=>False
  |some d=>match st.t d,want with
   |.v (.bool true),true=>j7 cx dr o st K
   |.v (.bool false),false=>j7 cx dr o st K
   |.v (.bool true),false=>K (st.put o.dst (.v undef) st.h)
   |.v (.bool false),true=>K (st.put o.dst (.v undef) st.h)
   |.v (.tuple _),_=>K (st.put o.dst (.v undef) st.h)
   |_,_=>False
def UC(o2:Oper):Bool :=
 match o2.op with
 |.call c=>match c.callee with
  |.builtin .clear=>match o.op with
   |.slice ty _ (some _) none none=>match o.dst,o2.dst,c.args.toList,c.argTypes.toList,o.guard,o2.guard with
    |some d,none,[.tmp d'],[ty'],none,none=>Nat.beq d d'&&Nat.beq ty ty'
    |_,_,_,_,_,_=>false
   |_=>false
  |_=>false
 |_=>false
def wx(d:Nat)(st:St)(r i sz:Nat)(es:List (List AV))(z:List Value)(K:St->Prop):Prop :=
 match z.all Value.oneCell' with
 |true=>K ⟨HG st.t d .junk,A0 st.h r (.arr sz (es.take i++List.replicate (es.length-i) (z.map AV.v)))⟩
 |false=>False
def gH(o:Oper)(st:St)(K:St->Prop):Prop :=
 match o.op with
 |.slice ty x (some lo) none none=>match o.dst with
  |some d=>match(cx.T ty).d with
   |.slice e=>match ev st.t x with
    |.msl r n=>match ev st.t lo with
     |.v (.int .i64 i)=>match st.h r with
      |.arr sz es=>match Nat.beq sz (cx.T e).size with
       |true=>match(cx.T e).size with
        |0=>False
        |_+1=>match Nat.beq (cx.T e).zc.length sz with
         |true=>(n=es.length/\0<=i/\i<=es.length)/\wx d st r i.toNat sz es (cx.T e).zc K
         |false=>False
       |false=>False
      |_=>False
     |_=>False
    |_=>False
   |_=>False
  |none=>False
 |_=>False
def VF(cx:Cx)(all l:List Oper)(st:St)(K:St->Prop):Prop :=
 match l with
 | []=>K st
 | [o]=>HL cx false all o st K
 |o::o2::r=>match UC o o2 with
  |true=>gH cx o st fun Et=>VF cx all r Et K
  |false=>HL cx false all o st fun Et=>VF cx all (o2::r) Et K
def VO:AV->List Nat
 |.ref r _=>[r]
 |.mref r=>[r]
 |_=>[]
def pH:List AV->List Nat
 | []=>[]
 |a::r=>VO a++pH r
def VP:AV->List Nat
 |.agg cs=>pH cs
 |.clo _ cs=>pH cs
 |a=>VO a
def tO:List AV->List Nat
 | []=>[]
 |a::r=>VP a++tO r
def YZ:AV->List Nat
 |.agg cs=>tO cs
 |a=>VP a
def Uv:List AV->List Nat
 | []=>[]
 |a::r=>YZ a++Uv r
abbrev FJ:=List Nat×Option Nat
def I4(d:Option Nat)(l:List Nat):Option FJ:=match d with | some d=>some (d::l,some d) | none=>none
def iD:AV->List Nat
 |.msl r _=>[r]
 |_=>[]
def Yd(d:Option Nat)(s x:AV):Option FJ :=
 match s with
 |.v (.slice none 0 0)=>I4 (d.map (Ks cx)) (iD x)
 |.slice (.full _) _=>I4 (d.map (Ks cx)) (iD x)
 |.slice (.id r _) _=>I4 (some r) (iD x)
 |.msl r _=>I4 (some r) (iD x)
 |_=>none
def d5(d:Option Nat)(args:List AV):Option FJ :=
 match d with
 |some d=>match args with
  |.msl r _::_=>some ([r,BD d 0],some (r+10000000*BD d 0))
  |_=>none
 |none=>none
theorem cn{d:Option Nat}{args:List AV}{f:FJ}(h:d5 d args=some f):∃d' r n l,d=some d'/\args=.msl r n::l/\f=([r,BD d' 0],some (r+10000000*BD d' 0)):=by
 unfold d5 at h;split at h
 .split at h
  .cases h;exact⟨_,_,_,_,rfl,rfl,rfl⟩
  .cases h
 .cases h
def kV(d:Option Nat)(x:AV):Option FJ :=
 match d with
 |some d=>match x with
  |.msl r _=>some ([r,d],some (r+10000000*d))
  |_=>none
 |none=>none
theorem co{d:Option Nat}{x:AV}{f:FJ}(h:kV d x=some f):∃d' r n,d=some d'/\x=.msl r n/\f=([r,d'],some (r+10000000*d')):=by
 unfold kV at h;split at h
 .split at h
  .cases h;exact⟨_,_,_,rfl,rfl,rfl⟩
  .cases h
 .cases h
def kW(args:List AV):Option FJ:=match Xw args with | some _=>some ([1000,1001],some 10010001000) | none=>none
def XM:Nat:=99999999999999
def kU(k:Nat)(d:Option Nat)(args:List AV):Option FJ :=
 match Nat.beq k 3 with
 |true=>some (ph,some XM)
 |false=>d5 d args
def Hs(d:Option Nat)(c:Callee)(t:Nat->AV)(args:List AV):Option FJ :=
 match c,args with
 |.builtin .len,[.mref r]=>some ([r],none)
 |.builtin .len,[_]=>some ([],none)
 |.builtin .max,_=>some ([],none)
 |.builtin .min,_=>some ([],none)
 |.builtin .append,[s,x]=>Yd cx d s x
 |.value f,args=>match Oj cx.pl.dc d with
  |none=>some (YZ (ev t f)++Uv args,none)
  |some 0=>I4 (d.map fun d=>BD d 0) (YZ (ev t f)++Uv args)
  |some 1=>match args with |.msl r _::_=>some ([r],some r) |_=>none
  |some (k+2)=>match Nat.beq k 1 with
   |true=>I4 (d.map fun d=>BD d 0) (YZ (ev t f)++Uv args)
   |false=>match Nat.beq k 2 with
    |true=>kW args
    |false=>kU k d args
 |_,_=>none
def Fy(o:Oper)(st:St):Option FJ :=
 match o.op with
 |.move _ |.pick .. |.nilCheck _ |.unOp .. |.convert .. |.fieldAddr .. |.field .. |.indexAddr .. |.index .. |.extract .. |.build ..=>some ([],none)
 |.binOp _ _ x _ _=>match ev st.t x with |.slice ..=>none |_=>some ([],none)
 |.assign x=>match ev st.t x with |.v (.slice ..)=>none |_=>some ([],none)
 |.load _ p=>match ev st.t p with |.cptr _=>some ([],none) |.ref r _=>some ([r],none) |.eref r ..=>some ([r],none) |_=>none
 |.call c=>Hs cx o.dst c.callee st.t (c.args.toList.map (ev st.t))
 |.alloc _=>I4 o.dst []
 |.box _ x=>I4 o.dst (YZ (ev st.t x))
 |.buildSlice _ _ ps=>I4 (o.dst.map (Ks cx)) (Uv (ps.toList.map fun p=>ev st.t p.2))
 |.store _ p x=>match ev st.t p with
  |.ref r _=>match Jk cx.pl.frz r with |true=>none |false=>I4 (some r) []
  |.eref r ..=>I4 (some r) (YZ (ev st.t x))
  |_=>none
 |.slice _ x _ _ mx=>match Oj cx.pl.tok o.dst with
  |some _=>kV (o.dst.map (Ks cx)) (ev st.t x)
  |none=>match mx,ev st.t x with
   |none,.msl ..=>none
   |none,_=>some ([],none)
   |some _,.slice ..=>I4 o.dst []
   |_,_=>none
 |.makeFunc _ _ cap=>some (Uv (cap.toList.map (ev st.t)),none)
 |.mapUpdate _ m _ x=>match ev st.t m with |.mref r=>I4 (some r) (YZ (ev st.t x)) |_=>none
 |.makeSlice ..=>I4 (o.dst.map (Ks cx)) []
 |.lookup _ m _ _=>match ev st.t m with |.cmap ..=>some ([],none) |.mref r=>some ([r],none) |_=>none
 |.makeMap ..=>I4 o.dst []
 |_=>none
def N2(all:List Oper)(o:Oper)(st:St):Option FJ :=
 match o.guard with
 |none=>Fy cx o st
 |some (j,want)=>match KX all j with
  |none=>none
  |some d=>match st.t d,want with
   |.v (.bool true),true=>Fy cx o st
   |.v (.bool false),false=>Fy cx o st
   |_,_=>some ([],none)
def xR(l:List Nat):Bool:=match l with | []=>true | _=>false
def aK(l:List Nat)(r:Nat):Bool:=bif Nat.beq r XM then xR l else !Jk l r&&(Nat.blt r 10000000||(!Jk l (r % 10000000)&&!Jk l (r / 10000000)))
def T2(a b:FJ):Bool :=
 (match a.2 with | some r=>aK b.1 r | none=>true)&&(match b.2 with | some r=>aK a.1 r | none=>true)
def PN(i:Nat)(D:List Nat):Bool:=o.after.toList.any fun e=>Region.binds .any e&&(Nat.beq e.on i||Jk D e.on)
def QM(i:Nat)(D:List Nat)(k:Nat):List Oper->List Nat
 | []=>D
 |o::r=>match PN o i D with
  |true=>QM i (k::D) (k+1) r
  |false=>QM i D (k+1) r
def Vl(i:Nat)(D:List Nat)(k:Nat):List Oper->Bool
 | []=>true
 |o::r=>(PN o i D||!Jk D k)&&Vl i D (k+1) r
def I0(ops:Array Oper)(oi:Oper)(fi:FJ)(D:List Nat)(k:Nat):List Oper->List FJ->Bool
 |o::r,f::fs=>(Jk D k||(oi.apart ops o&&T2 fi f))&&I0 ops oi fi D (k+1) r fs
 | [],[]=>true
 |_,_=>false
def MM(ops:Array Oper)(all:List Oper)(k:Nat):List Oper->List FJ->Bool
 |o::r,f::fs =>
  let D:=QM k [] 0 all
  (o.after.toList.all fun e=>!Region.binds .any e||Nat.blt e.on k)&&Vl k D 0 all&&(D.all fun j=>Nat.blt k j&&Nat.blt j all.length)&&I0 ops o f D (k+1) r fs&&MM ops all (k+1) r fs
 | [],[]=>true
 |_,_=>false
def T3(ops:Array Oper)(fs:List FJ):Bool:=Region.noSelect ops&&MM ops ops.toList 0 ops.toList fs
def Ze(cx:Cx)(ops:Array Oper)(l:List Oper)(fs:List FJ)(st:St)(K:St->Prop):Prop :=
 match l with
 | []=>T3 ops fs.reverse=true/\K st
 |o::r=>match N2 cx ops.toList o st with
  |some f=>HL cx true ops.toList o st fun Et=>Ze cx ops r (f::fs) Et K
  |none=>False
def T6(l:List (Nat×AV))(i:Nat):AV:=match l with | []=>.junk | (j,v)::r=>bif Nat.beq i j then v else T6 r i
structure LS where
 t:List (Nat×AV)
 h:List (Nat×HO)
 hb:Nat->HO
def LS.st(s:LS):St:=⟨T6 s.t,Ao s.h s.hb⟩
def SJ(h:Nat->HO)(r:Nat):Bool:=match h r with | .free=>false | _=>true
def ids0(h:Nat->HO):AV->Bool
 |.slice (.id r _) _=>SJ h r
 |.slice (.ver r _ _) _=>SJ h r
 |.msl r _=>SJ h r
 |.ref r _=>SJ h r
 |.eref r _ _ _ _=>SJ h r
 |.mref r=>SJ h r
 |.agg _ |.tup _ |.clo ..=>false
 |_=>true
def ab(h:Nat->HO):List AV->Bool
 | []=>true
 |a::r=>match ids0 h a with |true=>ab h r |false=>false
def VQ(h:Nat->HO):AV->Bool
 |.agg cs=>ab h cs
 |.tup cs=>ab h cs
 |.clo _ cs=>ab h cs
 |a=>ids0 h a
def Sb(h:Nat->HO):List (Value×AV)->Bool
 | []=>true
 |p::r=>match VQ h p.2 with |true=>Sb h r |false=>false
def Yp(h:Nat->HO):List AV->Bool
 | []=>true
 |a::r=>match VQ h a with |true=>Yp h r |false=>false
def SK(h:Nat->HO):HO->Bool
 |.cells cs=>Yp h cs
 |.mapU _ B7=>Sb h B7
 |.hol _ _ _ _ a=>VQ h a
 |_=>true
def zS(st:St)(h:Nat->HO):List (Nat×AV)->Prop
 | []=>True
 |(j,a)::r=>(st.t j=a/\VQ h a=true)/\zS st h r
def zR(st:St)(h:Nat->HO):List (Nat×HO)->Prop
 | []=>True
 |(j,o)::r=>(st.h j=o/\SK h o=true)/\zR st h r
def St.le(st:St)(s:LS):Prop :=
 zS st s.st.h s.t/\zR st s.st.h s.h/\(∀j,s.hb j=.free\/(st.h j=s.hb j/\SK s.st.h (s.hb j)=true)) /\
 match cx.ext with
 |false=>True
 |true=>∀j,1000<=j->j<2000->st.h j≠.free->s.st.h j≠.free
def Nj(ops:Array Oper)(dr:Bool)(st:St)(K:St->Prop):Prop :=
 match dr with
 |false=>VF cx ops.toList ops.toList st K
 |true=>Ze cx ops ops.toList [] st K
inductive Ex | normal | exit (id:Nat) | ret
def azK(h:Nat->HO)(o k:Nat)(K:(Nat->HO)->Prop):Prop :=
 match h o with
 |.cells cs=>match JJ cs k with
  |.msl r n=>match h r with
   |.arr sz es=>n=es.length/\K (A0 (A0 h r (.tok sz es.length)) o (.cells (EU cs k (.slice (.id r sz) es))))
   |_=>K h
  |_=>K h
 |_=>K h
def amK(h:Nat->HO)(o k j:Nat)(K:(Nat->HO)->Prop):Prop :=
 match h o with
 |.cells cs=>match JJ cs k with
  |.msl r n=>match h r with
   |.arr sz es=>match h j with
    |.free=>n=es.length/\K (A0 (A0 (A0 h r .dead) j (.arr sz es)) o (.cells (EU cs k (.msl j n))))
    |_=>False
   |_=>False
  |_=>False
 |_=>False
def uvK(h:Nat->HO)(o k d:Nat)(K:(Nat->HO)->Prop):Prop :=
 match h o with
 |.cells cs=>match JJ cs k with
  |.slice (.ver r sz v) es=>match h r with
   |.var GV v' _=>match h d with
    |.free=>(v=v'/\sz=GV)/\K (A0 (A0 (A0 h r (.vox v)) d (.tok sz es.length)) o (.cells (EU cs k (.slice (.id d sz) es))))
    |_=>False
   |_=>False
  |_=>K h
 |_=>False
def zY(h:Nat->HO)(o k r:Nat)(K:(Nat->HO)->Prop):Prop :=
 match h o with
 |.cells cs=>match JJ cs k with
  |.slice (.id d sz) es=>match h d with
   |.tok GV n=>match h r with
    |.vox v=>(es.length=n/\sz=GV)/\K (A0 (A0 (A0 h d .dead) r (.var sz (v+1) n)) o (.cells (EU cs k (.slice (.ver r sz (v+1)) es))))
    |_=>False
   |_=>False
  |_=>K h
 |_=>False
def nvK(h:Nat->HO)(r:Nat)(K:(Nat->HO)->Prop):Prop :=
 match h r with
 |.free=>K (A0 h r (.vox 0))
 |_=>False
def zX(h:Nat->HO)(o k:Nat)(K:(Nat->HO)->Prop):Prop :=
 match h o with
 |.cells cs=>match JJ cs k with
  |.mref r=>match h r with
   |.rom sh B7=>K (A0 h o (.cells (EU cs k (.cmap sh B7))))
   |_=>False
  |_=>False
 |_=>False
def zaK(h:Nat->HO)(o k j sz:Nat)(K:(Nat->HO)->Prop):Prop :=
 match h o with
 |.cells cs=>match JJ cs k with
  |.v (.slice none 0 0)=>match h j with
   |.free=>K (A0 (A0 h j (.arr sz [])) o (.cells (EU cs k (.msl j 0))))
   |_=>False
  |_=>False
 |_=>False
def fz0(id:Nat)(h:Nat->HO)(K:(Nat->HO)->Prop):Prop :=
 match G6 cx.pl.ak (850000+id)with
 |some v=>K (kZ h v)
 |none=>K h
def zW(id:Nat)(h:Nat->HO)(K:(Nat->HO)->Prop):Prop :=
 match G6 cx.pl.ak (800000+id)with
 |some v=>zX h (v % 10000) (v / 10000 % 100) K
 |none=>K h
def ye(id:Nat)(h:Nat->HO)(K:(Nat->HO)->Prop):Prop :=
 match G6 cx.pl.ak (810000+id)with
 |some v=>zX h (v % 10000) (v / 10000 % 100) K
 |none=>K h
def vO(id:Nat)(h:Nat->HO)(K:(Nat->HO)->Prop):Prop :=
 match G6 cx.pl.ak (900000+id)with
 |some v=>zaK h (v % 10000) (v / 10000 % 100) (v / 1000000 % 10000) (v / 10000000000) K
 |none=>K h
def hoK(h:Nat->HO)(r:Nat)(K:(Nat->HO)->Prop):Prop :=
 match h r with
 |.hol sz es i c (.msl j m)=>match Nat.beq r j with
  |true=>False
  |false=>match h j with
   |.arr fN qs=>m=qs.length/\∃cs,es[i]?=some cs/\c<sz/\K (A0 (A0 (A0 h j (.tok fN qs.length)) j .dead) r (.arr sz (es.set i (over cs c [.slice .none qs]))))
   |_=>False
 |_=>False
def uB(id:Nat)(h:Nat->HO)(K:(Nat->HO)->Prop):Prop :=
 match G6 cx.pl.ak (500000+id)with
 |some v=>uvK h (v % 10000) (v / 10000 % 100) (v / 1000000) K
 |none=>match G6 cx.pl.ak (600000+id)with
  |some v=>zY h (v % 10000) (v / 10000 % 100) (v / 1000000) K
  |none=>match G6 cx.pl.ak (700000+id)with
   |some v=>nvK h v K
   |none=>match G6 cx.pl.ak (950000+id)with
    |some v=>hoK h v K
    |none=>fz0 cx id h fun h=>zW cx id h fun h=>ye cx id h fun h=>vO cx id h K
def asK(st:St)(s k:Nat)(K:St->Prop):Prop :=
 match st.t s with
 |.msl r n=>match st.h r with
  |.arr sz es=>match k with
   |0=>n=es.length/\K ⟨HG st.t s (.slice .none es),A0 (A0 st.h r (.tok sz es.length)) r .dead⟩
   |k+1=>match Nat.beq r (k+1)with
    |true=>K st
    |false=>match st.h (k+1)with
     |.free=>n=es.length/\K ⟨HG st.t s (.msl (k+1) n),A0 (A0 st.h r .dead) (k+1) (.arr sz es)⟩
     |_=>False
  |_=>K st
 |_=>K st
def wy(id:Nat)(st:St)(K:St->Prop):Prop :=
 match Jk cx.pl.cut id with
 |true=>match G6 cx.pl.ak (100000+id)with
  |none=>match G6 cx.pl.ak (200000+id)with
   |none=>match G6 cx.pl.ak (300000+id)with
    |none=>uB cx id st.h fun h'=>∃s:LS,St.le cx ⟨st.t,h'⟩ s/\K s.st
    |some v=>amK st.h (v % 10000) (v / 10000 % 100) (v / 1000000) fun h'=>∃s:LS,St.le cx ⟨st.t,h'⟩ s/\K s.st
   |some v=>asK st (v % 1000) (v / 1000) fun Et=>∃s:LS,St.le cx Et s/\K s.st
  |some v=>azK st.h (v % 1000) (v / 1000) fun h'=>∃s:LS,St.le cx ⟨st.t,h'⟩ s/\K s.st
 |false=>K st
def SC(cx:Cx)(c:Code)(Q:Ex->St->Prop)(st:St):Prop :=
 match c with
 |.skip=>Q .normal st
 |.label _=>Q .normal st
 |.region id ops dr=>wy cx id st fun st=>match cx.pl.dyn with
  | []=>Nj cx ops dr st (Q .normal)
  |_=>∃n,Nj { cx with nid:=n } ops dr st (Q .normal)
 |.seq a b=>SC cx a (fun e Et=>match e with |.normal=>SC cx b Q Et |e=>Q e Et) st
 |.cond c a b=>match ev st.t c with
  |.v (.bool true)=>SC cx a Q st
  |.v (.bool false)=>SC cx b Q st
  |_=>False
 |.block id c=>SC cx c (fun e Et=>match e with |.exit j=>(bif Nat.beq j id then Q .normal Et else Q (.exit j) Et) |e=>Q e Et) st
 |.loop c=>∃(α:Type) (I:α->LS) (μ:α->Nat),(∃x,St.le cx st (I x)) /\
   ∀x,SC cx c (fun e Et=>match e with | .normal=>∃y,μ y<μ x/\St.le cx Et (I y) | e=>Q e Et) (I x).st
 |.exit id=>Q (.exit id) st
 |.ret=>Q .ret st
 |_=>False
def Pw:List AV->Nat->AV
 | [],_=>.v undef
 |a::r,n=>match n with |0=>a |n+1=>Pw r n
def qi(T:GU)(st:St):List ResultVar->(List AV->Prop)->Prop
 | [],K=>K []
 |.tmp i::r,K=>qi T st r fun l=>K (str st.h (st.t i)::l)
 |.cell a t::r,K=>IK T st.h t (st.t a) fun v=>qi T st r fun l=>K (str st.h v::l)
def qg(st:St)(rs:List ResultVar)(K:AV->Prop):Prop :=
 qi cx.T ⟨st.t,PM st.h cx.pl.fin⟩ rs fun
  | [v]=>K v
  |vs=>K (.tup vs)
def s5(rs:List ResultVar)(K:AV->Prop)(e:Ex)(st:St):Prop :=
 match e with
 |.normal=>qg cx st rs K
 |.ret=>qg cx st rs K
 |.exit _=>False
def qj(T:GU)(st:St):List ResultVar->(List AV->Prop)->Prop
 | [],K=>K []
 |.tmp i::r,K=>qj T st r fun l=>K (st.t i::l)
 |.cell a t::r,K=>IK T st.h t (st.t a) fun v=>qj T st r fun l=>K (v::l)
def iV(st:St)(rs:List ResultVar)(σ:JA)(Q:AV->(Nat->HO)->Prop):Prop :=
 qj cx.T ⟨st.t,PM st.h cx.pl.fin⟩ rs fun
  | [v]=>Q (ren (CC σ) (PM st.h cx.pl.fin) v) (FO σ (PM st.h cx.pl.fin))
  |vs=>Q (ren (CC σ) (PM st.h cx.pl.fin) (.tup vs)) (FO σ (PM st.h cx.pl.fin))
def Zx(rs:List ResultVar)(σ:JA)(Q:AV->(Nat->HO)->Prop)(e:Ex)(st:St):Prop :=
 match e with
 |.normal=>iV cx st rs σ Q
 |.ret=>iV cx st rs σ Q
 |.exit _=>False
def I3(σ:JA):List (Nat×HO)->Bool
 | []=>true
 |(i,_)::r=>Nat.ble 1000 i&&Nat.blt i 2000&&(match CC σ i with |some j=>Nat.beq j i |none=>false)&&I3 σ r
theorem yN{n m:Nat}{b:Prop}(k:b)(h:n <= m := by exact Gq rfl):n <= m /\ b := ⟨h,k⟩
abbrev nzA:AV := .v (.slice none 0 0)
abbrev pC(a c:List Nat):SB := ⟨a,[],[],[],[],[],[],[],[],[],c⟩
abbrev pT(a:List Nat)(b:List (Nat×Nat))(c:List Nat):SB := ⟨a,b,[],[],[],[],[],[],[],[],c⟩
end Go.Eng
