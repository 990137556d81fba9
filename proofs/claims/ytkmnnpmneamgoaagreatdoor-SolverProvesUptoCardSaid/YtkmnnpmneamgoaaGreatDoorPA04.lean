/- Lemmas 4. -/
import Derived.Test.YtkmnnpmneamgoaaGreatDoorPA00
import Derived.WalkKit
import Derived.Still
import Derived.RangeFuncSeq
import Derived.OrdersIn
import Derived.TacticsIn
namespace Go.Eng
variable {vs:Array Value}{E:TypeId}(op:BinOp)(f:Nat->Option Nat)(o:Oper)
theorem aa3{p:Prop}(h:p:=by kernel_rfl):p:=h
theorem A0a{A:Type}{x:Option A}{a b:A}(h:x=some a)(k:a=b:=by kernel_rfl):x=some b:=h.trans (congrArg some k)
inductive Tk | none | full (sz:Nat) | id (r sz:Nat) | ver (r sz v:Nat)
inductive KS | int (k:IntKind) | str | bool
structure EL where
 agg:Bool
 l:List KS
variable (sh:EL)
inductive AV
 |v (x:Value)
 |slice (tk:Tk) (es:List (List AV))
 |msl (r n:Nat)
 |agg (cs:List AV)
 |tup (vs:List AV)
 |cptr (cs:List AV)
 |ref (r off:Nat)
 |eref (r n sz i off:Nat)
 |mref (r:Nat)
 |cmap (sh:EL) (BV:List (Value×AV))
 |clo (f:Nat) (caps:List AV)
 |junk
variable (x:AV)(K:AV->Prop)
inductive HO
 |free
 |dead
 |cells (cs:List AV)
 |ro (cs:List AV)
 |tok (sz n:Nat)
 |var (sz v n:Nat)
 |vox (v:Nat)
 |arr (sz:Nat) (es:List (List AV))
 |map (sh:EL) (BV:List (Value×AV))
 |mapU (sh:EL) (BV:List (Value×AV))
 |rom (sh:EL) (BV:List (Value×AV))
 |iter (all rem:List (Value×AV)) (Ej:Option (Value×AV))
 |raw (b:Nat) (ob:Obj)
 |hol (sz:Nat) (es:List (List AV)) (i c:Nat) (a:AV)
 |bld (x:AV)
 |bbf (n:Nat)
structure St where
 t:Nat->AV
 h:Nat->HO
def Ae:Nat->HO:=fun _=>.free
def AC(h:Nat->HO)(r:Nat)(o:HO):Nat->HO:=fun i=>bif Nat.beq i r then o else h i
def JJ(t:Nat->AV)(d:Nat)(v:AV):Nat->AV:=fun i=>bif Nat.beq i d then v else t i
def St.put(st:St)(d:Option Nat)(v:AV)(h:Nat->HO):St:=
 match d with
 |none=>⟨st.t,h⟩
 |some d=>⟨JJ st.t d v,h⟩
def ev(t:Nat->AV):Operand->AV
 |.tmp i=>t i
 |.const v=>.v v
 |.global g=>.v (.pointer (some ⟨g,0,none⟩))
 |.func f=>.v (.func (.func f) #[] #[])
inductive TD
 |int (k:IntKind) |bool |string |slice (e:Nat) |array (n e:Nat) |struct (fs:List (Nat×Nat)) |ptr (e:Nat) |map (k e:Nat) |func |iface |other
structure TI where
 d:TD
 size:Nat
 bytes:Nat
 zero:Value
 eqok:Bool
def TI.zc(i:TI):List Value:=match i.zero with | .agg cs=>cs.toList | v=>[v]
abbrev G0:=Nat->TI
structure Md where
 frz:List Nat
 tok:List (Nat×Nat)
 arr:List (Nat×Nat)
 fz:List (Nat×List Nat)
 fin:List Nat
 mku:List Nat
 dyn:List Nat
 tz:List (Nat×(Nat×Nat×Nat×Nat))
 dc:List (Nat×Nat)
 ak:List (Nat×Nat)
 cut:List Nat
def IS(l:List Nat)(n:Nat):Bool:=
 match l with
 | []=>false
 |x::r=>bif Nat.beq x n then true else IS r n
def Es(l:List (Nat×Nat))(n:Nat):Option Nat:=
 match l with
 | []=>none
 |(x,y)::r=>bif Nat.beq x n then some y else Es r n
def str0(h:Nat->HO):AV->AV
 |.slice _ es=>.slice .none es
 |.ref r off=>match h r with |.ro cs=>.cptr (cs.drop off) |_=>.junk
 |.mref r=>match h r with |.rom sh BV=>.cmap sh BV |_=>.junk
 |.v x=>.v x
 |.cptr cs=>.cptr cs
 |.cmap s m=>.cmap s m
 |_=>.junk
def str(h:Nat->HO):AV->AV
 |.agg cs=>.agg (cs.map (str0 h))
 |.clo f cs=>.clo f (cs.map (str0 h))
 |a=>str0 h a
def Sb(h:Nat->HO)(BV:List (Value×AV)):List (Value×AV):=BV.map fun p=>(p.1,str h p.2)
def kK(h:Nat->HO)(r:Nat):Nat->HO:=
 match h r with
 |.cells cs=>AC h r (.ro (cs.map (str h)))
 |.map sh BV=>AC h r (.rom sh BV)
 |.mapU sh BV=>AC h r (.rom sh (Sb h BV))
 |_=>h
def Nw(h:Nat->HO):List Nat->Nat->HO
 | []=>h
 |r::l=>Nw (kK h r) l
def sm(l:List (Nat×List Nat))(n:Nat):List Nat:=
 match l with
 | []=>[]
 |(x,y)::r=>bif Nat.beq x n then y else sm r n
def vR(l:List (Nat×(Nat×Nat×Nat×Nat)))(n:Nat):Option (Nat×Nat×Nat×Nat):=
 match l with
 | []=>none
 |(x,y)::r=>bif Nat.beq x n then some y else vR r n
def JB(l:List AV)(n:Nat):AV:=
 match l with
 | []=>.junk
 |x::r=>match n with |0=>x |n+1=>JB r n
def EO(cs:List AV)(o:Nat)(v:AV):List AV:=
 match cs with
 | []=>[]
 |c::cs=>match o with |0=>v::cs |o+1=>c::EO cs o v
def zQ(h:Nat->HO)(r k j sz:Nat):Nat->HO:=
 match h r with
 |.cells cs=>match JB cs k with
  |.v (.slice none 0 0)=>match h j with
   |.free=>AC (AC h j (.tok sz 0)) r (.cells (EO cs k (.slice (.id j sz) [])))
   |_=>h
  |_=>h
 |_=>h
def rsv(h:Nat->HO):AV->AV
 |.ref r off=>match h r with |.ro cs=>.cptr (cs.drop off) |_=>.ref r off
 |.mref r=>match h r with |.rom sh BV=>.cmap sh BV |_=>.mref r
 |a=>a
def one:AV->Bool
 |.v x=>x.oneCell'
 |.agg _ |.tup _ |.junk=>false
 |_=>true
def G9:List AV->Bool
 | []=>true
 |a::r=>match one a with |true=>G9 r |false=>false
def ze:AV->List AV
 |.agg cs=>cs
 |a=>[a]
def As(a:Int):Prop:=-9223372036854775808<=a/\a<9223372036854775808
def Mx(cs:List AV)(K:AV->Prop):Prop:=
 match cs with
 |a::_=>K a
 | []=>False
def IY(p:Prop)(K:AV->Prop):Prop:=(p->K (.v (.bool true)))/\(¬p->K (.v (.bool false)))
def LV(T:G0)(t:Nat)(cs:List AV)(K:AV->Prop):Prop:=
 match(T t).d with
 |.struct _=>(T t).size<=cs.length/\K (.agg (cs.take (T t).size))
 |.array _ _=>(T t).size<=cs.length/\K (.agg (cs.take (T t).size))
 |.bool=>Mx cs fun |.v (.bool b)=>(b=true->K (.v (.bool true)))/\(b=false->K (.v (.bool false))) |_=>False
 |.other=>False
 |_=>Mx cs K
def YE:List AV->List AV->Prop
 | [],[]=>True
 |.v (.int _ a)::r,.v (.int _ b)::s=>a=b/\YE r s
 |.v (.string a)::r,.v (.string b)::s=>a=b/\YE r s
 |.v (.bool a)::r,.v (.bool b)::s=>a=b/\YE r s
 |_,_=>False
def vD:IntKind->IntKind->Bool
 |.i64,.i64 |.u8,.u8 |.u32,.u32 |.i32,.i32 |.u64,.u64 |.u16,.u16 |.i16,.i16 |.i8,.i8=>true
 |_,_=>false
def N4(f:Nat->Option (List KS)):Nat->List (Nat×Nat)->Option (List KS)
 |_,[]=>some []
 |n,(t,o)::r=>match Nat.beq o n with
  |true=>match f t with
   |some a=>match N4 f (n+a.length) r with
    |some b=>some (a++b)
    |none=>none
   |none=>none
  |false=>none
def HX(T:G0):Nat->Nat->Option (List KS)
 |0,_=>none
 |n+1,t=>match(T t).d with
  |.int k=>match(T t).size with |1=>some [.int k] |_=>none
  |.string=>match(T t).size with |1=>some [.str] |_=>none
  |.bool=>match(T t).size with |1=>some [.bool] |_=>none
  |.struct fs=>match(T t).eqok with
   |true=>match N4 (HX T n) 0 fs with
    |some l=>match Nat.beq l.length (T t).size with |true=>some l |false=>none
    |none=>none
   |false=>none
  |_=>none
def NN:KS->Value->Bool
 |.int k,.int k' _=>vD k k'
 |.str,.string _=>true
 |.bool,.bool _=>true
 |_,_=>false
def Zt:List KS->List AV->Bool
 | [],[]=>true
 |k::r,.v x::s=>match NN k x with |true=>Zt r s |false=>false
 |_,_=>false
def u5(T:G0)(t:Nat)(x y:AV)(K:AV->Prop):Prop:=
 match(T t).d with
 |.bool=>match x,y with
  |.v (.bool a),.v (.bool b)=>K (.v (.bool (a == b)))
  |_,_=>False
 |.struct _=>match x,y with
  |.agg xs,.agg ys=>match HX T 8 t with
   |some l=>match Zt l xs with
    |true=>match Zt l ys with
     |true=>IY (YE xs ys) K
     |false=>False
    |false=>False
   |none=>False
  |_,_=>False
 |.slice _=>match x,y with
  |.slice _ es,.v (.slice none 0 0)=>(es≠[]->K (.v (.bool false)))/\(es=[]->K (.v (.bool true))/\K (.v (.bool false)))
  |.v (.slice none 0 0),.v (.slice none 0 0)=>K (.v (.bool true))
  |_,_=>False
 |.ptr _=>match x,y with
  |.v (.pointer none),.v (.pointer none)=>K (.v (.bool true))
  |.cptr _,.v (.pointer none)=>K (.v (.bool false))
  |.ref _ _,.v (.pointer none)=>K (.v (.bool false))
  |.eref _ _ _ _ _,.v (.pointer none)=>K (.v (.bool false))
  |_,_=>False
 |_=>False
def iy:AV->Prop
 |.v (.bool true)=>K (.v (.bool false))
 |.v (.bool false)=>K (.v (.bool true))
 |_=>False
def VI(k:IntKind)(a b:Int):Int:=
 match op with
 |.and=>k.wrap (BitVec.ofInt k.bits a &&& BitVec.ofInt k.bits b).toNat
 |.or=>k.wrap (BitVec.ofInt k.bits a |||BitVec.ofInt k.bits b).toNat
 |_=>k.wrap (BitVec.ofInt k.bits a ^^^ BitVec.ofInt k.bits b).toNat
def qZ(k:IntKind)(a b:Int):Int:=
 match op with
 |.shl=>k.wrap (a*2 ^ min b.toNat k.bits)
 |_=>a.fdiv (2 ^ min b.toNat k.bits)
def UM(k:IntKind)(a b:Int)(K:AV->Prop):Prop:=
 match op with
 |.shl=>0<=b/\K (.v (.int k (qZ .shl k a b)))
 |.shr=>0<=b/\K (.v (.int k (qZ .shr k a b)))
 |_=>False
def W0(k:IntKind)(a b:Int)(K:AV->Prop):Prop:=
 match op with
 |.quo=>(0<=a/\0<b/\k.wrap (a / b)=a / b)/\K (.v (.int k (a / b)))
 |.rem=>(0<=a/\0<b)/\K (.v (.int k (a % b)))
 |.and=>K (.v (.int k (VI .and k a b)))
 |.or=>K (.v (.int k (VI .or k a b)))
 |.xor=>K (.v (.int k (VI .xor k a b)))
 |.add=>K (.v (.int k (k.wrap (a+b))))
 |.sub=>K (.v (.int k (k.wrap (a-b))))
 |.mul=>K (.v (.int k (k.wrap (a*b))))
 |op=>UM op k a b K
def SJ(k:IntKind)(a b:Int)(K:AV->Prop):Prop:=
 match k with
 |.i64=>match op with
  |.add=>As (a+b)/\K (.v (.int .i64 (a+b)))
  |.sub=>As (a-b)/\K (.v (.int .i64 (a-b)))
  |.mul=>As (a*b)/\K (.v (.int .i64 (a*b)))
  |.quo=>(0<=a/\0<b/\As a)/\K (.v (.int .i64 (a / b)))
  |.rem=>(0<=a/\0<b)/\K (.v (.int .i64 (a % b)))
  |op=>W0 op .i64 a b K
 |k=>W0 op k a b K
def SL(T:G0)(op:BinOp)(t:Nat)(x y:AV)(K:AV->Prop):Prop:=
 match x,y with
 |.v (.int k a),.v (.int k' b)=>match vD k k' with
  |false=>UM op k a b K
  |true=>match op with
   |.eql=>IY (a=b) K
   |.neq=>IY (a≠b) K
   |.lss=>IY (a<b) K
   |.leq=>IY (a<=b) K
   |.gtr=>IY (b<a) K
   |.geq=>IY (b<=a) K
   |op=>SJ op k a b K
 |.v (.string a),.v (.string b)=>match op with
   |.eql=>IY (a=b) K
   |.neq=>IY (a≠b) K
   |.lss=>IY (Op.bytesLess a.toList b.toList=true) K
   |.geq=>IY (Op.bytesLess a.toList b.toList=false) K
   |.gtr=>IY (Op.bytesLess b.toList a.toList=true) K
   |.leq=>IY (Op.bytesLess b.toList a.toList=false) K
   |.add=>((a.size+b.size:Nat):Int)<=9223372036854775807/\K (.v (.string (a++b)))
   |_=>False
 |x,y=>match op with
  |.eql=>u5 T t x y K
  |.neq=>u5 T t x y (iy K)
  |_=>False
def Ym(T:G0)(op:BinOp)(t:Nat)(Y:Operand)(x y:AV)(K:AV->Prop):Prop:=
 match Y with
 |.const .nilIface=>match x with
  |.v .nilIface=>match(T t).d with
   |.iface=>match op with
    |.eql=>K (.v (.bool true))
    |.neq=>K (.v (.bool false))
    |_=>False
   |_=>False
  |_=>False
 |_=>SL T op t x y K
def VR(T:G0)(s t:Nat)(x:AV)(K:AV->Prop):Prop:=
 match(T s).d,(T t).d,x with
 |.int _,.int .i64,.v (.int _ n)=>As n/\K (.v (.int .i64 n))
 |.int _,.int k,.v (.int _ n)=>K (.v (.int k (k.wrap n)))
 |.string,.string,.v (.string s)=>K (.v (.string s))
 |.slice e,.string,.slice _ es=>match(T e).d with
  |.int .u8=>∃l:List UInt8,es=l.map (fun b=>[AV.v (.int .u8 b.toNat)])/\K (.v (.string ⟨l.toArray⟩))
  |_=>False
 |_,_,_=>False
def Xl(fs:List (Nat×Nat))(n:Nat):Option (Nat×Nat):=
 match fs with
 | []=>none
 |x::r=>match n with |0=>some x |n+1=>Xl r n
def Tl(T:G0)(s f:Nat)(x:AV)(K:AV->Prop):Prop:=
 match(T s).d with
 |.struct fs=>match Xl fs f with
  |some (t,o)=>match(T t).size with
   |0=>False
   |_+1=>match x with
    |.cptr cs=>K (.cptr (cs.drop o))
    |.ref r off=>K (.ref r (off+o))
    |.eref r n z i off=>K (.eref r n z i (off+o))
    |_=>False
  |none=>False
 |_=>False
def ZY(T:G0)(t:Nat)(cs:List AV)(K:AV->Prop):Prop:=LV T t cs K
def O5(T:G0)(s f:Nat)(x:AV)(K:AV->Prop):Prop:=
 match(T s).d,x with
 |.struct fs,.agg cs=>match Xl fs f with
  |some (t,o)=>ZY T t (cs.drop o) K
  |none=>False
 |_,_=>False
def Ju(T:G0)(t:Nat)(x ix:AV)(K:AV->Prop):Prop:=
 match(T t).d,ix with
 |.slice e,.v (.int .i64 i)=>match(T e).size with
  |0=>False
  |_+1=>match x with
   |.slice _ es=>∃cs,(0<=i/\es[i.toNat]?=some cs)/\cs.length=(T e).size/\K (.cptr cs)
   |.msl r n=>(0<=i/\i<n)/\K (.eref r n (T e).size i.toNat 0)
   |_=>False
 |.array n e,.v (.int .i64 i)=>match(T e).size with
  |0=>False
  |_+1=>match x with
   |.cptr cs=>(0<=i/\i<n)/\K (.cptr (cs.drop (i.toNat*(T e).size)))
   |.ref r off=>(0<=i/\i<n)/\K (.ref r (off+i.toNat*(T e).size))
   |_=>False
 |_,_=>False
def TU(T:G0)(t:Nat)(x ix:AV)(K:AV->Prop):Prop:=
 match(T t).d,x,ix with
 |.string,.v (.string s),.v (.int _ i)=>∃b:UInt8,(0<=i/\s.data[i.toNat]?=some b)/\K (.v (.int .u8 b.toNat))
 |.array n e,.agg cs,.v (.int .i64 i)=>(0<=i/\i<n)/\ZY T e (cs.drop (i.toNat*(T e).size)) K
 |_,_,_=>False
def CJ(t:Nat->AV):Option Operand->Option (Option Int)
 |none=>some none
 |some x=>match ev t x with |.v (.int .i64 i)=>some (some i) |_=>none
def over{α:Type}(cs:List α)(o:Nat)(vs:List α):List α:=
 match cs with
 | []=>[]
 |c::cs=>match o with
  |o+1=>c::over cs o vs
  |0=>match vs with
   | []=>c::cs
   |v::vs=>v::over cs 0 vs
structure Gh where
 ρ:Nat->Value
 ln:Nat->Nat
 tk:Nat->Bool
 own:Nat->Option Nat
 S:Nat->Nat->Prop
def JO:List KS->List Value->Bool
 | [],[]=>true
 |k::r,v::s=>match NN k v with |true=>JO r s |false=>false
 |_,_=>false
def XV(v:Value):Bool:=
 match sh.agg,v with
 |true,.agg cs=>JO sh.l cs.toList
 |false,v=>JO sh.l [v]
 |_,_=>false
def Hx(es:Array MapEntry)(ck:Nat)(BV:List (Value×AV)):Prop:=
 es.size=BV.length/\(∀(i:Nat) (kv:Value×AV) (e:MapEntry),BV[i]?=some kv->es[i]?=some e->e.key=kv.1) /\
 (∀kv∈BV,XV sh kv.1=true)/\(BV.map (·.1)).Nodup/\(∀(i:Nat) (e:MapEntry),es[i]?=some e->e.born<ck) /\
 ∀(i j:Nat) (e e' : MapEntry),es[i]?=some e->es[j]?=some e'->e.born=e'.born->i=j
inductive AY(g:Gh)(w:World):(Nat->Prop)->AV->Value->Prop
 |v (U:Nat->Prop) (x:Value):AY g w U (.v x) x
 |junk (U:Nat->Prop) (x:Value):AY g w U .junk x
 |snil (U:Nat->Prop) (a:Option Addr) (cap:Nat):AY g w U (.slice .none []) (.slice a 0 cap)
 |slice (U:Nat->Prop) (es:List (List AV)) (b off sz cap:Nat) (val:Nat->Nat->Value) (hc:es.length<=cap)
   (hl:∀(i:Nat) (cs:List AV),es[i]?=some cs->cs.length=sz)
   (CT:∀(i:Nat) (cs:List AV) (j:Nat) (av:AV),es[i]?=some cs->cs[j]?=some av ->
    g.S b (off+i*sz+j)/\w.cell? ⟨b,off+i*sz+j,none⟩=some (val i j)/\(val i j).oneCell'=true)
   (Ef:∀(i:Nat) (cs:List AV) (j:Nat) (av:AV),es[i]?=some cs->cs[j]?=some av->AY g w (fun _=>False) av (val i j)) :
   AY g w U (.slice .none es) (.slice (some ⟨b,off,none⟩) es.length cap)
 |tok (U:Nat->Prop) (r sz:Nat) (es:List (List AV)) (x:Value) (h:AY g w U (.slice .none es) x) (hl:∀c∈es,c.length=sz) (hu:U r) (ht:g.tk r=true) (hn:es.length<=g.ln r)
   (hx:es.length=g.ln r->x=g.ρ r):AY g w U (.slice (.id r sz) es) x
 |ver (U:Nat->Prop) (r sz v:Nat) (es:List (List AV)) (x:Value) (h:AY g w U (.slice .none es) x) (hl:∀c∈es,c.length=sz) (hu:U r) (ht:g.tk r=true) (hn:v<=g.ln r)
   (hx:v=g.ln r->x=g.ρ r):AY g w U (.slice (.ver r sz v) es) x
 |full (U:Nat->Prop) (sz:Nat) (es:List (List AV)) (x:Value) (h:AY g w U (.slice .none es) x) (hl:∀c∈es,c.length=sz) (hx:∃a,x=.slice a es.length es.length):AY g w U (.slice (.full sz) es) x
 |msl (U:Nat->Prop) (r n:Nat) (a:Option Addr) (cap:Nat) (hu:U r) (ht:g.tk r=true) (hn:n<=g.ln r) (ha:n=0\/∃b,a=some ⟨b,0,none⟩) (hx:n=g.ln r->.slice a n cap=g.ρ r) :
   AY g w U (.msl r n) (.slice a n cap)
 |agg (U:Nat->Prop) (cs:List AV) (vs:Array Value) (hs:vs.size=cs.length) (h1:∀(i:Nat) (x:Value),vs[i]?=some x->x.oneCell'=true)
   (h:∀(i:Nat) (av:AV) (x:Value),cs[i]?=some av->vs[i]?=some x->AY g w U av x):AY g w U (.agg cs) (.agg vs)
 |tup (U:Nat->Prop) (cs:List AV) (vs:Array Value) (hs:vs.size=cs.length)
   (h:∀(i:Nat) (av:AV) (x:Value),cs[i]?=some av->vs[i]?=some x->AY g w U av x):AY g w U (.tup cs) (.tuple vs)
 |cptr (U:Nat->Prop) (cs:List AV) (b off:Nat) (val:Nat->Value)
   (CT:∀(j:Nat) (av:AV),cs[j]?=some av->g.S b (off+j)/\w.cell? ⟨b,off+j,none⟩=some (val j)/\(val j).oneCell'=true)
   (Ef:∀(j:Nat) (av:AV),cs[j]?=some av->AY g w (fun _=>False) av (val j)) :
   AY g w U (.cptr cs) (.pointer (some ⟨b,off,none⟩))
 |ref (U:Nat->Prop) (r off b:Nat) (hu:U r) (ht:g.tk r=false) (hx:g.ρ r=.pointer (some ⟨b,0,none⟩)):AY g w U (.ref r off) (.pointer (some ⟨b,off,none⟩))
 |eref (U:Nat->Prop) (r n sz i off b cap:Nat) (hu:U r) (ht:g.tk r=true) (hn:i<n/\n<=g.ln r) (hx:n=g.ln r->g.ρ r=.slice (some ⟨b,0,none⟩) n cap) :
   AY g w U (.eref r n sz i off) (.pointer (some ⟨b,i*sz+off,none⟩))
 |mref (U:Nat->Prop) (r b:Nat) (hu:U r) (ht:g.tk r=false) (hx:g.ρ r=.map (some b)):AY g w U (.mref r) (.map (some b))
 |cmap (U:Nat->Prop) (sh:EL) (BV:List (Value×AV)) (b:Nat) (es:Array MapEntry) (ck:Nat) (hS:g.S b 0) (hb:w.heap[b]?=some (.map es ck)) (hm:Hx sh es ck BV)
   (h:∀(i:Nat) (kv:Value×AV) (e:MapEntry),BV[i]?=some kv->es[i]?=some e->AY g w (fun _=>False) kv.2 e.val):AY g w U (.cmap sh BV) (.map (some b))
 |clo (U:Nat->Prop) (f:Nat) (cs:List AV) (vs:Array Value) (hs:vs.size=cs.length)
   (h:∀(i:Nat) (av:AV) (x:Value),cs[i]?=some av->vs[i]?=some x->AY g w U av x):AY g w U (.clo f cs) (.func (.func f) #[] vs)
def HO.live:HO->Prop
 |.free |.dead |.vox _ |.ro _ |.rom _ _=>False
 |_=>True
def Az(h:Nat->HO)(r:Nat):Prop:=h r≠.free
def Fs:Nat->Prop:=fun _=>False
def Ca(g:Gh)(w:World)(U:Nat->Prop)(cs:List AV)(vs:List Value):Prop:=
 vs.length=cs.length/\(∀x∈vs,x.oneCell'=true)/\∀(i:Nat) (av:AV) (x:Value),cs[i]?=some av->vs[i]?=some x->AY g w U av x
def L5:List Nat->Code->Bool
 |bs,.block id c=>L5 (id::bs) c
 |bs,.seq a b=>L5 bs a||L5 bs b
 |bs,.cond _ a b=>L5 bs a||L5 bs b
 |bs,.loop c=>L5 bs c
 |bs,.exit id=>!(bs.any fun i=>Nat.beq i id)
 |_,_=>false
def so:Obj->Bool
 |.loop r=>L5 [] r.body
 |_=>false
def Rf(w:World)(b:Nat)(vs:Array Value)(E:TypeId):Prop:=∃f:Nat×Nat,w.heap[b]?=some (.cells vs E f)/\(f=(0,0)\/vs.size<=f.1)
theorem Rf.eq{w w' : World}{b:Nat}(h:Rf w b vs E)(e:w'.heap[b]?=w.heap[b]?):Rf w' b vs E:=by
 obtain⟨f,h1,h2⟩:=h;exact⟨f,e.trans h1,h2⟩
theorem Rf.of{w:World}{b:Nat}(h:w.heap[b]?=some (.cells vs E (0,0))):Rf w b vs E:=⟨_,h,.inl rfl⟩
def Yn:Nat:=104
def u8T:Nat:=5
def DO(g:Gh)(w:World)(U:Nat->Prop)(r:Nat):HO->Prop
  |.free |.dead=>True
  |.cells cs=>g.tk r=false/\∃b E vs,g.own r=some b/\g.ρ r=.pointer (some ⟨b,0,none⟩)/\w.heap[b]?=some (.cells vs E (0,0))/\Ca g w U cs vs.toList/\∀o,¬g.S b o
  |.ro cs=>g.tk r=false/\∃b,g.ρ r=.pointer (some ⟨b,0,none⟩)/\AY g w Fs (.cptr cs) (.pointer (some ⟨b,0,none⟩))
  |.tok sz n=>g.tk r=true/\g.ln r=n/\∃a cap,g.ρ r=.slice a n cap/\(n=cap/\g.own r=none \/
      n<=cap/\∃b E vs off,a=some ⟨b,off,none⟩/\g.own r=some b/\Rf w b vs E/\vs.size=off+cap*sz/\∀o,g.S b o->o<off+n*sz)
  |.var sz v n=>g.tk r=true/\g.ln r=v/\∃a cap,g.ρ r=.slice a n cap/\(n=cap/\g.own r=none \/
      n<=cap/\∃b E vs off,a=some ⟨b,off,none⟩/\g.own r=some b/\Rf w b vs E/\vs.size=off+cap*sz/\∀o,g.S b o->o<off+n*sz)
  |.vox v=>g.tk r=true/\g.ln r=v
  |.arr sz es=>g.tk r=true/\g.ln r=es.length/\(∀cs∈es,cs.length=sz)/\(es=[]/\g.ρ r=.slice none 0 0/\g.own r=none \/
      ∃b cap E vs,g.ρ r=.slice (some ⟨b,0,none⟩) es.length cap/\g.own r=some b/\es.length<=cap/\w.heap[b]?=some (.cells vs E (0,0))/\vs.size=cap*sz /\
        Ca g w Fs es.flatten (vs.toList.take (es.length*sz))/\∀o,¬g.S b o)
  |.map sh BV=>g.tk r=false/\∃b es ck,g.own r=some b/\g.ρ r=.map (some b)/\w.heap[b]?=some (.map es ck)/\Hx sh es ck BV /\
      (∀(i:Nat) (kv:Value×AV) (e:MapEntry),BV[i]?=some kv->es[i]?=some e->AY g w Fs kv.2 e.val)/\∀o,¬g.S b o
  |.mapU sh BV=>g.tk r=false/\∃b es ck,g.own r=some b/\g.ρ r=.map (some b)/\w.heap[b]?=some (.map es ck)/\Hx sh es ck BV /\
      (∀(i:Nat) (kv:Value×AV) (e:MapEntry),BV[i]?=some kv->es[i]?=some e->AY g w U kv.2 e.val)/\∀o,¬g.S b o
  |.rom sh BV=>g.tk r=false/\∃b,g.ρ r=.map (some b)/\AY g w Fs (.cmap sh BV) (.map (some b))
  |.iter all rem Ej=>g.tk r=false/\∃b mb Ke seen st es ck,g.own r=some b/\g.ρ r=.pointer (some ⟨b,0,none⟩)/\w.heap[b]?=some (.mapIter (some mb) Ke seen st) /\
      g.S mb 0/\w.heap[mb]?=some (.map es ck)/\(∃sh,Hx sh es ck all)/\Ke=ck/\st=ck /\
      (∀(i:Nat) (kv:Value×AV) (e:MapEntry),all[i]?=some kv->es[i]?=some e->AY g w Fs kv.2 e.val) /\
      (rem.Nodup/\∀kv∈rem,kv∈all)/\(∀(i:Nat) (kv:Value×AV) (e:MapEntry),all[i]?=some kv->es[i]?=some e->(kv∈rem↔e.born∉seen)) /\
      (match Ej with | none=>True | some kv=>∃(i:Nat) (e:MapEntry),all[i]?=some kv/\es[i]?=some e/\seen.back?=some e.born)/\∀o,¬g.S b o
  |.hol sz es i c a=>g.tk r=true/\g.ln r=es.length/\(∀cs∈es,cs.length=sz)/\∃b cap E vs,g.ρ r=.slice (some ⟨b,0,none⟩) es.length cap/\g.own r=some b/\es.length<=cap/\w.heap[b]?=some (.cells vs E (0,0))/\vs.size=cap*sz /\
        Ca g w Fs es.flatten (vs.toList.take (es.length*sz))/\(∀o,¬g.S b o)/\i*sz+c<es.length*sz/\∃x,vs[i*sz+c]?=some x/\AY g w U a x
  |.raw b ob=>g.tk r=false/\g.own r=some b/\w.heap[b]?=some ob/\so ob=true/\∀o,¬g.S b o
  |.bld x=>g.tk r=false/\∃b p v,g.own r=some b/\g.ρ r=.pointer (some ⟨b,0,none⟩)/\w.heap[b]?=some (.cells #[p,v] Yn (0,0))/\(p=.pointer none\/p=.pointer (some ⟨b,0,none⟩))/\AY g w U x v/\∀o,¬g.S b o
  |.bbf n=>g.tk r=true/\g.ln r=n/\(n=0/\g.ρ r=.slice none 0 0/\g.own r=none\/∃b cap Ej,g.ρ r=.slice (some ⟨b,0,none⟩) n cap/\g.own r=some b/\(0<n/\n<=cap)/\cap<=maxLen/\w.heap[b]?=some (.cells Ej u8T (0,0))/\Ej.size=cap/\∀o,g.S b o->o<n)
def gB:Nat:=0
def wL:List (Nat×Nat×Option Value):=[]
def WP(g:Gh)(w:World):Prop:=(g.S gB 0/\∃m,w.cell? ⟨gB,0,none⟩=some (.int .i64 m))/\∀x∈wL,g.S x.1 x.2.1/\w.cell? ⟨x.1,x.2.1,none⟩=x.2.2
structure Cw(w0:World)(g0:Gh)(h0:Nat->HO)(h:Nat->HO)(g:Gh)(w:World):Prop where
 os:w.os=w0.os
 tape:w.tape=w0.tape
 output:w.output=w0.output
 size:w0.heap.size<=w.heap.size
 frame:∀b,b<w0.heap.size->(∀r,(h0 r).live->g0.own r≠some b)->w.heap[b]?=w0.heap[b]?
 slt:∀b o,g.S b o->b<w.heap.size
 objs:∀r,DO g w (Az h) r (h r)
 inj:∀r r' b,(h r).live->(h r').live->g.own r=some b->g.own r'=some b->r=r'
 loc:∀r b,(h r).live->g.own r=some b->b<w.heap.size/\(w0.heap.size<=b\/∃r',(h0 r').live/\g0.own r'=some b)
 sg:∀b o,g.S b o->g0.S b o\/w0.heap.size<=b\/∃r',(h0 r').live/\g0.own r'=some b
 glob:WP g w
def E9(g:Gh)(w:World)(g' : Gh)(w' : World):Prop:=
 ∀b o,g.S b o->g'.S b o/\w'.cell? ⟨b,o,none⟩=w.cell? ⟨b,o,none⟩/\∀es ck,w.heap[b]?=some (.map es ck)->w'.heap[b]?=some (.map es ck)
def Kg(g g' : Gh)(U:Nat->Prop):Prop:=
 ∀i,U i->g'.tk i=g.tk i/\g.ln i<=g'.ln i/\(g.tk i=false->g'.ρ i=g.ρ i)/\(g'.ln i=g.ln i->g'.ρ i=g.ρ i)
structure Le(h:Nat->HO)(g:Gh)(w:World)(h' : Nat->HO)(g' : Gh)(w' : World):Prop where
 gh:Kg g g' (Az h)
 us:∀i,Az h i->Az h' i
 keeps:E9 g w g' w'
def Gr (P : Program) (f : Nat) : Prop := ∃ fn, P.funcs[f]? = some fn /\ (fn.name == "runtime.NumGoroutine") = false /\ fn.body.isNone = false
def A6(P:Program)(f:Nat)(args:List AV)(h0:Nat->HO)(Q:AV->(Nat->HO)->Prop):Prop:=
 Gr P f/\∀(g:Gh) (w:World) (vals:Array Value),vals.size=args.length->(∀(i:Nat) (av:AV) (x:Value),args[i]?=some av->vals[i]?=some x->AY g w (Az h0) av x) ->
  Cw w g h0 h0 g w ->
  Calls P f vals w fun e w'=>∃v r h' g',e=.returned v/\Q r h'/\AY g' w' (Az h') r v/\Cw w g h0 h' g' w'/\Le h0 g w h' g' w'
def LM(P:Program)(f:Nat)(args:List AV)(res:AV):Prop:=A6 P f args Ae fun r h'=>r=res/\h'=Ae
def G6(P:Program)(Y:Gh->World->Prop)(l:Nat)(args:List AV)(h0:Nat->HO)(Q:AV->(Nat->HO)->Prop):Prop:=
 ∀(g:Gh) (w:World) (vals:Array Value),vals.size=args.length->(∀(i:Nat) (av:AV) (x:Value),args[i]?=some av->vals[i]?=some x->AY g w (Az h0) av x) ->
  Cw w g h0 h0 g w->Y g w ->
  YieldAt Fence.wide 0 P l vals w fun e w'=>∃v r h' g',e=.returned v/\Q r h'/\AY g' w' (Az h') r v/\Cw w g h0 h' g' w'/\Le h0 g w h' g' w'
def FZ(P:Program)(Y:Gh->World->Prop)(f:Nat)(args:List AV)(h0:Nat->HO)(Q:AV->(Nat->HO)->Prop):Prop:=
 Gr P f/\∀(g:Gh) (w:World) (vals:Array Value),vals.size=args.length->(∀(i:Nat) (av:AV) (x:Value),args[i]?=some av->vals[i]?=some x->AY g w (Az h0) av x) ->
  Cw w g h0 h0 g w->Y g w ->
  Calls P f vals w fun e w'=>∃v r h' g',e=.returned v/\Q r h'/\AY g' w' (Az h') r v/\Cw w g h0 h' g' w'/\Le h0 g w h' g' w'
def Gq(P:Program)(Y:Nat->Gh->World->Prop)(F:AV)(args:List AV)(h:Nat->HO)(Q:AV->(Nat->HO)->Prop):Prop:=
 match F with
 |.v (.func (.func f) ⟨[]⟩ ⟨[]⟩)=>A6 P f args h Q
 |.clo f caps=>A6 P f (args++caps) h Q
 |.v (.func (.yield l) ⟨[]⟩ ⟨[]⟩)=>G6 P (Y l) l args h Q
 |_=>False
def PV(P:Program)(F:AV)(args:List AV)(res:AV):Prop:=
 match F with
 |.v (.func (.func f) ⟨[]⟩ ⟨[]⟩)=>LM P f args res
 |.clo f caps=>LM P f (args++caps) res
 |_=>False
structure Cx where
 P:Program
 T:G0
 pl:Md
 ext:Bool
 nid:Nat
 yp:Nat->List (Nat×Nat)->Gh->World->Prop
variable (cx:Cx)
def Kk(d:Nat):Nat:=bif IS cx.pl.dyn d then cx.nid else d
abbrev HK:=AV->(Nat->HO)->Prop
def SH(T:G0)(d:Option Nat)(h:Nat->HO)(e:Nat)(K:HK):Prop:=
 match d with
 |none=>False
 |some d=>match h d with
  |.free=>match(T e).d with
   |.other=>False
   |_=>match Nat.beq e Yn with
    |true=>match h 1001,Nat.beq d 1001,(T e).zc with
     |.free,false,[.pointer none,.slice none 0 0]=>K (.ref d 0) (AC (AC h 1001 (.bbf 0)) d (.bld (.slice (.id 1001 1) [])))
     |_,_,_=>False
    |false=>match G9 ((T e).zc.map .v)with
     |true=>K (.ref d 0) (AC h d (.cells ((T e).zc.map .v)))
     |false=>False
  |_=>False
def Hr(n:Nat)(a:AV)(K:List AV->Prop):Prop:=
 match a with
 |.agg cs=>match Nat.beq cs.length n with
  |true=>K cs
  |false=>False
 |a=>match one a with
  |true=>match n with
   |1=>K [a]
   |_=>False
  |false=>False
def fO(d:Option Nat)(h:Nat->HO)(e:Nat)(x:AV)(K:HK):Prop:=
 match d with
 |none=>False
 |some d=>match h d with
  |.free=>match(cx.T e).d with
   |.other=>False
   |_=>Hr (cx.T e).size x fun cs=>match IS cx.pl.frz d with
    |true=>K (.ref d 0) (AC h d (.ro (cs.map (str h))))
    |false=>K (.ref d 0) (AC h d (.cells cs))
  |_=>False
def OE(h:Nat->HO)(t:Nat)(p x:AV)(K:HK):Prop:=
 match(cx.T t).d with
 |.other=>False
 |_=>Hr (cx.T t).size x fun vs=>match p with
  |.ref r off=>match h r with
   |.cells cs=>off+vs.length<=cs.length/\(match IS cx.pl.frz r with
    |true=>K (.v undef) (AC h r (.ro ((over cs off vs).map (str h))))
    |false=>K (.v undef) (AC h r (.cells (over cs off vs))))
   |_=>False
  |.eref r n sz i off=>match h r with
   |.arr HM es=>match Nat.beq sz HM with
    |true=>n=es.length/\∃cs,es[i]?=some cs/\off+vs.length<=sz/\(match vs with
     | [.msl j m]=>K (.v undef) (AC h r (.hol sz (es.set i (over cs off [.junk])) i off (.msl j m)))
     |_=>K (.v undef) (AC h r (.arr sz (es.set i (over cs off (vs.map (str h)))))))
    |false=>False
   |_=>False
  |_=>False
def Jw(T:G0)(h:Nat->HO)(t:Nat)(p:AV)(K:AV->Prop):Prop:=
 match p with
 |.cptr cs=>LV T t cs K
 |.ref r off=>match h r with
  |.cells cs=>LV T t (cs.drop off) K
  |.ro cs=>LV T t (cs.drop off) K
  |_=>False
 |.eref r n sz i off=>match h r with
  |.arr HM es=>match Nat.beq sz HM with
   |true=>n=es.length/\∃cs,es[i]?=some cs/\LV T t (cs.drop off) K
   |false=>False
  |.hol HM es i' c a=>match Nat.beq sz HM with
   |true=>(n=es.length/\i=i'/\off=c)/\LV T t [a] K
   |false=>False
  |_=>False
 |_=>False
def KE(pl:Nat->Option (Nat×Nat))(cs:List AV)(t:Nat->AV)(ps:List (Nat×Operand))(K:List AV->Prop):Prop:=
 match ps with
 | []=>K cs
 |(i,x)::r=>match pl i with
  |none=>False
  |some (o,n)=>Hr n (ev t x) fun vs=>match Nat.ble (o+n) cs.length with
   |true=>KE pl (over cs o vs) t r K
   |false=>False
def OO(T:G0):List (Nat×Nat)->Bool
 | []=>true
 |(t,_)::r=>match(T t).size with |0=>false |_+1=>OO T r
def PZ(T:G0)(ty:Nat)(t:Nat->AV)(ps:List (Nat×Operand))(K:AV->Prop):Prop:=
 match G9 ((T ty).zc.map .v)with
 |false=>False
 |true=>match(T ty).d with
  |.struct fs=>match OO T fs with
   |false=>False
   |true=>KE (fun i=>match Xl fs i with |some (t,o)=>some (o,(T t).size) |none=>none) ((T ty).zc.map .v) t ps fun cs=>K (.agg cs)
  |.array _ e=>match(T e).size with
   |0=>False
   |_+1=>KE (fun i=>some (i*(T e).size,(T e).size)) ((T ty).zc.map .v) t ps fun cs=>K (.agg cs)
  |_=>False
def Rr(n sz:Nat)(h:Nat->HO)(es:List (List AV))(t:Nat->AV)(ps:List (Nat×Operand))(K:List (List AV)->Prop):Prop:=
 match ps with
 | []=>K es
 |(i,x)::r=>match Nat.blt i n with
  |true=>Hr sz (ev t x) fun vs=>Rr n sz h (es.set i (vs.map (str h))) t r K
  |false=>False
abbrev K7(b:ByteArray):List (List AV):=b.data.toList.map fun c=>[AV.v (.int .u8 c.toNat)]
def bq(d:Option Nat)(h:Nat->HO)(s t:Nat)(x:AV)(K:HK):Prop:=
 match(cx.T s).d,(cx.T t).d,x with
 |.string,.slice e,.v (.string b)=>match(cx.T e).d,d with
  |.int .u8,some d=>match h (Kk cx d)with
   |.free=>K (.slice (.id (Kk cx d) 1) (K7 b)) (AC h (Kk cx d) (.tok 1 (K7 b).length))
   |_=>False
  |_,_=>False
 |_,_,_=>VR cx.T s t x fun v=>K v h
def E8(d:Option Nat)(h:Nat->HO)(sz:Nat)(es:List (List AV))(K:HK):Prop:=
 match d with
 |none=>False
 |some d=>match h (Kk cx d)with
  |.free=>match Es cx.pl.arr d with
   |some _=>K (.msl (Kk cx d) es.length) (AC h (Kk cx d) (.arr sz es))
   |none=>K (.slice (.id (Kk cx d) sz) es) (AC h (Kk cx d) (.tok sz es.length))
  |_=>False
def Iz(d:Option Nat)(h:Nat->HO)(ty n:Nat)(t:Nat->AV)(ps:List (Nat×Operand))(K:HK):Prop:=
 match(cx.T ty).d with
 |.slice e=>match G9 ((cx.T e).zc.map .v),Nat.beq (cx.T e).zc.length (cx.T e).size with
  |true,true=>match(cx.T e).size with
   |0=>False
   |_+1=>match Nat.ble (n*(cx.T e).size) 16777216 with
    |true=>Rr n (cx.T e).size h (List.replicate n ((cx.T e).zc.map .v)) t ps fun es=>E8 cx d h (cx.T e).size es K
    |false=>False
  |_,_=>False
 |_=>False
def KN(t:Nat->AV)(h:Nat->HO)(fn:Fn)(first captured:List Operand)(K:AV->Prop):Prop:=
 match fn,first with
 |.func f,[]=>K (.clo f (captured.map fun x=>rsv h (ev t x)))
 |_,_=>False
def A7(sz:Nat):List (List AV)->Prop
 | []=>True
 |c::r=>c.length=sz/\A7 sz r
def Li(h:Nat->HO)(x:AV)(K:List (List AV)->Prop):Prop:=
 match x with
 |.slice _ es=>K es
 |.v (.slice none 0 0)=>K []
 |.msl r n=>match h r with
  |.arr _ es=>n=es.length/\K es
  |_=>False
 |_=>False
def Iq(d:Option Nat)(h:Nat->HO)(ty:Nat)(s x:AV)(K:HK):Prop:=
 match(cx.T ty).d with
 |.slice e=>match Nat.beq (cx.T e).zc.length (cx.T e).size with
  |false=>False
  |true=>match(cx.T e).size with
   |0=>False
   |_+1=>Li h x fun es2=>match s with
    |.v (.slice none 0 0)=>(A7 (cx.T e).size es2/\es2.length*(cx.T e).bytes<=140737488355328/\es2.length<=9223372036854775807)/\E8 cx d h (cx.T e).size es2 K
    |.slice (.full HM) es=>match Nat.beq HM (cx.T e).size with
     |true=>(A7 (cx.T e).size es2/\0<es2.length/\(es.length+es2.length)*(cx.T e).bytes<=140737488355328/\es.length+es2.length<=9223372036854775807)/\E8 cx d h (cx.T e).size (es++es2) K
     |false=>False
    |.slice (.id r HM) es=>match h r with
     |.tok sz n=>match Nat.beq sz (cx.T e).size,Nat.beq HM sz with
      |true,true=>(A7 sz es2/\es.length=n/\(es.length+es2.length)*(cx.T e).bytes<=140737488355328/\es.length+es2.length<=9223372036854775807) /\
        K (.slice (.id r sz) (es++es2)) (AC h r (.tok sz (es.length+es2.length)))
      |_,_=>False
     |_=>False
    |.msl r n=>match h r with
     |.arr sz es=>match Nat.beq sz (cx.T e).size with
      |true=>(A7 sz es2/\es.length=n/\(es.length+es2.length)*(cx.T e).bytes<=140737488355328/\es.length+es2.length<=9223372036854775807) /\
        K (.msl r (es.length+es2.length)) (AC h r (.arr sz (es++es2)))
      |false=>False
     |_=>False
    |_=>False
 |_=>False
abbrev HJ:=List (Nat×Nat)
variable (σ:HJ)
inductive vI | pure | rel | gen (σ:HJ) (nn:Nat) | geny (σ:HJ) (nn:Nat)
def Cf(σ:HJ)(n:Nat):Option Nat:=
 match σ with
 | []=>none
 |(i,j)::r=>bif Nat.beq i n then some j else Cf r n
def G3(σ:HJ)(n:Nat):Option Nat:=
 match σ with
 | []=>none
 |(i,j)::r=>bif Nat.beq j n then some i else G3 r n
def D7:HJ->Bool
 | []=>true
 |(i,j)::r=>(match Cf r i,G3 r j with |none,none=>true |_,_=>false)&&Nat.ble 1000 j&&Nat.blt j 2000&&D7 r
def EU:HJ->Bool
 | []=>true
 |(i,j)::r=>(match Cf r i,G3 r j with |none,none=>true |_,_=>false)&&EU r
def ren0(h:Nat->HO):AV->AV
 |.slice (.id r sz) es=>match f r with |some r'=>.slice (.id r' sz) es |none=>.slice .none es
 |.slice (.ver r sz v) es=>match f r with |some r'=>.slice (.ver r' sz v) es |none=>.slice .none es
 |.msl r n=>match f r with |some r'=>.msl r' n |none=>.junk
 |.ref r off=>match f r with |some r'=>.ref r' off |none=>str0 h (.ref r off)
 |.eref r n sz i off=>match f r with |some r'=>.eref r' n sz i off |none=>.junk
 |.mref r=>match f r with |some r'=>.mref r' |none=>str0 h (.mref r)
 |a=>str0 h a
def ren1(h:Nat->HO):AV->AV
 |.agg cs=>.agg (cs.map (ren0 f h))
 |.clo g cs=>.clo g (cs.map (ren0 f h))
 |a=>ren0 f h a
def ren(h:Nat->HO):AV->AV
 |.tup cs=>.tup (cs.map (ren1 f h))
 |a=>ren1 f h a
def HO.ren(h:Nat->HO):HO->HO
 |.cells cs=>.cells (cs.map (ren1 f h))
 |.mapU sh BV=>.mapU sh (BV.map fun p=>(p.1,ren1 f h p.2))
 |.hol sz es i c a=>.hol sz es i c (ren1 f h a)
 |.bld x=>.bld (ren1 f h x)
 |o=>o
def Af(l:List (Nat×HO))(hb:Nat->HO)(i:Nat):HO:=match l with | []=>hb i | (j,v)::r=>bif Nat.beq i j then v else Af r hb i
def XQ(f:Nat->Option Nat)(h:Nat->HO):HJ->List (Nat×HO)
 | []=>[]
 |(i,j)::r=>(j,(h i).ren f h)::XQ f h r
def Fo(h:Nat->HO):Nat->HO:=Af (XQ (Cf σ) h σ) Ae
def BB(d k:Nat):Nat:=10000+100*d+k
def Ft(d nn:Nat)(j:Nat):Option Nat:=
 match G3 σ j with
 |some i=>some i
 |none=>match Nat.ble 2000 j&&Nat.blt j (2000+nn)with |true=>some (BB d (j-2000)) |false=>none
def Ec(d nn:Nat)(h h' : Nat->HO):Nat->HO:=fun i=>
 match Cf σ i with
 |some j=>(h' j).ren (Ft σ d nn) h'
 |none=>match Nat.ble (BB d 0) i&&Nat.blt i (BB d nn)with |true=>(h' (2000+(i-BB d 0))).ren (Ft σ d nn) h' |false=>h i
def DL(h:Nat->HO)(d:Nat):Nat->Bool
 |0=>true
 |k+1=>(match h (BB d k)with |.free=>true |_=>false)&&DL h d k
def CI(σ:HJ)(d nn:Nat):Bool:=
 match σ with
 | []=>true
 |(i,_)::r=>!(Nat.ble (BB d 0) i&&Nat.blt i (BB d nn))&&CI r d nn
def SK(l:List (Nat×Nat))(d:Option Nat):Option Nat:=match d with | none=>none | some d=>Es l d
def d7:AV->Bool | .tup _=>false | _=>true
def Ug:List AV->Bool
 | []=>true
 |a::r=>match d7 a with |true=>Ug r |false=>false
def WJ:List AV->Option (List Value)
 | []=>some []
 |.v x::r=>match WJ r with |some l=>some (x::l) |none=>none
 |_=>none
def RN(k:Nat)(d:Option Nat)(h:Nat->HO)(F:AV)(args:List AV)(K:HK):Prop:=
 match d,F,args with
 |some d,.v (.func (.func f) ⟨[]⟩ ⟨[]⟩),.msl r n::l=>match WJ l with
  |some vs=>match h r with
   |.arr sz es=>match k with
    |0=>∃n' E7,A6 cx.P f (.msl 1000 n::vs.map .v) (Af [(1000,.arr sz es)] Ae) (fun r' h'=>r'=.msl 1000 n'/\h'=Af [(1000,.arr sz E7)] Ae)/\K (.msl r n') (AC h r (.arr sz E7))
    |_+1=>∃n' E7,(DL h d 1&&Nat.blt r 10000000&&!Nat.beq r (BB d 0))=true/\A6 cx.P f (.msl 1000 n::vs.map .v) (Af [(1000,.arr sz es)] Ae) (fun r' h'=>r'=.msl 2000 n'/\h'=Af [(1000,.dead),(2000,.arr sz E7)] Ae) /\
      K (.msl (BB d 0) n') (AC (AC h r .dead) (BB d 0) (.arr sz E7))
   |_=>False
  |none=>False
 |_,_,_=>False
def XZ(d:Option Nat)(st:St)(F:AV)(args:List AV)(K:HK):Prop:=
 match d with
 |none=>False
 |some d=>∃sz es,(DL st.h d 1&&d7 F&&Ug args)=true/\Gq cx.P (fun l=>cx.yp l []) (str st.h F) (args.map (str st.h)) Ae (fun r h'=>r=.slice (.id 2000 sz) es/\h'=Af [(2000,.tok sz es.length)] Ae) /\
   K (.slice (.id (BB d 0) sz) es) (AC st.h (BB d 0) (.tok sz es.length))
def UY(d:Option Nat)(st:St)(F:AV)(args:List AV)(K:HK):Prop:=
  match d,F,WJ args with
  |some _,.v (.func (.yield l) ⟨[]⟩ ⟨[]⟩),some vs=>match st.h 1000,st.h 1001 with
    |.cells [.slice (.id r sz) es],.tok eY n=>(r=1001/\eY=sz)/\∃v E7 n',G6 cx.P (cx.yp l [(1000,1000),(1001,1001)]) l (vs.map .v) (Af [(1000,.cells [.slice (.id 1001 sz) es]),(1001,.tok sz n)] Ae)
          (fun r h'=>r=.v v/\h'=Af [(1000,.cells [.slice (.id 1001 sz) E7]),(1001,.tok sz n')] Ae) /\
        K (.v v) (AC (AC st.h 1001 (.tok sz n')) 1000 (.cells [.slice (.id 1001 sz) E7]))
    |_,_=>False
  |_,_,_=>False
def pm:List Nat:=[1000,1001,1002,1003,1004,1005,1006,1007,10900,5]
def kL:AV->Option (Nat×List AV)
 |.v (.func (.func f) ⟨[]⟩ ⟨[]⟩)=>some (f,[])
 |.clo f caps=>some (f,caps)
 |_=>none
def YR(d:Option Nat)(st:St)(F:AV)(args:List AV)(K:HK):Prop:=
 match d,kL F with
 |some d,some (f,caps)=>∃(σ:HJ) (H0 Hn:List (Nat×HO)) (args' : List AV) (res:AV),
   (∀h2:Nat->HO,(∀r∈pm,h2 r=st.h r)->Fo σ h2=Af H0 Ae/\args.map (ren (Cf σ) h2)++caps.map (ren0 (Cf σ) h2)=args')/\(D7 σ&&CI σ d 0&&σ.all fun p=>IS pm p.1)=true /\
   A6 cx.P f args' (Af H0 Ae) (fun r h'=>r=res/\h'=Af Hn Ae)/\K (ren (Ft σ d 0) (Af Hn Ae) res) (Ec σ d 0 st.h (Af Hn Ae))
 |_,_=>False
def RJ(k:Nat)(d:Option Nat)(st:St)(F:AV)(args:List AV)(K:HK):Prop:=
 match Nat.beq k 4 with
 |true=>YR cx d st F args K
 |false=>RN cx k d st.h F args K
def GN(dr:Bool)(d:Option Nat)(st:St)(F:AV)(args:List AV)(K:HK):Prop:=
 match dr with
 |true=>match SK cx.pl.dc d with
  |none=>∃res,PV cx.P (str st.h F) (args.map (str st.h)) res/\K res st.h
  |some 0=>match d with
   |none=>False
   |some d=>∃n sz es,(DL st.h d 1&&d7 F&&Ug args)=true/\Gq cx.P (fun l=>cx.yp l []) (str st.h F) (args.map (str st.h)) Ae (fun r h'=>r=.msl 2000 n/\h'=Af [(2000,.arr sz es)] Ae) /\
     K (.msl (BB d 0) n) (AC st.h (BB d 0) (.arr sz es))
  |some (k+1)=>match Nat.beq k 2 with
   |true=>XZ cx d st F args K
   |false=>match Nat.beq k 3 with
    |true=>UY cx d st F args K
    |false=>RJ cx k d st F args K
 |false=>∃m:vI,match m with
  |.pure=>∃res,PV cx.P (str st.h F) (args.map (str st.h)) res/\K res st.h
  |.rel=>Gq cx.P (fun _ _ _=>True) (str st.h F) (args.map (str st.h)) Ae fun r h'=>h'=Ae/\K r st.h
  |.gen σ nn=>match d with
   |none=>False
   |some d=>(D7 σ&&DL st.h d nn&&CI σ d nn)=true /\
     Gq cx.P (fun l=>cx.yp l σ) (ren (Cf σ) st.h F) (args.map (ren (Cf σ) st.h)) (Fo σ st.h) fun r h'=>K (ren (Ft σ d nn) h' r) (Ec σ d nn st.h h')
  |.geny σ nn=>match d with
   |none=>False
   |some d=>(D7 σ&&DL st.h d nn&&CI σ d nn)=true /\
     match ren (Cf σ) st.h F with
     |.clo f caps=>FZ cx.P (fun g w=>∀l,cx.yp l σ g w) f (args.map (ren (Cf σ) st.h)++caps) (Fo σ st.h) fun r h'=>K (ren (Ft σ d nn) h' r) (Ec σ d nn st.h h')
     |_=>False
def X0:List AV->Option (List Value)
 | []=>some []
 |.v x::r=>match X0 r with |some l=>some (x::l) |none=>none
 |_=>none
def ua:AV->Option Value
 |.v x=>some x
 |.agg cs=>match X0 cs with |some l=>some (.agg l.toArray) |none=>none
 |_=>none
def H8(T:G0)(t:Nat):Option EL:=
 match(T t).d with
 |.struct _=>match HX T 8 t with |some l=>some ⟨true,l⟩ |none=>none
 |_=>match HX T 1 t with |some l=>some ⟨false,l⟩ |none=>none
def qi:KS->KS->Bool
 |.int k,.int k'=>vD k k'
 |.str,.str=>true
 |.bool,.bool=>true
 |_,_=>false
def T2:List KS->List KS->Bool
 | [],[]=>true
 |a::r,b::s=>match qi a b with |true=>T2 r s |false=>false
 |_,_=>false
def uF(a b:EL):Bool:=
 match a.agg,b.agg with
 |true,true=>T2 a.l b.l
 |false,false=>T2 a.l b.l
 |_,_=>false
def Km(T:G0)(ty:Nat)(sh:EL)(k:AV)(K:Value->Prop):Prop:=
 match(T ty).d with
 |.map kt _=>match H8 T kt with
  |some sh'=>match uF sh sh' with
   |true=>match ua k with
    |some kx=>match XV sh kx with
     |true=>K kx
     |false=>False
    |none=>False
   |false=>False
  |none=>False
 |_=>False
open Classical in
noncomputable def Fm(BV:List (Value×AV))(k:Value)(a:AV):List (Value×AV):=
 if ∃a',(k,a')∈BV then BV.map fun p=>if p.1=k then(k,a)else p else BV++[(k,a)]
def KO(T:G0)(mku:List Nat)(d:Option Nat)(h:Nat->HO)(ty:Nat)(K:HK):Prop:=
 match d with
 |none=>False
 |some d=>match h d with
  |.free=>match(T ty).d with
   |.map kt _=>match H8 T kt with
    |some sh=>match IS mku d with
     |true=>K (.mref d) (AC h d (.mapU sh []))
     |false=>K (.mref d) (AC h d (.map sh []))
    |none=>False
   |_=>False
  |_=>False
def Ht(T:G0)(h:Nat->HO)(ty:Nat)(m k x:AV)(K:HK):Prop:=
 match m with
 |.mref r=>match h r with
  |.map sh BV=>Km T ty sh k fun kx=>K (.v undef) (AC h r (.map sh (Fm BV kx (str h x))))
  |.mapU sh BV=>Km T ty sh k fun kx=>K (.v undef) (AC h r (.mapU sh (Fm BV kx x)))
  |_=>False
 |_=>False
def Kp(T:G0)(t:Nat)(K:AV->Prop):Prop:=
 match(T t).d with
 |.other=>False
 |_=>match(T t).zero with
  |.agg cs=>match G9 (cs.toList.map .v)with |true=>K (.agg (cs.toList.map .v)) |false=>False
  |z=>K (.v z)
def Mv(T:G0)(ty:Nat)(ok:Bool)(BV:List (Value×AV))(kx:Value)(K:AV->Prop):Prop:=
 match(T ty).d with
 |.map _ e=>match ok with
  |true=>(∀a,(kx,a)∈BV->K (.tup [a,.v (.bool true)]))/\((∀a,(kx,a)∉BV)->Kp T e fun z=>K (.tup [z,.v (.bool false)]))
  |false=>(∀a,(kx,a)∈BV->K a)/\((∀a,(kx,a)∉BV)->Kp T e K)
 |_=>False
def Mu(T:G0)(ty:Nat)(ok:Bool)(BV:List (Value×AV))(kx:Value)(K:AV->Prop):Prop:=
 match(T ty).d with
 |.map _ e=>match ok with
  |true=>(∃a,((kx,a)∈BV/\∀b,(kx,b)∈BV->b=a)/\K (.tup [a,.v (.bool true)]))\/((∀a,(kx,a)∉BV)/\Kp T e fun z=>K (.tup [z,.v (.bool false)]))
  |false=>(∃a,((kx,a)∈BV/\∀b,(kx,b)∈BV->b=a)/\K a)\/((∀a,(kx,a)∉BV)/\Kp T e K)
 |_=>False
def Na(T:G0)(h:Nat->HO)(ty:Nat)(m k:AV)(ok:Bool)(K:AV->Prop):Prop:=
 match m with
 |.cmap sh BV=>Km T ty sh k fun kx=>Mu T ty ok BV kx K
 |.mref r=>match h r with
  |.map sh BV=>Km T ty sh k fun kx=>Mu T ty ok BV kx K
  |.mapU sh BV=>Km T ty sh k fun kx=>Mu T ty ok BV kx K
  |.rom sh BV=>Km T ty sh k fun kx=>Mu T ty ok BV kx K
  |_=>False
 |_=>False
def Nb(T:G0)(h:Nat->HO)(ty:Nat)(m k:AV)(ok:Bool)(K:AV->Prop):Prop:=
 match m with
 |.cmap sh BV=>Km T ty sh k fun kx=>Mv T ty ok BV kx K
 |.mref r=>match h r with
  |.map sh BV=>Km T ty sh k fun kx=>Mv T ty ok BV kx K
  |.mapU sh BV=>Km T ty sh k fun kx=>Mv T ty ok BV kx K
  |.rom sh BV=>Km T ty sh k fun kx=>Mv T ty ok BV kx K
  |_=>False
 |_=>False
def cI(d:Option Nat)(h:Nat->HO)(x:AV)(K:HK):Prop:=
 match d with
 |none=>False
 |some d=>match h d with
  |.free=>match x with
   |.cmap _ BV=>K (.ref d 0) (AC h d (.iter BV BV none))
   |.mref r=>match h r with
    |.rom _ BV=>K (.ref d 0) (AC h d (.iter BV BV none))
    |.map sh BV=>K (.ref d 0) (AC (AC h r (.rom sh BV)) d (.iter BV BV none))
    |_=>False
   |_=>False
  |_=>False
def mp(h:Nat->HO)(x:AV)(K:HK):Prop:=
 match x with
 |.ref r 0=>match h r with
  |.iter all rem _=>(rem=[]->K (.tup [.v (.bool false)]) h) /\
    (∀kv PG,rem.Perm (kv::PG)->K (.tup [.v (.bool true),.v kv.1,kv.2]) (AC h r (.iter all PG (some kv))))
  |_=>False
 |_=>False
def bw(h:Nat->HO)(x:AV)(K:AV->Prop):Prop:=
 match x with
 |.ref r 0=>match h r with
  |.iter _ _ (some kv)=>K (.tup [.v kv.1,kv.2])
  |_=>False
 |_=>False
def Ry(T:G0)(t:Nat)(h:Nat->HO)(x:AV)(K:AV->Prop):Prop:=
 match(T t).d with
 |.slice _=>match x with
  |.slice _ es=>K (.v (.int .i64 es.length))
  |.msl _ n=>K (.v (.int .i64 n))
  |.v (.slice none 0 0)=>K (.v (.int .i64 0))
  |_=>False
 |.string=>match x with
  |.v (.string s)=>K (.v (.int .i64 s.size))
  |_=>False
 |.map _ _=>match x with
  |.cmap _ BV=>K (.v (.int .i64 BV.length))
  |.mref r=>match h r with
   |.map _ BV=>K (.v (.int .i64 BV.length))
   |.mapU _ BV=>K (.v (.int .i64 BV.length))
   |.rom _ BV=>K (.v (.int .i64 BV.length))
   |_=>False
  |_=>False
 |_=>False
def Ip(d:Option Nat)(h:Nat->HO)(ty:Nat)(x:AV)(lo hi mx:Option (Option Int))(K:HK):Prop:=
 match lo,hi,mx with
 |some lo,some hi,some mx=>match(cx.T ty).d with
  |.string=>match mx,x with
   |none,.v (.string s)=>(0<=lo.getD 0/\lo.getD 0<=hi.getD s.size/\hi.getD s.size<=s.size)/\K (.v (.string (s.extract (lo.getD 0).toNat (hi.getD s.size).toNat))) h
   |_,_=>False
  |.slice e=>match(cx.T e).size with
   |0=>False
   |_+1=>match x with
    |.slice _ es=>match mx with
     |none=>(0<=lo.getD 0/\lo.getD 0<=hi.getD es.length/\hi.getD es.length<=es.length) /\
       (∀cs∈es,cs.length=(cx.T e).size)/\K (.slice .none ((es.take (hi.getD es.length).toNat).drop (lo.getD 0).toNat)) h
     |some m=>match d,hi with
      |some d,some hi=>match Es cx.pl.arr d with
       |some _=>(0<=lo.getD 0/\lo.getD 0<=hi/\m=hi/\hi<=es.length)/\(∀cs∈es,cs.length=(cx.T e).size) /\
         K (.slice (.full (cx.T e).size) ((es.take hi.toNat).drop (lo.getD 0).toNat)) h
       |none=>match h d with
        |.free=>(0<=lo.getD 0/\lo.getD 0<=hi/\m=hi/\hi<=es.length)/\(∀cs∈es,cs.length=(cx.T e).size) /\
          K (.slice (.id d (cx.T e).size) ((es.take hi.toNat).drop (lo.getD 0).toNat)) (AC h d (.tok (cx.T e).size (hi.toNat-(lo.getD 0).toNat)))
        |_=>False
      |_,_=>False
    |.v (.slice none 0 0)=>(lo.getD 0=0/\hi.getD 0=0/\mx.getD 0=0)/\(mx=none\/hi≠none)/\K (.v (.slice none 0 0)) h
    |.msl r n=>match h r with
     |.arr sz es=>match Nat.beq sz (cx.T e).size with
      |true=>(n=es.length/\0<=lo.getD 0/\lo.getD 0<=hi.getD es.length/\hi.getD es.length<=es.length/\(mx=none\/(mx=hi/\hi≠none))) /\
        K (.slice .none ((es.take (hi.getD es.length).toNat).drop (lo.getD 0).toNat)) (AC h r .dead)
      |false=>False
     |_=>False
    |_=>False
  |_=>False
 |_,_,_=>False
def UE(d:Option Nat)(h:Nat->HO)(ty:Nat)(x:AV)(lo:Option (Option Int))(hi mx:Option Operand)(K:HK):Prop:=
 match d,lo,hi,mx with
 |some d,some (some lo),none,none=>match(cx.T ty).d with
  |.slice e=>match(cx.T e).size with
   |0=>False
   |_+1=>match x with
    |.slice (.id r sz) es=>match h r with
     |.tok HM n=>match h (Kk cx d)with
      |.free=>match Nat.beq HM sz,Nat.beq sz (cx.T e).size with
       |true,true=>(es.length=n/\0<=lo/\lo<=es.length)/\K (.slice (.id (Kk cx d) sz) (es.drop lo.toNat)) (AC (AC h r .dead) (Kk cx d) (.tok sz (es.drop lo.toNat).length))
       |_,_=>False
      |_=>False
     |_=>False
    |_=>False
  |_=>False
 |_,_,_,_=>False
def mV(d:Option Nat)(h:Nat->HO)(ty:Nat)(x:AV)(hi:Option (Option Int))(K:HK):Prop:=
 match d,hi with
 |some d,some (some hi)=>match(cx.T ty).d with
  |.slice e=>match(cx.T e).size with
   |0=>False
   |_+1=>match x with
    |.msl r n=>match h r with
     |.arr sz es=>match h (Kk cx d)with
      |.free=>match Nat.beq sz (cx.T e).size,Nat.blt r 10000000&&Nat.blt 0 (Kk cx d)with
       |true,true=>(n=es.length/\0<=hi/\hi<=es.length)/\K (.msl (Kk cx d) hi.toNat) (AC (AC h r .dead) (Kk cx d) (.arr sz (es.take hi.toNat)))
       |_,_=>False
      |_=>False
     |_=>False
    |_=>False
  |_=>False
 |_,_=>False
def Ut(d:Option Nat)(h:Nat->HO)(ty:Nat)(x:AV)(lo:Option Operand)(hi:Option (Option Int))(mx:Option Operand)(K:HK):Prop:=
 match lo,mx with
 |none,none=>mV cx d h ty x hi K
 |_,_=>False
def aV(T:G0)(h:Nat->HO)(ty:Nat)(x:AV)(hi mx:Option Operand)(K:AV->Prop):Prop:=
 match hi,mx,(T ty).d,x with
 |none,none,.array n e,.ref r 0=>match(T e).size,h r with
  |1,.ro cs=>n=cs.length/\K (.slice .none (cs.map fun c=>[c]))
  |_,_=>False
 |_,_,_,_=>False
def ne(d:Option Nat)(h:Nat->HO)(ty:Nat)(x:AV)(t:Nat->AV)(lo hi mx:Option Operand)(K:HK):Prop:=
 match lo with
 |none=>match(cx.T ty).d with
  |.array _ _=>aV cx.T h ty x hi mx fun v=>K v h
  |_=>Ut cx d h ty x none (CJ t hi) mx K
 |some lo=>UE cx d h ty x (CJ t (some lo)) hi mx K
def unT:AV->AV
 |.slice _ es=>.slice .none es
 |a=>a
def OR(d:Option Nat)(h:Nat->HO)(x:AV)(K:HK):Prop:=
 match d with
 |none=>K x h
 |some d=>match Es cx.pl.tok d with
  |some sz=>match Nat.beq sz 0 with
   |true=>K (unT x) h
   |false=>match x with
    |.v (.slice none 0 0)=>match h d with
     |.free=>K (.slice (.id d sz) []) (AC h d (.tok sz 0))
     |_=>False
    |x=>K x h
  |none=>match Es cx.pl.arr d with
   |some sz=>match x with
    |.v (.slice none 0 0)=>match h d with
     |.free=>K (.msl d 0) (AC h d (.arr sz []))
     |_=>False
    |x=>K x h
   |none=>K x h
def qx(l:List AV)(n:Nat):Option AV:=
 match l with
 | []=>none
 |x::r=>match n with |0=>some x |n+1=>qx r n
def Ms(i:Nat)(K:AV->Prop):Prop:=
 match x with
 |.tup vs=>match qx vs i with
  |some a=>K a
  |none=>False
 |_=>False
def KQ:Prop:=
 match x with
 |.ref r o=>K (.ref r o)
 |.eref r n z i o=>K (.eref r n z i o)
 |.cptr cs=>K (.cptr cs)
 |.clo f cs=>K (.clo f cs)
 |.v (.func (.func f) a b)=>K (.v (.func (.func f) a b))
 |_=>False
def Z0(c a b:AV)(K:AV->Prop):Prop:=
 match c with
 |.v (.bool true)=>K a
 |.v (.bool false)=>K b
 |_=>False
def qo(f:Int->Int->Int)(x y:AV)(K:AV->Prop):Prop:=
 match x,y with
 |.v (.int k a),.v (.int k' b)=>match vD k k' with
  |true=>K (.v (.int k (f a b)))
  |false=>False
 |_,_=>False
def Jx(d:Option Nat)(h:Nat->HO)(ty:Nat)(len cap:AV)(K:HK):Prop:=
 match(cx.T ty).d,len,cap with
 |.slice e,.v (.int .i64 n),.v (.int .i64 c)=>match G9 ((cx.T e).zc.map .v)with
  |true=>match Nat.beq (cx.T e).zc.length (cx.T e).size with
   |true=>match(cx.T e).size with
    |0=>False
    |_+1=>(0<=n/\n<=c/\c*(cx.T e).bytes<=140737488355328/\c<=9223372036854775807)/\E8 cx d h (cx.T e).size (List.replicate n.toNat ((cx.T e).zc.map .v)) K
   |false=>False
  |false=>False
 |_,_,_=>False
def ax(op:UnOp)(x:AV)(K:AV->Prop):Prop:=
 match op,x with
 |.not,x=>iy K x
 |.neg,.v (.int .i64 a)=>As (-a)/\K (.v (.int .i64 (-a)))
 |.xor,.v (.int k a)=>K (.v (.int k (VI .xor k (if k.signed then -1 else k.max) a)))
 |_,_=>False
def Gb(d:Option Nat)(h:Nat->HO)(b:Builtin)(Hm:List Nat)(args:List AV)(K:HK):Prop:=
 match b,args,Hm with
 |.len,[x],[t]=>Ry cx.T t h x fun v=>K v h
 |.append,[s,x],[t,t']=>match Nat.beq t t' with
  |true=>Iq cx d h t s x K
  |false=>False
 |.max,[x,y],_=>qo max x y fun v=>K v h
 |.min,[x,y],_=>qo min x y fun v=>K v h
 |_,_,_=>False
def F7(dr:Bool)(o:Oper)(st:St)(K:HK):Prop:=
 match o.op with
 |.move x=>K (ev st.t x) st.h
 |.assign x=>OR cx o.dst st.h (ev st.t x) K
 |.pick c a b=>Z0 (ev st.t c) (ev st.t a) (ev st.t b) fun v=>K v st.h
 |.alloc e=>SH cx.T o.dst st.h e K
 |.box e x=>fO cx o.dst st.h e (ev st.t x) K
 |.build ty ps=>PZ cx.T ty st.t ps.toList fun v=>K v st.h
 |.buildSlice ty n ps=>Iz cx o.dst st.h ty n st.t ps.toList K
 |.insert ty m k x=>Ht cx.T st.h ty (ev st.t m) (ev st.t k) (ev st.t x) K
 |.load ty x=>Jw cx.T st.h ty (ev st.t x) fun v=>K v st.h
 |.store ty p x=>OE cx st.h ty (ev st.t p) (ev st.t x) K
 |.nilCheck x=>KQ (ev st.t x) fun v=>K v st.h
 |.binOp op ty x y _=>Ym cx.T op ty y (ev st.t x) (ev st.t y) fun v=>K v st.h
 |.unOp op _ x=>ax op (ev st.t x) fun v=>K v st.h
 |.convert s ty x=>match dr with
  |true=>VR cx.T s ty (ev st.t x) fun v=>K v st.h
  |false=>bq cx o.dst st.h s ty (ev st.t x) K
 |.makeFunc fn first cap=>KN st.t st.h fn first.toList cap.toList fun v=>K v st.h
 |.makeMap ty none=>KO cx.T cx.pl.mku o.dst st.h ty K
 |.makeSlice ty n c=>Jx cx o.dst st.h ty (ev st.t n) (ev st.t c) K
 |.slice ty x lo hi mx=>match dr with
  |true=>match SK cx.pl.tok o.dst with
   |none=>Ip cx o.dst st.h ty (ev st.t x) (CJ st.t lo) (CJ st.t hi) (CJ st.t mx) K
   |some _=>Ut cx o.dst st.h ty (ev st.t x) lo (CJ st.t hi) mx K
  |false=>match SK cx.pl.tok o.dst with
   |none=>Ip cx o.dst st.h ty (ev st.t x) (CJ st.t lo) (CJ st.t hi) (CJ st.t mx) K
   |some _=>ne cx o.dst st.h ty (ev st.t x) st.t lo hi mx K
 |.fieldAddr s x f=>Tl cx.T s f (ev st.t x) fun v=>K v st.h
 |.field s x f=>O5 cx.T s f (ev st.t x) fun v=>K v st.h
 |.indexAddr ty x ix=>Ju cx.T ty (ev st.t x) (ev st.t ix) fun v=>K v st.h
 |.index ty x ix=>TU cx.T ty (ev st.t x) (ev st.t ix) fun v=>K v st.h
 |.lookup ty x ix ok=>match dr with
  |true=>Na cx.T st.h ty (ev st.t x) (ev st.t ix) ok fun v=>K v st.h
  |false=>Nb cx.T st.h ty (ev st.t x) (ev st.t ix) ok fun v=>K v st.h
 |.mapUpdate ty m k x=>Ht cx.T st.h ty (ev st.t m) (ev st.t k) (ev st.t x) K
 |.range ty x=>match(cx.T ty).d with |.map _ _=>cI o.dst st.h (ev st.t x) K |_=>False
 |.next it false=>mp st.h (ev st.t it) K
 |.entry it=>bw st.h (ev st.t it) fun v=>K v st.h
 |.extract x i=>Ms (ev st.t x) i fun v=>K v st.h
 |.call c=>match c.callee with
  |.builtin b=>Gb cx o.dst st.h b c.argTypes.toList (c.args.toList.map (ev st.t)) K
  |.value f=>GN cx dr o.dst st (ev st.t f) (c.args.toList.map (ev st.t)) K
  |_=>False
 |_=>False
def Lv(ops:List Oper)(j:Nat):Option Nat:=match ops with | []=>none | o::r=>match j with | 0=>o.dst | j+1=>Lv r j
def mW(o:Oper)(st:St):St:=
 match o.dst with
 |none=>st
 |some d=>match vR cx.pl.tz d with
  |some (r,k,j,sz)=>⟨st.t,zQ st.h r k j sz⟩
  |none=>match sm cx.pl.fz d with
   | []=>st
   |l=>⟨st.t,Nw st.h l⟩
def zV(o:Oper)(st:St)(K:St->Prop):Prop:=
 match o.dst with
 |none=>K st
 |some d=>match Es cx.pl.ak d with
  |none=>K st
  |some s=>match st.t s with
   |.msl r n=>match st.h r with
    |.arr sz es=>n=es.length/\K ⟨JJ st.t s (.slice (.id r sz) es),AC st.h r (.tok sz es.length)⟩
    |_=>K st
   |_=>K st
def jN(dr:Bool)(o:Oper)(st:St)(K:St->Prop):Prop:=
 match dr with
 |true=>F7 cx true o st fun v h=>K (st.put o.dst v h)
 |false=>zV cx o (mW cx o st) fun EA=>F7 cx false o EA fun v h=>K (EA.put o.dst v h)
def IX(dr:Bool)(all:List Oper)(o:Oper)(st:St)(K:St->Prop):Prop:=
 match o.guard with
 |none=>jN cx dr o st K
 |some (j,want)=>match Lv all j with
  |none=>False
  |some d=>match st.t d,want with
   |.v (.bool true),true=>jN cx dr o st K
   |.v (.bool false),false=>jN cx dr o st K
   |.v (.bool true),false=>K (st.put o.dst (.v undef) st.h)
   |.v (.bool false),true=>K (st.put o.dst (.v undef) st.h)
   |.v (.tuple _),_=>K (st.put o.dst (.v undef) st.h)
   |_,_=>False
def Zq(o2:Oper):Bool:=
 match o2.op with
 |.call c=>match c.callee with
  |.builtin .clear=>match o.op with
   |.slice ty _ (some _) none none=>match o.dst,o2.dst,c.args.toList,c.argTypes.toList,o.guard,o2.guard with
    |some d,none,[.tmp d'],[ty'],none,none=>Nat.beq d d'&&Nat.beq ty ty'
    |_,_,_,_,_,_=>false
   |_=>false
  |_=>false
 |_=>false
def wE(d:Nat)(st:St)(r i sz:Nat)(es:List (List AV))(z:List Value)(K:St->Prop):Prop:=
 match z.all Value.oneCell' with
 |true=>K ⟨JJ st.t d .junk,AC st.h r (.arr sz (es.take i++List.replicate (es.length-i) (z.map AV.v)))⟩
 |false=>False
def oW(o:Oper)(st:St)(K:St->Prop):Prop:=
 match o.op with
 |.slice ty x (some lo) none none=>match o.dst with
  |some d=>match(cx.T ty).d with
   |.slice e=>match ev st.t x with
    |.msl r n=>match ev st.t lo with
     |.v (.int .i64 i)=>match st.h r with
      |.arr sz es=>match Nat.beq sz (cx.T e).size with
       |true=>match(cx.T e).size with
        |0=>False
        |_+1=>match Nat.beq (cx.T e).zc.length sz with
         |true=>(n=es.length/\0<=i/\i<=es.length)/\wE d st r i.toNat sz es (cx.T e).zc K
         |false=>False
       |false=>False
      |_=>False
     |_=>False
    |_=>False
   |_=>False
  |none=>False
 |_=>False
def Yj(cx:Cx)(all l:List Oper)(st:St)(K:St->Prop):Prop:=
 match l with
 | []=>K st
 | [o]=>IX cx false all o st K
 |o::o2::r=>match Zq o o2 with
  |true=>oW cx o st fun EA=>Yj cx all r EA K
  |false=>IX cx false all o st fun EA=>Yj cx all (o2::r) EA K
def Ze:AV->List Nat
 |.ref r _=>[r]
 |.mref r=>[r]
 |_=>[]
def p9:List AV->List Nat
 | []=>[]
 |a::r=>Ze a++p9 r
def Xz:AV->List Nat
 |.agg cs=>p9 cs
 |.clo _ cs=>p9 cs
 |a=>Ze a
def tY:List AV->List Nat
 | []=>[]
 |a::r=>Xz a++tY r
def Zd:AV->List Nat
 |.agg cs=>tY cs
 |a=>Xz a
def TQ:List AV->List Nat
 | []=>[]
 |a::r=>Zd a++TQ r
abbrev FL:=List Nat×Option Nat
def IC(d:Option Nat)(l:List Nat):Option FL:=match d with | some d=>some (d::l,some d) | none=>none
def im:AV->List Nat
 |.msl r _=>[r]
 |_=>[]
def Xm(d:Option Nat)(s x:AV):Option FL:=
 match s with
 |.v (.slice none 0 0)=>IC (d.map (Kk cx)) (im x)
 |.slice (.full _) _=>IC (d.map (Kk cx)) (im x)
 |.slice (.id r _) _=>IC (some r) (im x)
 |.msl r _=>IC (some r) (im x)
 |_=>none
def dC(d:Option Nat)(args:List AV):Option FL:=
 match d with
 |some d=>match args with
  |.msl r _::_=>some ([r,BB d 0],some (r+10000000*BB d 0))
  |_=>none
 |none=>none
theorem bB{d:Option Nat}{args:List AV}{f:FL}(h:dC d args=some f):∃d' r n l,d=some d'/\args=.msl r n::l/\f=([r,BB d' 0],some (r+10000000*BB d' 0)):=by
 unfold dC at h;split at h
 .split at h
  .cases h;exact⟨_,_,_,_,rfl,rfl,rfl⟩
  .cases h
 .cases h
def kF(d:Option Nat)(x:AV):Option FL:=
 match d with
 |some d=>match x with
  |.msl r _=>some ([r,d],some (r+10000000*d))
  |_=>none
 |none=>none
theorem bC{d:Option Nat}{x:AV}{f:FL}(h:kF d x=some f):∃d' r n,d=some d'/\x=.msl r n/\f=([r,d'],some (r+10000000*d')):=by
 unfold kF at h;split at h
 .split at h
  .cases h;exact⟨_,_,_,rfl,rfl,rfl⟩
  .cases h
 .cases h
def kG(args:List AV):Option FL:=match WJ args with | some _=>some ([1000,1001],some 10010001000) | none=>none
def WX:Nat:=99999999999999
def kE(k:Nat)(d:Option Nat)(args:List AV):Option FL:=
 match Nat.beq k 3 with
 |true=>some (pm,some WX)
 |false=>dC d args
def Hh(d:Option Nat)(c:Callee)(t:Nat->AV)(args:List AV):Option FL:=
 match c,args with
 |.builtin .len,[.mref r]=>some ([r],none)
 |.builtin .len,[_]=>some ([],none)
 |.builtin .max,_=>some ([],none)
 |.builtin .min,_=>some ([],none)
 |.builtin .append,[s,x]=>Xm cx d s x
 |.value f,args=>match SK cx.pl.dc d with
  |none=>some (Zd (ev t f)++TQ args,none)
  |some 0=>IC (d.map fun d=>BB d 0) (Zd (ev t f)++TQ args)
  |some 1=>match args with |.msl r _::_=>some ([r],some r) |_=>none
  |some (k+2)=>match Nat.beq k 1 with
   |true=>IC (d.map fun d=>BB d 0) (Zd (ev t f)++TQ args)
   |false=>match Nat.beq k 2 with
    |true=>kG args
    |false=>kE k d args
 |_,_=>none
def Fl(o:Oper)(st:St):Option FL:=
 match o.op with
 |.move _ |.pick .. |.nilCheck _ |.unOp .. |.convert .. |.fieldAddr .. |.field .. |.indexAddr .. |.index .. |.extract .. |.build ..=>some ([],none)
 |.binOp _ _ x _ _=>match ev st.t x with |.slice ..=>none |_=>some ([],none)
 |.assign x=>match ev st.t x with |.v (.slice ..)=>none |_=>some ([],none)
 |.load _ p=>match ev st.t p with |.cptr _=>some ([],none) |.ref r _=>some ([r],none) |.eref r ..=>some ([r],none) |_=>none
 |.call c=>Hh cx o.dst c.callee st.t (c.args.toList.map (ev st.t))
 |.alloc e=>match Nat.beq e Yn with |true=>none |false=>IC o.dst []
 |.box _ x=>IC o.dst (Zd (ev st.t x))
 |.buildSlice _ _ ps=>IC (o.dst.map (Kk cx)) (TQ (ps.toList.map fun p=>ev st.t p.2))
 |.store _ p x=>match ev st.t p with
  |.ref r _=>match IS cx.pl.frz r with |true=>none |false=>IC (some r) []
  |.eref r ..=>IC (some r) (Zd (ev st.t x))
  |_=>none
 |.slice _ x _ _ mx=>match SK cx.pl.tok o.dst with
  |some _=>kF (o.dst.map (Kk cx)) (ev st.t x)
  |none=>match mx,ev st.t x with
   |none,.msl ..=>none
   |none,_=>some ([],none)
   |some _,.slice ..=>IC o.dst []
   |_,_=>none
 |.makeFunc _ _ cap=>some (TQ (cap.toList.map (ev st.t)),none)
 |.mapUpdate _ m _ x=>match ev st.t m with |.mref r=>IC (some r) (Zd (ev st.t x)) |_=>none
 |.makeSlice ..=>IC (o.dst.map (Kk cx)) []
 |.lookup _ m _ _=>match ev st.t m with |.cmap ..=>some ([],none) |.mref r=>some ([r],none) |_=>none
 |.makeMap ..=>IC o.dst []
 |_=>none
def NL(all:List Oper)(o:Oper)(st:St):Option FL:=
 match o.guard with
 |none=>Fl cx o st
 |some (j,want)=>match Lv all j with
  |none=>none
  |some d=>match st.t d,want with
   |.v (.bool true),true=>Fl cx o st
   |.v (.bool false),false=>Fl cx o st
   |_,_=>some ([],none)
def yg(l:List Nat):Bool:=match l with | []=>true | _=>false
def ZU(l:List Nat)(r:Nat):Bool:=bif Nat.beq r WX then yg l else !IS l r&&(Nat.blt r 10000000||(!IS l (r % 10000000)&&!IS l (r / 10000000)))
def Tc(a b:FL):Bool:=
 (match a.2 with | some r=>ZU b.1 r | none=>true)&&(match b.2 with | some r=>ZU a.1 r | none=>true)
def Pd(i:Nat)(D:List Nat):Bool:=o.after.toList.any fun e=>Region.binds .any e&&(Nat.beq e.on i||IS D e.on)
def Qi(i:Nat)(D:List Nat)(k:Nat):List Oper->List Nat
 | []=>D
 |o::r=>match Pd o i D with
  |true=>Qi i (k::D) (k+1) r
  |false=>Qi i D (k+1) r
def UR(i:Nat)(D:List Nat)(k:Nat):List Oper->Bool
 | []=>true
 |o::r=>(Pd o i D||!IS D k)&&UR i D (k+1) r
def Iy(ops:Array Oper)(oi:Oper)(fi:FL)(D:List Nat)(k:Nat):List Oper->List FL->Bool
 |o::r,f::fs=>(IS D k||(oi.apart ops o&&Tc fi f))&&Iy ops oi fi D (k+1) r fs
 | [],[]=>true
 |_,_=>false
def Mq(ops:Array Oper)(all:List Oper)(k:Nat):List Oper->List FL->Bool
 |o::r,f::fs=>
  let D:=Qi k [] 0 all
  (o.after.toList.all fun e=>!Region.binds .any e||Nat.blt e.on k)&&UR k D 0 all&&(D.all fun j=>Nat.blt k j&&Nat.blt j all.length)&&Iy ops o f D (k+1) r fs&&Mq ops all (k+1) r fs
 | [],[]=>true
 |_,_=>false
def Td(ops:Array Oper)(fs:List FL):Bool:=Region.noSelect ops&&Mq ops ops.toList 0 ops.toList fs
def Yg(cx:Cx)(ops:Array Oper)(l:List Oper)(fs:List FL)(st:St)(K:St->Prop):Prop:=
 match l with
 | []=>Td ops fs.reverse=true/\K st
 |o::r=>match NL cx ops.toList o st with
  |some f=>IX cx true ops.toList o st fun EA=>Yg cx ops r (f::fs) EA K
  |none=>False
def Th(l:List (Nat×AV))(i:Nat):AV:=match l with | []=>.junk | (j,v)::r=>bif Nat.beq i j then v else Th r i
structure LS where
 t:List (Nat×AV)
 h:List (Nat×HO)
 hb:Nat->HO
def LS.st(s:LS):St:=⟨Th s.t,Af s.h s.hb⟩
def RW(h:Nat->HO)(r:Nat):Bool:=match h r with | .free=>false | _=>true
def ids0(h:Nat->HO):AV->Bool
 |.slice (.id r _) _=>RW h r
 |.slice (.ver r _ _) _=>RW h r
 |.msl r _=>RW h r
 |.ref r _=>RW h r
 |.eref r _ _ _ _=>RW h r
 |.mref r=>RW h r
 |.agg _ |.tup _ |.clo ..=>false
 |_=>true
def Zg(h:Nat->HO):List AV->Bool
 | []=>true
 |a::r=>match ids0 h a with |true=>Zg h r |false=>false
def TR(h:Nat->HO):AV->Bool
 |.agg cs=>Zg h cs
 |.tup cs=>Zg h cs
 |.clo _ cs=>Zg h cs
 |a=>ids0 h a
def Rx(h:Nat->HO):List (Value×AV)->Bool
 | []=>true
 |p::r=>match TR h p.2 with |true=>Rx h r |false=>false
def qa(h:Nat->HO):List AV->Bool
 | []=>true
 |a::r=>match TR h a with |true=>qa h r |false=>false
def Zf(h:Nat->HO):HO->Bool
 |.cells cs=>qa h cs
 |.mapU _ BV=>Rx h BV
 |.hol _ _ _ _ a=>TR h a
 |.bld x=>TR h x
 |_=>true
def zH(st:St)(h:Nat->HO):List (Nat×AV)->Prop
 | []=>True
 |(j,a)::r=>(st.t j=a/\TR h a=true)/\zH st h r
def zG(st:St)(h:Nat->HO):List (Nat×HO)->Prop
 | []=>True
 |(j,o)::r=>(st.h j=o/\Zf h o=true)/\zG st h r
def St.le(st:St)(s:LS):Prop:=
 zH st s.st.h s.t/\zG st s.st.h s.h/\(∀j,s.hb j=.free\/(st.h j=s.hb j/\Zf s.st.h (s.hb j)=true)) /\
 match cx.ext with
 |false=>True
 |true=>∀j,1000<=j->j<2000->st.h j≠.free->s.st.h j≠.free
def MZ(ops:Array Oper)(dr:Bool)(st:St)(K:St->Prop):Prop:=
 match dr with
 |false=>Yj cx ops.toList ops.toList st K
 |true=>Yg cx ops ops.toList [] st K
inductive Ex | normal | exit (id:Nat) | ret
def z6(h:Nat->HO)(o k:Nat)(K:(Nat->HO)->Prop):Prop:=
 match h o with
 |.cells cs=>match JB cs k with
  |.msl r n=>match h r with
   |.arr sz es=>n=es.length/\K (AC (AC h r (.tok sz es.length)) o (.cells (EO cs k (.slice (.id r sz) es))))
   |_=>K h
  |_=>K h
 |_=>K h
def zX(h:Nat->HO)(o k j:Nat)(K:(Nat->HO)->Prop):Prop:=
 match h o with
 |.cells cs=>match JB cs k with
  |.msl r n=>match h r with
   |.arr sz es=>match h j with
    |.free=>n=es.length/\K (AC (AC (AC h r .dead) j (.arr sz es)) o (.cells (EO cs k (.msl j n))))
    |_=>False
   |_=>False
  |_=>False
 |_=>False
def uvK(h:Nat->HO)(o k d:Nat)(K:(Nat->HO)->Prop):Prop:=
 match h o with
 |.cells cs=>match JB cs k with
  |.slice (.ver r sz v) es=>match h r with
   |.var HM v' _=>match h d with
    |.free=>(v=v'/\sz=HM)/\K (AC (AC (AC h r (.vox v)) d (.tok sz es.length)) o (.cells (EO cs k (.slice (.id d sz) es))))
    |_=>False
   |_=>False
  |_=>K h
 |_=>False
def zN(h:Nat->HO)(o k r:Nat)(K:(Nat->HO)->Prop):Prop:=
 match h o with
 |.cells cs=>match JB cs k with
  |.slice (.id d sz) es=>match h d with
   |.tok HM n=>match h r with
    |.vox v=>(es.length=n/\sz=HM)/\K (AC (AC (AC h d .dead) r (.var sz (v+1) n)) o (.cells (EO cs k (.slice (.ver r sz (v+1)) es))))
    |_=>False
   |_=>False
  |_=>K h
 |_=>False
def nvK(h:Nat->HO)(r:Nat)(K:(Nat->HO)->Prop):Prop:=
 match h r with
 |.free=>K (AC h r (.vox 0))
 |_=>False
def zM(h:Nat->HO)(o k:Nat)(K:(Nat->HO)->Prop):Prop:=
 match h o with
 |.cells cs=>match JB cs k with
  |.mref r=>match h r with
   |.rom sh BV=>K (AC h o (.cells (EO cs k (.cmap sh BV))))
   |_=>False
  |_=>False
 |_=>False
def zaK(h:Nat->HO)(o k j sz:Nat)(K:(Nat->HO)->Prop):Prop:=
 match h o with
 |.cells cs=>match JB cs k with
  |.v (.slice none 0 0)=>match h j with
   |.free=>K (AC (AC h j (.arr sz [])) o (.cells (EO cs k (.msl j 0))))
   |_=>False
  |_=>False
 |_=>False
def fz0(id:Nat)(h:Nat->HO)(K:(Nat->HO)->Prop):Prop:=
 match Es cx.pl.ak (850000+id)with
 |some v=>K (kK h v)
 |none=>K h
def zL(id:Nat)(h:Nat->HO)(K:(Nat->HO)->Prop):Prop:=
 match Es cx.pl.ak (800000+id)with
 |some v=>zM h (v % 10000) (v / 10000 % 100) K
 |none=>K h
def yE(id:Nat)(h:Nat->HO)(K:(Nat->HO)->Prop):Prop:=
 match Es cx.pl.ak (810000+id)with
 |some v=>zM h (v % 10000) (v / 10000 % 100) K
 |none=>K h
def vG(id:Nat)(h:Nat->HO)(K:(Nat->HO)->Prop):Prop:=
 match Es cx.pl.ak (900000+id)with
 |some v=>zaK h (v % 10000) (v / 10000 % 100) (v / 1000000 % 10000) (v / 10000000000) K
 |none=>K h
def hoK(h:Nat->HO)(r:Nat)(K:(Nat->HO)->Prop):Prop:=
 match h r with
 |.hol sz es i c (.msl j m)=>match Nat.beq r j with
  |true=>False
  |false=>match h j with
   |.arr eY qs=>m=qs.length/\∃cs,es[i]?=some cs/\c<sz/\K (AC (AC (AC h j (.tok eY qs.length)) j .dead) r (.arr sz (es.set i (over cs c [.slice .none qs]))))
   |_=>False
 |_=>False
def uO(id:Nat)(h:Nat->HO)(K:(Nat->HO)->Prop):Prop:=
 match Es cx.pl.ak (500000+id)with
 |some v=>uvK h (v % 10000) (v / 10000 % 100) (v / 1000000) K
 |none=>match Es cx.pl.ak (600000+id)with
  |some v=>zN h (v % 10000) (v / 10000 % 100) (v / 1000000) K
  |none=>match Es cx.pl.ak (700000+id)with
   |some v=>nvK h v K
   |none=>match Es cx.pl.ak (950000+id)with
    |some v=>hoK h v K
    |none=>fz0 cx id h fun h=>zL cx id h fun h=>yE cx id h fun h=>vG cx id h K
def zY(st:St)(s k:Nat)(K:St->Prop):Prop:=
 match st.t s with
 |.msl r n=>match st.h r with
  |.arr sz es=>match k with
   |0=>n=es.length/\K ⟨JJ st.t s (.slice .none es),AC (AC st.h r (.tok sz es.length)) r .dead⟩
   |k+1=>match Nat.beq r (k+1)with
    |true=>K st
    |false=>match st.h (k+1)with
     |.free=>n=es.length/\K ⟨JJ st.t s (.msl (k+1) n),AC (AC st.h r .dead) (k+1) (.arr sz es)⟩
     |_=>False
  |_=>K st
 |_=>K st
def wG(id:Nat)(st:St)(K:St->Prop):Prop:=
 match IS cx.pl.cut id with
 |true=>match Es cx.pl.ak (100000+id)with
  |none=>match Es cx.pl.ak (200000+id)with
   |none=>match Es cx.pl.ak (300000+id)with
    |none=>uO cx id st.h fun h'=>∃s:LS,St.le cx ⟨st.t,h'⟩ s/\K s.st
    |some v=>zX st.h (v % 10000) (v / 10000 % 100) (v / 1000000) fun h'=>∃s:LS,St.le cx ⟨st.t,h'⟩ s/\K s.st
   |some v=>zY st (v % 1000) (v / 1000) fun EA=>∃s:LS,St.le cx EA s/\K s.st
  |some v=>z6 st.h (v % 1000) (v / 1000) fun h'=>∃s:LS,St.le cx ⟨st.t,h'⟩ s/\K s.st
 |false=>K st
def M0(cx:Cx)(c:Code)(Q:Ex->St->Prop)(st:St):Prop:=
 match c with
 |.skip=>Q .normal st
 |.label _=>Q .normal st
 |.region id ops dr=>wG cx id st fun st=>match cx.pl.dyn with
  | []=>MZ cx ops dr st (Q .normal)
  |_=>∃n,MZ { cx with nid:=n } ops dr st (Q .normal)
 |.seq a b=>M0 cx a (fun e EA=>match e with |.normal=>M0 cx b Q EA |e=>Q e EA) st
 |.cond c a b=>match ev st.t c with
  |.v (.bool true)=>M0 cx a Q st
  |.v (.bool false)=>M0 cx b Q st
  |_=>False
 |.block id c=>M0 cx c (fun e EA=>match e with |.exit j=>(bif Nat.beq j id then Q .normal EA else Q (.exit j) EA) |e=>Q e EA) st
 |.loop c=>∃(α:Type) (I:α->LS) (μ:α->Nat),(∃x,St.le cx st (I x)) /\
   ∀x,M0 cx c (fun e EA=>match e with | .normal=>∃y,μ y<μ x/\St.le cx EA (I y) | e=>Q e EA) (I x).st
 |.exit id=>Q (.exit id) st
 |.ret=>Q .ret st
 |_=>False
def L6:List AV->Nat->AV
 | [],_=>.v undef
 |a::r,n=>match n with |0=>a |n+1=>L6 r n
def qD(T:G0)(st:St):List ResultVar->(List AV->Prop)->Prop
 | [],K=>K []
 |.tmp i::r,K=>qD T st r fun l=>K (str st.h (st.t i)::l)
 |.cell a t::r,K=>Jw T st.h t (st.t a) fun v=>qD T st r fun l=>K (str st.h v::l)
def iF(st:St)(rs:List ResultVar)(K:AV->Prop):Prop:=
 qD cx.T ⟨st.t,Nw st.h cx.pl.fin⟩ rs fun
  | [v]=>K v
  |vs=>K (.tup vs)
def bv(rs:List ResultVar)(K:AV->Prop)(e:Ex)(st:St):Prop:=
 match e with
 |.normal=>iF cx st rs K
 |.ret=>iF cx st rs K
 |.exit _=>False
def qE(T:G0)(st:St):List ResultVar->(List AV->Prop)->Prop
 | [],K=>K []
 |.tmp i::r,K=>qE T st r fun l=>K (st.t i::l)
 |.cell a t::r,K=>Jw T st.h t (st.t a) fun v=>qE T st r fun l=>K (v::l)
def iE(st:St)(rs:List ResultVar)(σ:HJ)(Q:AV->(Nat->HO)->Prop):Prop:=
 qE cx.T ⟨st.t,Nw st.h cx.pl.fin⟩ rs fun
  | [v]=>Q (ren (Cf σ) (Nw st.h cx.pl.fin) v) (Fo σ (Nw st.h cx.pl.fin))
  |vs=>Q (ren (Cf σ) (Nw st.h cx.pl.fin) (.tup vs)) (Fo σ (Nw st.h cx.pl.fin))
def Vc(rs:List ResultVar)(σ:HJ)(Q:AV->(Nat->HO)->Prop)(e:Ex)(st:St):Prop:=
 match e with
 |.normal=>iE cx st rs σ Q
 |.ret=>iE cx st rs σ Q
 |.exit _=>False
def FJ(σ:HJ):List (Nat×HO)->Bool
 | []=>true
 |(i,_)::r=>Nat.ble 1000 i&&Nat.blt i 2000&&(match Cf σ i with |some j=>Nat.beq j i |none=>false)&&FJ σ r
theorem yN{n m:Nat}{b:Prop}(k:b)(h:n <= m := by exact Gm rfl):n <= m /\ b := ⟨h,k⟩
abbrev nzA:AV := .v (.slice none 0 0)
abbrev pC(a c:List Nat):Md := ⟨a,[],[],[],[],[],[],[],[],[],c⟩
abbrev pT(a:List Nat)(b:List (Nat×Nat))(c:List Nat):Md := ⟨a,b,[],[],[],[],[],[],[],[],c⟩
end Go.Eng
