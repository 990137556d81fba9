/- Lemmas 4. -/
import Derived.Test.YtpgfieopnnkpfaaGreatDoorQA00
import Derived.WalkKit
import Derived.Still
import Derived.RangeFuncSeq
import Derived.OrdersIn
import Derived.TacticsIn
namespace Go.Eng
variable {vs:Array Value}{E:TypeId}(op:BinOp)(f:Nat->Option Nat)(o:Oper)
theorem aa3{p:Prop}(h:p:=by kernel_rfl):p:=h
theorem A0a{A:Type}{x:Option A}{a b:A}(h:x=some a)(k:a=b:=by kernel_rfl):x=some b:=h.trans (congrArg some k)
inductive Tk | none | full (sz:Nat) | id (r sz:Nat) | ver (r sz v:Nat)
inductive KS | int (k:IntKind) | str | bool
structure EE where
 agg:Bool
 l:List KS
variable (sh:EE)
inductive AV
 |v (x:Value)
 |slice (tk:Tk) (es:List (List AV))
 |msl (r n:Nat)
 |agg (cs:List AV)
 |tup (vs:List AV)
 |cptr (cs:List AV)
 |ref (r off:Nat)
 |eref (r n sz i off:Nat)
 |mref (r:Nat)
 |cmap (sh:EE) (BN:List (Value×AV))
 |clo (f:Nat) (caps:List AV)
 |junk
variable (x:AV)(K:AV->Prop)
inductive HO
 |free
 |dead
 |cells (cs:List AV)
 |ro (cs:List AV)
 |tok (sz n:Nat)
 |var (sz v n:Nat)
 |vox (v:Nat)
 |arr (sz:Nat) (es:List (List AV))
 |map (sh:EE) (BN:List (Value×AV))
 |mapU (sh:EE) (BN:List (Value×AV))
 |rom (sh:EE) (BN:List (Value×AV))
 |iter (all rem:List (Value×AV)) (D1:Option (Value×AV))
 |raw (b:Nat) (ob:Obj)
 |hol (sz:Nat) (es:List (List AV)) (i c:Nat) (a:AV)
 |bld (x:AV)
 |bbf (n:Nat)
structure St where
 t:Nat->AV
 h:Nat->HO
def Af:Nat->HO:=fun _=>.free
def AJ(h:Nat->HO)(r:Nat)(o:HO):Nat->HO:=fun i=>bif Nat.beq i r then o else h i
def Jp(t:Nat->AV)(d:Nat)(v:AV):Nat->AV:=fun i=>bif Nat.beq i d then v else t i
def St.put(st:St)(d:Option Nat)(v:AV)(h:Nat->HO):St:=
 match d with
 |none=>⟨st.t,h⟩
 |some d=>⟨Jp st.t d v,h⟩
def ev(t:Nat->AV):Operand->AV
 |.tmp i=>t i
 |.const v=>.v v
 |.global g=>.v (.pointer (some ⟨g,0,none⟩))
 |.func f=>.v (.func (.func f) #[] #[])
inductive TD
 |int (k:IntKind) |bool |string |slice (e:Nat) |array (n e:Nat) |struct (fs:List (Nat×Nat)) |ptr (e:Nat) |map (k e:Nat) |func |iface |other
structure TI where
 d:TD
 size:Nat
 bytes:Nat
 zero:Value
 eqok:Bool
def TI.zc(i:TI):List Value:=match i.zero with | .agg cs=>cs.toList | v=>[v]
abbrev GB:=Nat->TI
structure Nm where
 frz:List Nat
 tok:List (Nat×Nat)
 arr:List (Nat×Nat)
 fz:List (Nat×List Nat)
 fin:List Nat
 mku:List Nat
 dyn:List Nat
 tz:List (Nat×(Nat×Nat×Nat×Nat))
 dc:List (Nat×Nat)
 ak:List (Nat×Nat)
 cut:List Nat
def Is(l:List Nat)(n:Nat):Bool:=
 match l with
 | []=>false
 |x::r=>bif Nat.beq x n then true else Is r n
def GO(l:List (Nat×Nat))(n:Nat):Option Nat:=
 match l with
 | []=>none
 |(x,y)::r=>bif Nat.beq x n then some y else GO r n
def str0(h:Nat->HO):AV->AV
 |.slice _ es=>.slice .none es
 |.ref r off=>match h r with |.ro cs=>.cptr (cs.drop off) |_=>.junk
 |.mref r=>match h r with |.rom sh BN=>.cmap sh BN |_=>.junk
 |.v x=>.v x
 |.cptr cs=>.cptr cs
 |.cmap s m=>.cmap s m
 |_=>.junk
def str(h:Nat->HO):AV->AV
 |.agg cs=>.agg (cs.map (str0 h))
 |.clo f cs=>.clo f (cs.map (str0 h))
 |a=>str0 h a
def Zt(h:Nat->HO)(BN:List (Value×AV)):List (Value×AV):=BN.map fun p=>(p.1,str h p.2)
def ji(h:Nat->HO)(r:Nat):Nat->HO:=
 match h r with
 |.cells cs=>AJ h r (.ro (cs.map (str h)))
 |.map sh BN=>AJ h r (.rom sh BN)
 |.mapU sh BN=>AJ h r (.rom sh (Zt h BN))
 |_=>h
def Pz(h:Nat->HO):List Nat->Nat->HO
 | []=>h
 |r::l=>Pz (ji h r) l
def qb(l:List (Nat×List Nat))(n:Nat):List Nat:=
 match l with
 | []=>[]
 |(x,y)::r=>bif Nat.beq x n then y else qb r n
def s5(l:List (Nat×(Nat×Nat×Nat×Nat)))(n:Nat):Option (Nat×Nat×Nat×Nat):=
 match l with
 | []=>none
 |(x,y)::r=>bif Nat.beq x n then some y else s5 r n
def Kp(l:List AV)(n:Nat):AV:=
 match l with
 | []=>.junk
 |x::r=>match n with |0=>x |n+1=>Kp r n
def Gi(cs:List AV)(o:Nat)(v:AV):List AV:=
 match cs with
 | []=>[]
 |c::cs=>match o with |0=>v::cs |o+1=>c::Gi cs o v
def xb(h:Nat->HO)(r k j sz:Nat):Nat->HO:=
 match h r with
 |.cells cs=>match Kp cs k with
  |.v (.slice none 0 0)=>match h j with
   |.free=>AJ (AJ h j (.tok sz 0)) r (.cells (Gi cs k (.slice (.id j sz) [])))
   |_=>h
  |_=>h
 |_=>h
def rsv(h:Nat->HO):AV->AV
 |.ref r off=>match h r with |.ro cs=>.cptr (cs.drop off) |_=>.ref r off
 |.mref r=>match h r with |.rom sh BN=>.cmap sh BN |_=>.mref r
 |a=>a
def Xm:AV->Bool
 |.v x=>x.oneCell'
 |.agg _ |.tup _ |.junk=>false
 |_=>true
def GN:List AV->Bool
 | []=>true
 |a::r=>match Xm a with |true=>GN r |false=>false
def wz:AV->List AV
 |.agg cs=>cs
 |a=>[a]
def Al(a:Int):Prop:=-9223372036854775808<=a/\a<9223372036854775808
def Ld(cs:List AV)(K:AV->Prop):Prop:=
 match cs with
 |a::_=>K a
 | []=>False
def Iy(p:Prop)(K:AV->Prop):Prop:=(p->K (.v (.bool true)))/\(¬p->K (.v (.bool false)))
def Lh(T:GB)(t:Nat)(cs:List AV)(K:AV->Prop):Prop:=
 match(T t).d with
 |.struct _=>(T t).size<=cs.length/\K (.agg (cs.take (T t).size))
 |.array _ _=>(T t).size<=cs.length/\K (.agg (cs.take (T t).size))
 |.bool=>Ld cs fun |.v (.bool b)=>(b=true->K (.v (.bool true)))/\(b=false->K (.v (.bool false))) |_=>False
 |.other=>False
 |_=>Ld cs K
def ZA:List AV->List AV->Prop
 | [],[]=>True
 |.v (.int _ a)::r,.v (.int _ b)::s=>a=b/\ZA r s
 |.v (.string a)::r,.v (.string b)::s=>a=b/\ZA r s
 |.v (.bool a)::r,.v (.bool b)::s=>a=b/\ZA r s
 |_,_=>False
def sR:IntKind->IntKind->Bool
 |.i64,.i64 |.u8,.u8 |.u32,.u32 |.i32,.i32 |.u64,.u64 |.u16,.u16 |.i16,.i16 |.i8,.i8=>true
 |_,_=>false
def Nw(f:Nat->Option (List KS)):Nat->List (Nat×Nat)->Option (List KS)
 |_,[]=>some []
 |n,(t,o)::r=>match Nat.beq o n with
  |true=>match f t with
   |some a=>match Nw f (n+a.length) r with
    |some b=>some (a++b)
    |none=>none
   |none=>none
  |false=>none
def Hx(T:GB):Nat->Nat->Option (List KS)
 |0,_=>none
 |n+1,t=>match(T t).d with
  |.int k=>match(T t).size with |1=>some [.int k] |_=>none
  |.string=>match(T t).size with |1=>some [.str] |_=>none
  |.bool=>match(T t).size with |1=>some [.bool] |_=>none
  |.struct fs=>match(T t).eqok with
   |true=>match Nw (Hx T n) 0 fs with
    |some l=>match Nat.beq l.length (T t).size with |true=>some l |false=>none
    |none=>none
   |false=>none
  |_=>none
def M9:KS->Value->Bool
 |.int k,.int k' _=>sR k k'
 |.str,.string _=>true
 |.bool,.bool _=>true
 |_,_=>false
def YB:List KS->List AV->Bool
 | [],[]=>true
 |k::r,.v x::s=>match M9 k x with |true=>YB r s |false=>false
 |_,_=>false
def sv(T:GB)(t:Nat)(x y:AV)(K:AV->Prop):Prop:=
 match(T t).d with
 |.bool=>match x,y with
  |.v (.bool a),.v (.bool b)=>K (.v (.bool (a == b)))
  |_,_=>False
 |.struct _=>match x,y with
  |.agg xs,.agg ys=>match Hx T 8 t with
   |some l=>match YB l xs with
    |true=>match YB l ys with
     |true=>Iy (ZA xs ys) K
     |false=>False
    |false=>False
   |none=>False
  |_,_=>False
 |.slice _=>match x,y with
  |.slice _ es,.v (.slice none 0 0)=>(es≠[]->K (.v (.bool false)))/\(es=[]->K (.v (.bool true))/\K (.v (.bool false)))
  |.v (.slice none 0 0),.v (.slice none 0 0)=>K (.v (.bool true))
  |_,_=>False
 |.ptr _=>match x,y with
  |.v (.pointer none),.v (.pointer none)=>K (.v (.bool true))
  |.cptr _,.v (.pointer none)=>K (.v (.bool false))
  |.ref _ _,.v (.pointer none)=>K (.v (.bool false))
  |.eref _ _ _ _ _,.v (.pointer none)=>K (.v (.bool false))
  |_,_=>False
 |_=>False
def fK:AV->Prop
 |.v (.bool true)=>K (.v (.bool false))
 |.v (.bool false)=>K (.v (.bool true))
 |_=>False
def Uu(k:IntKind)(a b:Int):Int:=
 match op with
 |.and=>k.wrap (BitVec.ofInt k.bits a &&& BitVec.ofInt k.bits b).toNat
 |.or=>k.wrap (BitVec.ofInt k.bits a |||BitVec.ofInt k.bits b).toNat
 |_=>k.wrap (BitVec.ofInt k.bits a ^^^ BitVec.ofInt k.bits b).toNat
def oW(k:IntKind)(a b:Int):Int:=
 match op with
 |.shl=>k.wrap (a*2 ^ min b.toNat k.bits)
 |_=>a.fdiv (2 ^ min b.toNat k.bits)
def TA(k:IntKind)(a b:Int)(K:AV->Prop):Prop:=
 match op with
 |.shl=>0<=b/\K (.v (.int k (oW .shl k a b)))
 |.shr=>0<=b/\K (.v (.int k (oW .shr k a b)))
 |_=>False
def VS(k:IntKind)(a b:Int)(K:AV->Prop):Prop:=
 match op with
 |.quo=>(0<=a/\0<b/\k.wrap (a / b)=a / b)/\K (.v (.int k (a / b)))
 |.rem=>(0<=a/\0<b)/\K (.v (.int k (a % b)))
 |.and=>K (.v (.int k (Uu .and k a b)))
 |.or=>K (.v (.int k (Uu .or k a b)))
 |.xor=>K (.v (.int k (Uu .xor k a b)))
 |.add=>K (.v (.int k (k.wrap (a+b))))
 |.sub=>K (.v (.int k (k.wrap (a-b))))
 |.mul=>K (.v (.int k (k.wrap (a*b))))
 |op=>TA op k a b K
def RB(k:IntKind)(a b:Int)(K:AV->Prop):Prop:=
 match k with
 |.i64=>match op with
  |.add=>Al (a+b)/\K (.v (.int .i64 (a+b)))
  |.sub=>Al (a-b)/\K (.v (.int .i64 (a-b)))
  |.mul=>Al (a*b)/\K (.v (.int .i64 (a*b)))
  |.quo=>(0<=a/\0<b/\Al a)/\K (.v (.int .i64 (a / b)))
  |.rem=>(0<=a/\0<b)/\K (.v (.int .i64 (a % b)))
  |op=>VS op .i64 a b K
 |k=>VS op k a b K
def RG(T:GB)(op:BinOp)(t:Nat)(x y:AV)(K:AV->Prop):Prop:=
 match x,y with
 |.v (.int k a),.v (.int k' b)=>match sR k k' with
  |false=>TA op k a b K
  |true=>match op with
   |.eql=>Iy (a=b) K
   |.neq=>Iy (a≠b) K
   |.lss=>Iy (a<b) K
   |.leq=>Iy (a<=b) K
   |.gtr=>Iy (b<a) K
   |.geq=>Iy (b<=a) K
   |op=>RB op k a b K
 |.v (.string a),.v (.string b)=>match op with
   |.eql=>Iy (a=b) K
   |.neq=>Iy (a≠b) K
   |.lss=>Iy (Op.bytesLess a.toList b.toList=true) K
   |.geq=>Iy (Op.bytesLess a.toList b.toList=false) K
   |.gtr=>Iy (Op.bytesLess b.toList a.toList=true) K
   |.leq=>Iy (Op.bytesLess b.toList a.toList=false) K
   |.add=>((a.size+b.size:Nat):Int)<=9223372036854775807/\K (.v (.string (a++b)))
   |_=>False
 |x,y=>match op with
  |.eql=>sv T t x y K
  |.neq=>sv T t x y (fK K)
  |_=>False
def XI(T:GB)(op:BinOp)(t:Nat)(Y:Operand)(x y:AV)(K:AV->Prop):Prop:=
 match Y with
 |.const .nilIface=>match x with
  |.v .nilIface=>match(T t).d with
   |.iface=>match op with
    |.eql=>K (.v (.bool true))
    |.neq=>K (.v (.bool false))
    |_=>False
   |_=>False
  |_=>False
 |_=>RG T op t x y K
def UC(T:GB)(s t:Nat)(x:AV)(K:AV->Prop):Prop:=
 match(T s).d,(T t).d,x with
 |.int _,.int .i64,.v (.int _ n)=>Al n/\K (.v (.int .i64 n))
 |.int _,.int k,.v (.int _ n)=>K (.v (.int k (k.wrap n)))
 |.string,.string,.v (.string s)=>K (.v (.string s))
 |.slice e,.string,.slice _ es=>match(T e).d with
  |.int .u8=>∃l:List UInt8,es=l.map (fun b=>[AV.v (.int .u8 b.toNat)])/\K (.v (.string ⟨l.toArray⟩))
  |_=>False
 |_,_,_=>False
def Wf(fs:List (Nat×Nat))(n:Nat):Option (Nat×Nat):=
 match fs with
 | []=>none
 |x::r=>match n with |0=>some x |n+1=>Wf r n
def Sb(T:GB)(s f:Nat)(x:AV)(K:AV->Prop):Prop:=
 match(T s).d with
 |.struct fs=>match Wf fs f with
  |some (t,o)=>match(T t).size with
   |0=>False
   |_+1=>match x with
    |.cptr cs=>K (.cptr (cs.drop o))
    |.ref r off=>K (.ref r (off+o))
    |.eref r n z i off=>K (.eref r n z i (off+o))
    |_=>False
  |none=>False
 |_=>False
def Y2(T:GB)(t:Nat)(cs:List AV)(K:AV->Prop):Prop:=Lh T t cs K
def Ot(T:GB)(s f:Nat)(x:AV)(K:AV->Prop):Prop:=
 match(T s).d,x with
 |.struct fs,.agg cs=>match Wf fs f with
  |some (t,o)=>Y2 T t (cs.drop o) K
  |none=>False
 |_,_=>False
def Jc(T:GB)(t:Nat)(x ix:AV)(K:AV->Prop):Prop:=
 match(T t).d,ix with
 |.slice e,.v (.int .i64 i)=>match(T e).size with
  |0=>False
  |_+1=>match x with
   |.slice _ es=>∃cs,(0<=i/\es[i.toNat]?=some cs)/\cs.length=(T e).size/\K (.cptr cs)
   |.msl r n=>(0<=i/\i<n)/\K (.eref r n (T e).size i.toNat 0)
   |_=>False
 |.array n e,.v (.int .i64 i)=>match(T e).size with
  |0=>False
  |_+1=>match x with
   |.cptr cs=>(0<=i/\i<n)/\K (.cptr (cs.drop (i.toNat*(T e).size)))
   |.ref r off=>(0<=i/\i<n)/\K (.ref r (off+i.toNat*(T e).size))
   |_=>False
 |_,_=>False
def SL(T:GB)(t:Nat)(x ix:AV)(K:AV->Prop):Prop:=
 match(T t).d,x,ix with
 |.string,.v (.string s),.v (.int _ i)=>∃b:UInt8,(0<=i/\s.data[i.toNat]?=some b)/\K (.v (.int .u8 b.toNat))
 |.array n e,.agg cs,.v (.int .i64 i)=>(0<=i/\i<n)/\Y2 T e (cs.drop (i.toNat*(T e).size)) K
 |_,_,_=>False
def Ct(t:Nat->AV):Option Operand->Option (Option Int)
 |none=>some none
 |some x=>match ev t x with |.v (.int .i64 i)=>some (some i) |_=>none
def over{α:Type}(cs:List α)(o:Nat)(vs:List α):List α:=
 match cs with
 | []=>[]
 |c::cs=>match o with
  |o+1=>c::over cs o vs
  |0=>match vs with
   | []=>c::cs
   |v::vs=>v::over cs 0 vs
structure Gh where
 ρ:Nat->Value
 ln:Nat->Nat
 tk:Nat->Bool
 own:Nat->Option Nat
 S:Nat->Nat->Prop
def Jt:List KS->List Value->Bool
 | [],[]=>true
 |k::r,v::s=>match M9 k v with |true=>Jt r s |false=>false
 |_,_=>false
def W3(v:Value):Bool:=
 match sh.agg,v with
 |true,.agg cs=>Jt sh.l cs.toList
 |false,v=>Jt sh.l [v]
 |_,_=>false
def Ha(es:Array MapEntry)(ck:Nat)(BN:List (Value×AV)):Prop:=
 es.size=BN.length/\(∀(i:Nat) (kv:Value×AV) (e:MapEntry),BN[i]?=some kv->es[i]?=some e->e.key=kv.1) /\
 (∀kv∈BN,W3 sh kv.1=true)/\(BN.map (·.1)).Nodup/\(∀(i:Nat) (e:MapEntry),es[i]?=some e->e.born<ck) /\
 ∀(i j:Nat) (e e' : MapEntry),es[i]?=some e->es[j]?=some e'->e.born=e'.born->i=j
inductive A5(g:Gh)(w:World):(Nat->Prop)->AV->Value->Prop
 |v (U:Nat->Prop) (x:Value):A5 g w U (.v x) x
 |junk (U:Nat->Prop) (x:Value):A5 g w U .junk x
 |snil (U:Nat->Prop) (a:Option Addr) (cap:Nat):A5 g w U (.slice .none []) (.slice a 0 cap)
 |slice (U:Nat->Prop) (es:List (List AV)) (b off sz cap:Nat) (val:Nat->Nat->Value) (hc:es.length<=cap)
   (hl:∀(i:Nat) (cs:List AV),es[i]?=some cs->cs.length=sz)
   (CY:∀(i:Nat) (cs:List AV) (j:Nat) (av:AV),es[i]?=some cs->cs[j]?=some av ->
    g.S b (off+i*sz+j)/\w.cell? ⟨b,off+i*sz+j,none⟩=some (val i j)/\(val i j).oneCell'=true)
   (DS:∀(i:Nat) (cs:List AV) (j:Nat) (av:AV),es[i]?=some cs->cs[j]?=some av->A5 g w (fun _=>False) av (val i j)) :
   A5 g w U (.slice .none es) (.slice (some ⟨b,off,none⟩) es.length cap)
 |tok (U:Nat->Prop) (r sz:Nat) (es:List (List AV)) (x:Value) (h:A5 g w U (.slice .none es) x) (hl:∀c∈es,c.length=sz) (hu:U r) (ht:g.tk r=true) (hn:es.length<=g.ln r)
   (hx:es.length=g.ln r->x=g.ρ r):A5 g w U (.slice (.id r sz) es) x
 |ver (U:Nat->Prop) (r sz v:Nat) (es:List (List AV)) (x:Value) (h:A5 g w U (.slice .none es) x) (hl:∀c∈es,c.length=sz) (hu:U r) (ht:g.tk r=true) (hn:v<=g.ln r)
   (hx:v=g.ln r->x=g.ρ r):A5 g w U (.slice (.ver r sz v) es) x
 |full (U:Nat->Prop) (sz:Nat) (es:List (List AV)) (x:Value) (h:A5 g w U (.slice .none es) x) (hl:∀c∈es,c.length=sz) (hx:∃a,x=.slice a es.length es.length):A5 g w U (.slice (.full sz) es) x
 |msl (U:Nat->Prop) (r n:Nat) (a:Option Addr) (cap:Nat) (hu:U r) (ht:g.tk r=true) (hn:n<=g.ln r) (ha:n=0\/∃b,a=some ⟨b,0,none⟩) (hx:n=g.ln r->.slice a n cap=g.ρ r) :
   A5 g w U (.msl r n) (.slice a n cap)
 |agg (U:Nat->Prop) (cs:List AV) (vs:Array Value) (hs:vs.size=cs.length) (h1:∀(i:Nat) (x:Value),vs[i]?=some x->x.oneCell'=true)
   (h:∀(i:Nat) (av:AV) (x:Value),cs[i]?=some av->vs[i]?=some x->A5 g w U av x):A5 g w U (.agg cs) (.agg vs)
 |tup (U:Nat->Prop) (cs:List AV) (vs:Array Value) (hs:vs.size=cs.length)
   (h:∀(i:Nat) (av:AV) (x:Value),cs[i]?=some av->vs[i]?=some x->A5 g w U av x):A5 g w U (.tup cs) (.tuple vs)
 |cptr (U:Nat->Prop) (cs:List AV) (b off:Nat) (val:Nat->Value)
   (CY:∀(j:Nat) (av:AV),cs[j]?=some av->g.S b (off+j)/\w.cell? ⟨b,off+j,none⟩=some (val j)/\(val j).oneCell'=true)
   (DS:∀(j:Nat) (av:AV),cs[j]?=some av->A5 g w (fun _=>False) av (val j)) :
   A5 g w U (.cptr cs) (.pointer (some ⟨b,off,none⟩))
 |ref (U:Nat->Prop) (r off b:Nat) (hu:U r) (ht:g.tk r=false) (hx:g.ρ r=.pointer (some ⟨b,0,none⟩)):A5 g w U (.ref r off) (.pointer (some ⟨b,off,none⟩))
 |eref (U:Nat->Prop) (r n sz i off b cap:Nat) (hu:U r) (ht:g.tk r=true) (hn:i<n/\n<=g.ln r) (hx:n=g.ln r->g.ρ r=.slice (some ⟨b,0,none⟩) n cap) :
   A5 g w U (.eref r n sz i off) (.pointer (some ⟨b,i*sz+off,none⟩))
 |mref (U:Nat->Prop) (r b:Nat) (hu:U r) (ht:g.tk r=false) (hx:g.ρ r=.map (some b)):A5 g w U (.mref r) (.map (some b))
 |cmap (U:Nat->Prop) (sh:EE) (BN:List (Value×AV)) (b:Nat) (es:Array MapEntry) (ck:Nat) (hS:g.S b 0) (hb:w.heap[b]?=some (.map es ck)) (hm:Ha sh es ck BN)
   (h:∀(i:Nat) (kv:Value×AV) (e:MapEntry),BN[i]?=some kv->es[i]?=some e->A5 g w (fun _=>False) kv.2 e.val):A5 g w U (.cmap sh BN) (.map (some b))
 |clo (U:Nat->Prop) (f:Nat) (cs:List AV) (vs:Array Value) (hs:vs.size=cs.length)
   (h:∀(i:Nat) (av:AV) (x:Value),cs[i]?=some av->vs[i]?=some x->A5 g w U av x):A5 g w U (.clo f cs) (.func (.func f) #[] vs)
def HO.live:HO->Prop
 |.free |.dead |.vox _ |.ro _ |.rom _ _=>False
 |_=>True
def used(h:Nat->HO)(r:Nat):Prop:=h r≠.free
def EZ:Nat->Prop:=fun _=>False
def B2(g:Gh)(w:World)(U:Nat->Prop)(cs:List AV)(vs:List Value):Prop:=
 vs.length=cs.length/\(∀x∈vs,x.oneCell'=true)/\∀(i:Nat) (av:AV) (x:Value),cs[i]?=some av->vs[i]?=some x->A5 g w U av x
def Od:List Nat->Code->Bool
 |bs,.block id c=>Od (id::bs) c
 |bs,.seq a b=>Od bs a||Od bs b
 |bs,.cond _ a b=>Od bs a||Od bs b
 |bs,.loop c=>Od bs c
 |bs,.exit id=>!(bs.any fun i=>Nat.beq i id)
 |_,_=>false
def td:Obj->Bool
 |.loop r=>Od [] r.body
 |_=>false
def Qj(w:World)(b:Nat)(vs:Array Value)(E:TypeId):Prop:=∃f:Nat×Nat,w.heap[b]?=some (.cells vs E f)/\(f=(0,0)\/vs.size<=f.1)
theorem Qj.eq{w w' : World}{b:Nat}(h:Qj w b vs E)(e:w'.heap[b]?=w.heap[b]?):Qj w' b vs E:=by
 obtain⟨f,h1,h2⟩:=h;exact⟨f,e.trans h1,h2⟩
theorem Qj.of{w:World}{b:Nat}(h:w.heap[b]?=some (.cells vs E (0,0))):Qj w b vs E:=⟨_,h,.inl rfl⟩
def XJ:Nat:=104
def u8T:Nat:=5
def DB(g:Gh)(w:World)(U:Nat->Prop)(r:Nat):HO->Prop
  |.free |.dead=>True
  |.cells cs=>g.tk r=false/\∃b E vs,g.own r=some b/\g.ρ r=.pointer (some ⟨b,0,none⟩)/\w.heap[b]?=some (.cells vs E (0,0))/\B2 g w U cs vs.toList/\∀o,¬g.S b o
  |.ro cs=>g.tk r=false/\∃b,g.ρ r=.pointer (some ⟨b,0,none⟩)/\A5 g w EZ (.cptr cs) (.pointer (some ⟨b,0,none⟩))
  |.tok sz n=>g.tk r=true/\g.ln r=n/\∃a cap,g.ρ r=.slice a n cap/\(n=cap/\g.own r=none \/
      n<=cap/\∃b E vs off,a=some ⟨b,off,none⟩/\g.own r=some b/\Qj w b vs E/\vs.size=off+cap*sz/\∀o,g.S b o->o<off+n*sz)
  |.var sz v n=>g.tk r=true/\g.ln r=v/\∃a cap,g.ρ r=.slice a n cap/\(n=cap/\g.own r=none \/
      n<=cap/\∃b E vs off,a=some ⟨b,off,none⟩/\g.own r=some b/\Qj w b vs E/\vs.size=off+cap*sz/\∀o,g.S b o->o<off+n*sz)
  |.vox v=>g.tk r=true/\g.ln r=v
  |.arr sz es=>g.tk r=true/\g.ln r=es.length/\(∀cs∈es,cs.length=sz)/\(es=[]/\g.ρ r=.slice none 0 0/\g.own r=none \/
      ∃b cap E vs,g.ρ r=.slice (some ⟨b,0,none⟩) es.length cap/\g.own r=some b/\es.length<=cap/\w.heap[b]?=some (.cells vs E (0,0))/\vs.size=cap*sz /\
        B2 g w EZ es.flatten (vs.toList.take (es.length*sz))/\∀o,¬g.S b o)
  |.map sh BN=>g.tk r=false/\∃b es ck,g.own r=some b/\g.ρ r=.map (some b)/\w.heap[b]?=some (.map es ck)/\Ha sh es ck BN /\
      (∀(i:Nat) (kv:Value×AV) (e:MapEntry),BN[i]?=some kv->es[i]?=some e->A5 g w EZ kv.2 e.val)/\∀o,¬g.S b o
  |.mapU sh BN=>g.tk r=false/\∃b es ck,g.own r=some b/\g.ρ r=.map (some b)/\w.heap[b]?=some (.map es ck)/\Ha sh es ck BN /\
      (∀(i:Nat) (kv:Value×AV) (e:MapEntry),BN[i]?=some kv->es[i]?=some e->A5 g w U kv.2 e.val)/\∀o,¬g.S b o
  |.rom sh BN=>g.tk r=false/\∃b,g.ρ r=.map (some b)/\A5 g w EZ (.cmap sh BN) (.map (some b))
  |.iter all rem D1=>g.tk r=false/\∃b mb JP seen st es ck,g.own r=some b/\g.ρ r=.pointer (some ⟨b,0,none⟩)/\w.heap[b]?=some (.mapIter (some mb) JP seen st) /\
      g.S mb 0/\w.heap[mb]?=some (.map es ck)/\(∃sh,Ha sh es ck all)/\JP=ck/\st=ck /\
      (∀(i:Nat) (kv:Value×AV) (e:MapEntry),all[i]?=some kv->es[i]?=some e->A5 g w EZ kv.2 e.val) /\
      (rem.Nodup/\∀kv∈rem,kv∈all)/\(∀(i:Nat) (kv:Value×AV) (e:MapEntry),all[i]?=some kv->es[i]?=some e->(kv∈rem↔e.born∉seen)) /\
      (match D1 with | none=>True | some kv=>∃(i:Nat) (e:MapEntry),all[i]?=some kv/\es[i]?=some e/\seen.back?=some e.born)/\∀o,¬g.S b o
  |.hol sz es i c a=>g.tk r=true/\g.ln r=es.length/\(∀cs∈es,cs.length=sz)/\∃b cap E vs,g.ρ r=.slice (some ⟨b,0,none⟩) es.length cap/\g.own r=some b/\es.length<=cap/\w.heap[b]?=some (.cells vs E (0,0))/\vs.size=cap*sz /\
        B2 g w EZ es.flatten (vs.toList.take (es.length*sz))/\(∀o,¬g.S b o)/\i*sz+c<es.length*sz/\∃x,vs[i*sz+c]?=some x/\A5 g w U a x
  |.raw b ob=>g.tk r=false/\g.own r=some b/\w.heap[b]?=some ob/\td ob=true/\∀o,¬g.S b o
  |.bld x=>g.tk r=false/\∃b p v,g.own r=some b/\g.ρ r=.pointer (some ⟨b,0,none⟩)/\w.heap[b]?=some (.cells #[p,v] XJ (0,0))/\(p=.pointer none\/p=.pointer (some ⟨b,0,none⟩))/\A5 g w U x v/\∀o,¬g.S b o
  |.bbf n=>g.tk r=true/\g.ln r=n/\(n=0/\g.ρ r=.slice none 0 0/\g.own r=none\/∃b cap D1,g.ρ r=.slice (some ⟨b,0,none⟩) n cap/\g.own r=some b/\(0<n/\n<=cap)/\cap<=maxLen/\w.heap[b]?=some (.cells D1 u8T (0,0))/\D1.size=cap/\∀o,g.S b o->o<n)
def gB:Nat:=0
def jm:List (Nat×Nat×Option Value):=(3,20,none)::(List.range 20).map fun i=>(3,i,some (.int .u64 ((10 ^ i:Nat):Int)))
def VJ(g:Gh)(w:World):Prop:=(g.S gB 0/\∃m,w.cell? ⟨gB,0,none⟩=some (.int .i64 m))/\∀x∈jm,g.S x.1 x.2.1/\w.cell? ⟨x.1,x.2.1,none⟩=x.2.2
structure Cv(w0:World)(g0:Gh)(h0:Nat->HO)(h:Nat->HO)(g:Gh)(w:World):Prop where
 os:w.os=w0.os
 tape:w.tape=w0.tape
 output:w.output=w0.output
 size:w0.heap.size<=w.heap.size
 frame:∀b,b<w0.heap.size->(∀r,(h0 r).live->g0.own r≠some b)->w.heap[b]?=w0.heap[b]?
 slt:∀b o,g.S b o->b<w.heap.size
 objs:∀r,DB g w (used h) r (h r)
 inj:∀r r' b,(h r).live->(h r').live->g.own r=some b->g.own r'=some b->r=r'
 loc:∀r b,(h r).live->g.own r=some b->b<w.heap.size/\(w0.heap.size<=b\/∃r',(h0 r').live/\g0.own r'=some b)
 sg:∀b o,g.S b o->g0.S b o\/w0.heap.size<=b\/∃r',(h0 r').live/\g0.own r'=some b
 glob:VJ g w
def ED(g:Gh)(w:World)(g' : Gh)(w' : World):Prop:=
 ∀b o,g.S b o->g'.S b o/\w'.cell? ⟨b,o,none⟩=w.cell? ⟨b,o,none⟩/\∀es ck,w.heap[b]?=some (.map es ck)->w'.heap[b]?=some (.map es ck)
def JS(g g' : Gh)(U:Nat->Prop):Prop:=
 ∀i,U i->g'.tk i=g.tk i/\g.ln i<=g'.ln i/\(g.tk i=false->g'.ρ i=g.ρ i)/\(g'.ln i=g.ln i->g'.ρ i=g.ρ i)
structure Le(h:Nat->HO)(g:Gh)(w:World)(h' : Nat->HO)(g' : Gh)(w' : World):Prop where
 gh:JS g g' (used h)
 us:∀i,used h i->used h' i
 keeps:ED g w g' w'
def GM (P : Program) (f : Nat) : Prop := ∃ fn, P.funcs[f]? = some fn /\ (fn.name == "runtime.NumGoroutine") = false /\ fn.body.isNone = false
def Cq(P:Program)(f:Nat)(args:List AV)(h0:Nat->HO)(Q:AV->(Nat->HO)->Prop):Prop:=
 GM P f/\∀(g:Gh) (w:World) (vals:Array Value),vals.size=args.length->(∀(i:Nat) (av:AV) (x:Value),args[i]?=some av->vals[i]?=some x->A5 g w (used h0) av x) ->
  Cv w g h0 h0 g w ->
  Calls P f vals w fun e w'=>∃v r h' g',e=.returned v/\Q r h'/\A5 g' w' (used h') r v/\Cv w g h0 h' g' w'/\Le h0 g w h' g' w'
def K6(P:Program)(f:Nat)(args:List AV)(Gz:AV):Prop:=Cq P f args Af fun r h'=>r=Gz/\h'=Af
def J7(P:Program)(Y:Gh->World->Prop)(l:Nat)(args:List AV)(h0:Nat->HO)(Q:AV->(Nat->HO)->Prop):Prop:=
 ∀(g:Gh) (w:World) (vals:Array Value),vals.size=args.length->(∀(i:Nat) (av:AV) (x:Value),args[i]?=some av->vals[i]?=some x->A5 g w (used h0) av x) ->
  Cv w g h0 h0 g w->Y g w ->
  YieldAt Fence.wide 0 P l vals w fun e w'=>∃v r h' g',e=.returned v/\Q r h'/\A5 g' w' (used h') r v/\Cv w g h0 h' g' w'/\Le h0 g w h' g' w'
def pX(P:Program)(Y:Gh->World->Prop)(f:Nat)(args:List AV)(h0:Nat->HO)(Q:AV->(Nat->HO)->Prop):Prop:=
 GM P f/\∀(g:Gh) (w:World) (vals:Array Value),vals.size=args.length->(∀(i:Nat) (av:AV) (x:Value),args[i]?=some av->vals[i]?=some x->A5 g w (used h0) av x) ->
  Cv w g h0 h0 g w->Y g w ->
  Calls P f vals w fun e w'=>∃v r h' g',e=.returned v/\Q r h'/\A5 g' w' (used h') r v/\Cv w g h0 h' g' w'/\Le h0 g w h' g' w'
def F2(P:Program)(Y:Nat->Gh->World->Prop)(F:AV)(args:List AV)(h:Nat->HO)(Q:AV->(Nat->HO)->Prop):Prop:=
 match F with
 |.v (.func (.func f) ⟨[]⟩ ⟨[]⟩)=>Cq P f args h Q
 |.clo f caps=>Cq P f (args++caps) h Q
 |.v (.func (.yield l) ⟨[]⟩ ⟨[]⟩)=>J7 P (Y l) l args h Q
 |_=>False
def Ph(P:Program)(F:AV)(args:List AV)(Gz:AV):Prop:=
 match F with
 |.v (.func (.func f) ⟨[]⟩ ⟨[]⟩)=>K6 P f args Gz
 |.clo f caps=>K6 P f (args++caps) Gz
 |_=>False
structure Cx where
 P:Program
 T:GB
 pl:Nm
 ext:Bool
 nid:Nat
 yp:Nat->List (Nat×Nat)->Gh->World->Prop
variable (cx:Cx)
def JW(d:Nat):Nat:=bif Is cx.pl.dyn d then cx.nid else d
abbrev HK:=AV->(Nat->HO)->Prop
def Ry(T:GB)(d:Option Nat)(h:Nat->HO)(e:Nat)(K:HK):Prop:=
 match d with
 |none=>False
 |some d=>match h d with
  |.free=>match(T e).d with
   |.other=>False
   |_=>match Nat.beq e XJ with
    |true=>match h 1001,Nat.beq d 1001,(T e).zc with
     |.free,false,[.pointer none,.slice none 0 0]=>K (.ref d 0) (AJ (AJ h 1001 (.bbf 0)) d (.bld (.slice (.id 1001 1) [])))
     |_,_,_=>False
    |false=>match GN ((T e).zc.map .v)with
     |true=>K (.ref d 0) (AJ h d (.cells ((T e).zc.map .v)))
     |false=>False
  |_=>False
def G6(n:Nat)(a:AV)(K:List AV->Prop):Prop:=
 match a with
 |.agg cs=>match Nat.beq cs.length n with
  |true=>K cs
  |false=>False
 |a=>match Xm a with
  |true=>match n with
   |1=>K [a]
   |_=>False
  |false=>False
def dJ(d:Option Nat)(h:Nat->HO)(e:Nat)(x:AV)(K:HK):Prop:=
 match d with
 |none=>False
 |some d=>match h d with
  |.free=>match(cx.T e).d with
   |.other=>False
   |_=>G6 (cx.T e).size x fun cs=>match Is cx.pl.frz d with
    |true=>K (.ref d 0) (AJ h d (.ro (cs.map (str h))))
    |false=>K (.ref d 0) (AJ h d (.cells cs))
  |_=>False
def NX(h:Nat->HO)(t:Nat)(p x:AV)(K:HK):Prop:=
 match(cx.T t).d with
 |.other=>False
 |_=>G6 (cx.T t).size x fun vs=>match p with
  |.ref r off=>match h r with
   |.cells cs=>off+vs.length<=cs.length/\(match Is cx.pl.frz r with
    |true=>K (.v undef) (AJ h r (.ro ((over cs off vs).map (str h))))
    |false=>K (.v undef) (AJ h r (.cells (over cs off vs))))
   |_=>False
  |.eref r n sz i off=>match h r with
   |.arr Ho es=>match Nat.beq sz Ho with
    |true=>n=es.length/\∃cs,es[i]?=some cs/\off+vs.length<=sz/\(match vs with
     | [.msl j m]=>K (.v undef) (AJ h r (.hol sz (es.set i (over cs off [.junk])) i off (.msl j m)))
     |_=>K (.v undef) (AJ h r (.arr sz (es.set i (over cs off (vs.map (str h)))))))
    |false=>False
   |_=>False
  |_=>False
def Jd(T:GB)(h:Nat->HO)(t:Nat)(p:AV)(K:AV->Prop):Prop:=
 match p with
 |.cptr cs=>Lh T t cs K
 |.ref r off=>match h r with
  |.cells cs=>Lh T t (cs.drop off) K
  |.ro cs=>Lh T t (cs.drop off) K
  |_=>False
 |.eref r n sz i off=>match h r with
  |.arr Ho es=>match Nat.beq sz Ho with
   |true=>n=es.length/\∃cs,es[i]?=some cs/\Lh T t (cs.drop off) K
   |false=>False
  |.hol Ho es i' c a=>match Nat.beq sz Ho with
   |true=>(n=es.length/\i=i'/\off=c)/\Lh T t [a] K
   |false=>False
  |_=>False
 |_=>False
def Kd(pl:Nat->Option (Nat×Nat))(cs:List AV)(t:Nat->AV)(ps:List (Nat×Operand))(K:List AV->Prop):Prop:=
 match ps with
 | []=>K cs
 |(i,x)::r=>match pl i with
  |none=>False
  |some (o,n)=>G6 n (ev t x) fun vs=>match Nat.ble (o+n) cs.length with
   |true=>Kd pl (over cs o vs) t r K
   |false=>False
def N6(T:GB):List (Nat×Nat)->Bool
 | []=>true
 |(t,_)::r=>match(T t).size with |0=>false |_+1=>N6 T r
def Pm(T:GB)(ty:Nat)(t:Nat->AV)(ps:List (Nat×Operand))(K:AV->Prop):Prop:=
 match GN ((T ty).zc.map .v)with
 |false=>False
 |true=>match(T ty).d with
  |.struct fs=>match N6 T fs with
   |false=>False
   |true=>Kd (fun i=>match Wf fs i with |some (t,o)=>some (o,(T t).size) |none=>none) ((T ty).zc.map .v) t ps fun cs=>K (.agg cs)
  |.array _ e=>match(T e).size with
   |0=>False
   |_+1=>Kd (fun i=>some (i*(T e).size,(T e).size)) ((T ty).zc.map .v) t ps fun cs=>K (.agg cs)
  |_=>False
def Qo(n sz:Nat)(h:Nat->HO)(es:List (List AV))(t:Nat->AV)(ps:List (Nat×Operand))(K:List (List AV)->Prop):Prop:=
 match ps with
 | []=>K es
 |(i,x)::r=>match Nat.blt i n with
  |true=>G6 sz (ev t x) fun vs=>Qo n sz h (es.set i (vs.map (str h))) t r K
  |false=>False
abbrev KB(b:ByteArray):List (List AV):=b.data.toList.map fun c=>[AV.v (.int .u8 c.toNat)]
def aa(d:Option Nat)(h:Nat->HO)(s t:Nat)(x:AV)(K:HK):Prop:=
 match(cx.T s).d,(cx.T t).d,x with
 |.string,.slice e,.v (.string b)=>match(cx.T e).d,d with
  |.int .u8,some d=>match h (JW cx d)with
   |.free=>K (.slice (.id (JW cx d) 1) (KB b)) (AJ h (JW cx d) (.tok 1 (KB b).length))
   |_=>False
  |_,_=>False
 |_,_,_=>UC cx.T s t x fun v=>K v h
def EI(d:Option Nat)(h:Nat->HO)(sz:Nat)(es:List (List AV))(K:HK):Prop:=
 match d with
 |none=>False
 |some d=>match h (JW cx d)with
  |.free=>match GO cx.pl.arr d with
   |some _=>K (.msl (JW cx d) es.length) (AJ h (JW cx d) (.arr sz es))
   |none=>K (.slice (.id (JW cx d) sz) es) (AJ h (JW cx d) (.tok sz es.length))
  |_=>False
def Ie(d:Option Nat)(h:Nat->HO)(ty n:Nat)(t:Nat->AV)(ps:List (Nat×Operand))(K:HK):Prop:=
 match(cx.T ty).d with
 |.slice e=>match GN ((cx.T e).zc.map .v),Nat.beq (cx.T e).zc.length (cx.T e).size with
  |true,true=>match(cx.T e).size with
   |0=>False
   |_+1=>match Nat.ble (n*(cx.T e).size) 16777216 with
    |true=>Qo n (cx.T e).size h (List.replicate n ((cx.T e).zc.map .v)) t ps fun es=>EI cx d h (cx.T e).size es K
    |false=>False
  |_,_=>False
 |_=>False
def Kj(t:Nat->AV)(h:Nat->HO)(fn:Fn)(first captured:List Operand)(K:AV->Prop):Prop:=
 match fn,first with
 |.func f,[]=>K (.clo f (captured.map fun x=>rsv h (ev t x)))
 |_,_=>False
def AZ(sz:Nat):List (List AV)->Prop
 | []=>True
 |c::r=>c.length=sz/\AZ sz r
def KH(h:Nat->HO)(x:AV)(K:List (List AV)->Prop):Prop:=
 match x with
 |.slice _ es=>K es
 |.v (.slice none 0 0)=>K []
 |.msl r n=>match h r with
  |.arr _ es=>n=es.length/\K es
  |_=>False
 |_=>False
def II(d:Option Nat)(h:Nat->HO)(ty:Nat)(s x:AV)(K:HK):Prop:=
 match(cx.T ty).d with
 |.slice e=>match Nat.beq (cx.T e).zc.length (cx.T e).size with
  |false=>False
  |true=>match(cx.T e).size with
   |0=>False
   |_+1=>KH h x fun es2=>match s with
    |.v (.slice none 0 0)=>(AZ (cx.T e).size es2/\es2.length*(cx.T e).bytes<=140737488355328/\es2.length<=9223372036854775807)/\EI cx d h (cx.T e).size es2 K
    |.slice (.full Ho) es=>match Nat.beq Ho (cx.T e).size with
     |true=>(AZ (cx.T e).size es2/\0<es2.length/\(es.length+es2.length)*(cx.T e).bytes<=140737488355328/\es.length+es2.length<=9223372036854775807)/\EI cx d h (cx.T e).size (es++es2) K
     |false=>False
    |.slice (.id r Ho) es=>match h r with
     |.tok sz n=>match Nat.beq sz (cx.T e).size,Nat.beq Ho sz with
      |true,true=>(AZ sz es2/\es.length=n/\(es.length+es2.length)*(cx.T e).bytes<=140737488355328/\es.length+es2.length<=9223372036854775807) /\
        K (.slice (.id r sz) (es++es2)) (AJ h r (.tok sz (es.length+es2.length)))
      |_,_=>False
     |_=>False
    |.msl r n=>match h r with
     |.arr sz es=>match Nat.beq sz (cx.T e).size with
      |true=>(AZ sz es2/\es.length=n/\(es.length+es2.length)*(cx.T e).bytes<=140737488355328/\es.length+es2.length<=9223372036854775807) /\
        K (.msl r (es.length+es2.length)) (AJ h r (.arr sz (es++es2)))
      |false=>False
     |_=>False
    |_=>False
 |_=>False
abbrev JT:=List (Nat×Nat)
variable (σ:JT)
inductive sV | pure | rel | gen (σ:JT) (nn:Nat) | geny (σ:JT) (nn:Nat)
def Cp(σ:JT)(n:Nat):Option Nat:=
 match σ with
 | []=>none
 |(i,j)::r=>bif Nat.beq i n then some j else Cp r n
def HR(σ:JT)(n:Nat):Option Nat:=
 match σ with
 | []=>none
 |(i,j)::r=>bif Nat.beq j n then some i else HR r n
def D3:JT->Bool
 | []=>true
 |(i,j)::r=>(match Cp r i,HR r j with |none,none=>true |_,_=>false)&&Nat.ble 1000 j&&Nat.blt j 2000&&D3 r
def HF:JT->Bool
 | []=>true
 |(i,j)::r=>(match Cp r i,HR r j with |none,none=>true |_,_=>false)&&HF r
def ren0(h:Nat->HO):AV->AV
 |.slice (.id r sz) es=>match f r with |some r'=>.slice (.id r' sz) es |none=>.slice .none es
 |.slice (.ver r sz v) es=>match f r with |some r'=>.slice (.ver r' sz v) es |none=>.slice .none es
 |.msl r n=>match f r with |some r'=>.msl r' n |none=>.junk
 |.ref r off=>match f r with |some r'=>.ref r' off |none=>str0 h (.ref r off)
 |.eref r n sz i off=>match f r with |some r'=>.eref r' n sz i off |none=>.junk
 |.mref r=>match f r with |some r'=>.mref r' |none=>str0 h (.mref r)
 |a=>str0 h a
def ren1(h:Nat->HO):AV->AV
 |.agg cs=>.agg (cs.map (ren0 f h))
 |.clo g cs=>.clo g (cs.map (ren0 f h))
 |a=>ren0 f h a
def ren(h:Nat->HO):AV->AV
 |.tup cs=>.tup (cs.map (ren1 f h))
 |a=>ren1 f h a
def HO.ren(h:Nat->HO):HO->HO
 |.cells cs=>.cells (cs.map (ren1 f h))
 |.mapU sh BN=>.mapU sh (BN.map fun p=>(p.1,ren1 f h p.2))
 |.hol sz es i c a=>.hol sz es i c (ren1 f h a)
 |.bld x=>.bld (ren1 f h x)
 |o=>o
def Ar(l:List (Nat×HO))(hb:Nat->HO)(i:Nat):HO:=match l with | []=>hb i | (j,v)::r=>bif Nat.beq i j then v else Ar r hb i
def Zd(f:Nat->Option Nat)(h:Nat->HO):JT->List (Nat×HO)
 | []=>[]
 |(i,j)::r=>(j,(h i).ren f h)::Zd f h r
def F8(h:Nat->HO):Nat->HO:=Ar (Zd (Cp σ) h σ) Af
def BG(d k:Nat):Nat:=10000+100*d+k
def FD(d nn:Nat)(j:Nat):Option Nat:=
 match HR σ j with
 |some i=>some i
 |none=>match Nat.ble 2000 j&&Nat.blt j (2000+nn)with |true=>some (BG d (j-2000)) |false=>none
def EF(d nn:Nat)(h h' : Nat->HO):Nat->HO:=fun i=>
 match Cp σ i with
 |some j=>(h' j).ren (FD σ d nn) h'
 |none=>match Nat.ble (BG d 0) i&&Nat.blt i (BG d nn)with |true=>(h' (2000+(i-BG d 0))).ren (FD σ d nn) h' |false=>h i
def DO(h:Nat->HO)(d:Nat):Nat->Bool
 |0=>true
 |k+1=>(match h (BG d k)with |.free=>true |_=>false)&&DO h d k
def CI(σ:JT)(d nn:Nat):Bool:=
 match σ with
 | []=>true
 |(i,_)::r=>!(Nat.ble (BG d 0) i&&Nat.blt i (BG d nn))&&CI r d nn
def RC(l:List (Nat×Nat))(d:Option Nat):Option Nat:=match d with | none=>none | some d=>GO l d
def cM:AV->Bool | .tup _=>false | _=>true
def S9:List AV->Bool
 | []=>true
 |a::r=>match cM a with |true=>S9 r |false=>false
def VD:List AV->Option (List Value)
 | []=>some []
 |.v x::r=>match VD r with |some l=>some (x::l) |none=>none
 |_=>none
def QS(k:Nat)(d:Option Nat)(h:Nat->HO)(F:AV)(args:List AV)(K:HK):Prop:=
 match d,F,args with
 |some d,.v (.func (.func f) ⟨[]⟩ ⟨[]⟩),.msl r n::l=>match VD l with
  |some vs=>match h r with
   |.arr sz es=>match k with
    |0=>∃n' F6,Cq cx.P f (.msl 1000 n::vs.map .v) (Ar [(1000,.arr sz es)] Af) (fun r' h'=>r'=.msl 1000 n'/\h'=Ar [(1000,.arr sz F6)] Af)/\K (.msl r n') (AJ h r (.arr sz F6))
    |_+1=>∃n' F6,(DO h d 1&&Nat.blt r 10000000&&!Nat.beq r (BG d 0))=true/\Cq cx.P f (.msl 1000 n::vs.map .v) (Ar [(1000,.arr sz es)] Af) (fun r' h'=>r'=.msl 2000 n'/\h'=Ar [(1000,.dead),(2000,.arr sz F6)] Af) /\
      K (.msl (BG d 0) n') (AJ (AJ h r .dead) (BG d 0) (.arr sz F6))
   |_=>False
  |none=>False
 |_,_,_=>False
def W6(d:Option Nat)(st:St)(F:AV)(args:List AV)(K:HK):Prop:=
 match d with
 |none=>False
 |some d=>∃sz es,(DO st.h d 1&&cM F&&S9 args)=true/\F2 cx.P (fun l=>cx.yp l []) (str st.h F) (args.map (str st.h)) Af (fun r h'=>r=.slice (.id 2000 sz) es/\h'=Ar [(2000,.tok sz es.length)] Af) /\
   K (.slice (.id (BG d 0) sz) es) (AJ st.h (BG d 0) (.tok sz es.length))
def TN(d:Option Nat)(st:St)(F:AV)(args:List AV)(K:HK):Prop:=
  match d,F,VD args with
  |some _,.v (.func (.yield l) ⟨[]⟩ ⟨[]⟩),some vs=>match st.h 1000,st.h 1001 with
    |.cells [.slice (.id r sz) es],.tok dh n=>(r=1001/\dh=sz)/\∃v F6 n',J7 cx.P (cx.yp l [(1000,1000),(1001,1001)]) l (vs.map .v) (Ar [(1000,.cells [.slice (.id 1001 sz) es]),(1001,.tok sz n)] Af)
          (fun r h'=>r=.v v/\h'=Ar [(1000,.cells [.slice (.id 1001 sz) F6]),(1001,.tok sz n')] Af) /\
        K (.v v) (AJ (AJ st.h 1001 (.tok sz n')) 1000 (.cells [.slice (.id 1001 sz) F6]))
    |_,_=>False
  |_,_,_=>False
def nt:List Nat:=[1000,1001,1002,1003,1004,1005,1006,1007,10900,5]
def jj:AV->Option (Nat×List AV)
 |.v (.func (.func f) ⟨[]⟩ ⟨[]⟩)=>some (f,[])
 |.clo f caps=>some (f,caps)
 |_=>none
def Ya(d:Option Nat)(st:St)(F:AV)(args:List AV)(K:HK):Prop:=
 match d,jj F with
 |some d,some (f,caps)=>∃(σ:JT) (H0 Hn:List (Nat×HO)) (args' : List AV) (Gz:AV),
   (∀h2:Nat->HO,(∀r∈nt,h2 r=st.h r)->F8 σ h2=Ar H0 Af/\args.map (ren (Cp σ) h2)++caps.map (ren0 (Cp σ) h2)=args')/\(D3 σ&&CI σ d 0&&σ.all fun p=>Is nt p.1)=true /\
   Cq cx.P f args' (Ar H0 Af) (fun r h'=>r=Gz/\h'=Ar Hn Af)/\K (ren (FD σ d 0) (Ar Hn Af) Gz) (EF σ d 0 st.h (Ar Hn Af))
 |_,_=>False
def QL(k:Nat)(d:Option Nat)(st:St)(F:AV)(args:List AV)(K:HK):Prop:=
 match Nat.beq k 4 with
 |true=>Ya cx d st F args K
 |false=>QS cx k d st.h F args K
def Gt(dr:Bool)(d:Option Nat)(st:St)(F:AV)(args:List AV)(K:HK):Prop:=
 match dr with
 |true=>match RC cx.pl.dc d with
  |none=>∃Gz,Ph cx.P (str st.h F) (args.map (str st.h)) Gz/\K Gz st.h
  |some 0=>match d with
   |none=>False
   |some d=>∃n sz es,(DO st.h d 1&&cM F&&S9 args)=true/\F2 cx.P (fun l=>cx.yp l []) (str st.h F) (args.map (str st.h)) Af (fun r h'=>r=.msl 2000 n/\h'=Ar [(2000,.arr sz es)] Af) /\
     K (.msl (BG d 0) n) (AJ st.h (BG d 0) (.arr sz es))
  |some (k+1)=>match Nat.beq k 2 with
   |true=>W6 cx d st F args K
   |false=>match Nat.beq k 3 with
    |true=>TN cx d st F args K
    |false=>QL cx k d st F args K
 |false=>∃m:sV,match m with
  |.pure=>∃Gz,Ph cx.P (str st.h F) (args.map (str st.h)) Gz/\K Gz st.h
  |.rel=>F2 cx.P (fun _ _ _=>True) (str st.h F) (args.map (str st.h)) Af fun r h'=>h'=Af/\K r st.h
  |.gen σ nn=>match d with
   |none=>False
   |some d=>(D3 σ&&DO st.h d nn&&CI σ d nn)=true /\
     F2 cx.P (fun l=>cx.yp l σ) (ren (Cp σ) st.h F) (args.map (ren (Cp σ) st.h)) (F8 σ st.h) fun r h'=>K (ren (FD σ d nn) h' r) (EF σ d nn st.h h')
  |.geny σ nn=>match d with
   |none=>False
   |some d=>(D3 σ&&DO st.h d nn&&CI σ d nn)=true /\
     match ren (Cp σ) st.h F with
     |.clo f caps=>pX cx.P (fun g w=>∀l,cx.yp l σ g w) f (args.map (ren (Cp σ) st.h)++caps) (F8 σ st.h) fun r h'=>K (ren (FD σ d nn) h' r) (EF σ d nn st.h h')
     |_=>False
def W8:List AV->Option (List Value)
 | []=>some []
 |.v x::r=>match W8 r with |some l=>some (x::l) |none=>none
 |_=>none
def rF:AV->Option Value
 |.v x=>some x
 |.agg cs=>match W8 cs with |some l=>some (.agg l.toArray) |none=>none
 |_=>none
def HI(T:GB)(t:Nat):Option EE:=
 match(T t).d with
 |.struct _=>match Hx T 8 t with |some l=>some ⟨true,l⟩ |none=>none
 |_=>match Hx T 1 t with |some l=>some ⟨false,l⟩ |none=>none
def oq:KS->KS->Bool
 |.int k,.int k'=>sR k k'
 |.str,.str=>true
 |.bool,.bool=>true
 |_,_=>false
def SS:List KS->List KS->Bool
 | [],[]=>true
 |a::r,b::s=>match oq a b with |true=>SS r s |false=>false
 |_,_=>false
def r7(a b:EE):Bool:=
 match a.agg,b.agg with
 |true,true=>SS a.l b.l
 |false,false=>SS a.l b.l
 |_,_=>false
def JY(T:GB)(ty:Nat)(sh:EE)(k:AV)(K:Value->Prop):Prop:=
 match(T ty).d with
 |.map kt _=>match HI T kt with
  |some sh'=>match r7 sh sh' with
   |true=>match rF k with
    |some kx=>match W3 sh kx with
     |true=>K kx
     |false=>False
    |none=>False
   |false=>False
  |none=>False
 |_=>False
open Classical in
noncomputable def FI(BN:List (Value×AV))(k:Value)(a:AV):List (Value×AV):=
 if ∃a',(k,a')∈BN then BN.map fun p=>if p.1=k then(k,a)else p else BN++[(k,a)]
def Kk(T:GB)(mku:List Nat)(d:Option Nat)(h:Nat->HO)(ty:Nat)(K:HK):Prop:=
 match d with
 |none=>False
 |some d=>match h d with
  |.free=>match(T ty).d with
   |.map kt _=>match HI T kt with
    |some sh=>match Is mku d with
     |true=>K (.mref d) (AJ h d (.mapU sh []))
     |false=>K (.mref d) (AJ h d (.map sh []))
    |none=>False
   |_=>False
  |_=>False
def G7(T:GB)(h:Nat->HO)(ty:Nat)(m k x:AV)(K:HK):Prop:=
 match m with
 |.mref r=>match h r with
  |.map sh BN=>JY T ty sh k fun kx=>K (.v undef) (AJ h r (.map sh (FI BN kx (str h x))))
  |.mapU sh BN=>JY T ty sh k fun kx=>K (.v undef) (AJ h r (.mapU sh (FI BN kx x)))
  |_=>False
 |_=>False
def J0(T:GB)(t:Nat)(K:AV->Prop):Prop:=
 match(T t).d with
 |.other=>False
 |_=>match(T t).zero with
  |.agg cs=>match GN (cs.toList.map .v)with |true=>K (.agg (cs.toList.map .v)) |false=>False
  |z=>K (.v z)
def LM(T:GB)(ty:Nat)(ok:Bool)(BN:List (Value×AV))(kx:Value)(K:AV->Prop):Prop:=
 match(T ty).d with
 |.map _ e=>match ok with
  |true=>(∀a,(kx,a)∈BN->K (.tup [a,.v (.bool true)]))/\((∀a,(kx,a)∉BN)->J0 T e fun z=>K (.tup [z,.v (.bool false)]))
  |false=>(∀a,(kx,a)∈BN->K a)/\((∀a,(kx,a)∉BN)->J0 T e K)
 |_=>False
def LK(T:GB)(ty:Nat)(ok:Bool)(BN:List (Value×AV))(kx:Value)(K:AV->Prop):Prop:=
 match(T ty).d with
 |.map _ e=>match ok with
  |true=>(∃a,((kx,a)∈BN/\∀b,(kx,b)∈BN->b=a)/\K (.tup [a,.v (.bool true)]))\/((∀a,(kx,a)∉BN)/\J0 T e fun z=>K (.tup [z,.v (.bool false)]))
  |false=>(∃a,((kx,a)∈BN/\∀b,(kx,b)∈BN->b=a)/\K a)\/((∀a,(kx,a)∉BN)/\J0 T e K)
 |_=>False
def MC(T:GB)(h:Nat->HO)(ty:Nat)(m k:AV)(ok:Bool)(K:AV->Prop):Prop:=
 match m with
 |.cmap sh BN=>JY T ty sh k fun kx=>LK T ty ok BN kx K
 |.mref r=>match h r with
  |.map sh BN=>JY T ty sh k fun kx=>LK T ty ok BN kx K
  |.mapU sh BN=>JY T ty sh k fun kx=>LK T ty ok BN kx K
  |.rom sh BN=>JY T ty sh k fun kx=>LK T ty ok BN kx K
  |_=>False
 |_=>False
def MD(T:GB)(h:Nat->HO)(ty:Nat)(m k:AV)(ok:Bool)(K:AV->Prop):Prop:=
 match m with
 |.cmap sh BN=>JY T ty sh k fun kx=>LM T ty ok BN kx K
 |.mref r=>match h r with
  |.map sh BN=>JY T ty sh k fun kx=>LM T ty ok BN kx K
  |.mapU sh BN=>JY T ty sh k fun kx=>LM T ty ok BN kx K
  |.rom sh BN=>JY T ty sh k fun kx=>LM T ty ok BN kx K
  |_=>False
 |_=>False
def bv(d:Option Nat)(h:Nat->HO)(x:AV)(K:HK):Prop:=
 match d with
 |none=>False
 |some d=>match h d with
  |.free=>match x with
   |.cmap _ BN=>K (.ref d 0) (AJ h d (.iter BN BN none))
   |.mref r=>match h r with
    |.rom _ BN=>K (.ref d 0) (AJ h d (.iter BN BN none))
    |.map sh BN=>K (.ref d 0) (AJ (AJ h r (.rom sh BN)) d (.iter BN BN none))
    |_=>False
   |_=>False
  |_=>False
def kJ(h:Nat->HO)(x:AV)(K:HK):Prop:=
 match x with
 |.ref r 0=>match h r with
  |.iter all rem _=>(rem=[]->K (.tup [.v (.bool false)]) h) /\
    (∀kv Uc,rem.Perm (kv::Uc)->K (.tup [.v (.bool true),.v kv.1,kv.2]) (AJ h r (.iter all Uc (some kv))))
  |_=>False
 |_=>False
def am(h:Nat->HO)(x:AV)(K:AV->Prop):Prop:=
 match x with
 |.ref r 0=>match h r with
  |.iter _ _ (some kv)=>K (.tup [.v kv.1,kv.2])
  |_=>False
 |_=>False
def Qz(T:GB)(t:Nat)(h:Nat->HO)(x:AV)(K:AV->Prop):Prop:=
 match(T t).d with
 |.slice _=>match x with
  |.slice _ es=>K (.v (.int .i64 es.length))
  |.msl _ n=>K (.v (.int .i64 n))
  |.v (.slice none 0 0)=>K (.v (.int .i64 0))
  |_=>False
 |.string=>match x with
  |.v (.string s)=>K (.v (.int .i64 s.size))
  |_=>False
 |.map _ _=>match x with
  |.cmap _ BN=>K (.v (.int .i64 BN.length))
  |.mref r=>match h r with
   |.map _ BN=>K (.v (.int .i64 BN.length))
   |.mapU _ BN=>K (.v (.int .i64 BN.length))
   |.rom _ BN=>K (.v (.int .i64 BN.length))
   |_=>False
  |_=>False
 |_=>False
def H2(d:Option Nat)(h:Nat->HO)(ty:Nat)(x:AV)(lo hi mx:Option (Option Int))(K:HK):Prop:=
 match lo,hi,mx with
 |some lo,some hi,some mx=>match(cx.T ty).d with
  |.string=>match mx,x with
   |none,.v (.string s)=>(0<=lo.getD 0/\lo.getD 0<=hi.getD s.size/\hi.getD s.size<=s.size)/\K (.v (.string (s.extract (lo.getD 0).toNat (hi.getD s.size).toNat))) h
   |_,_=>False
  |.slice e=>match(cx.T e).size with
   |0=>False
   |_+1=>match x with
    |.slice _ es=>match mx with
     |none=>(0<=lo.getD 0/\lo.getD 0<=hi.getD es.length/\hi.getD es.length<=es.length) /\
       (∀cs∈es,cs.length=(cx.T e).size)/\K (.slice .none ((es.take (hi.getD es.length).toNat).drop (lo.getD 0).toNat)) h
     |some m=>match d,hi with
      |some d,some hi=>match GO cx.pl.arr d with
       |some _=>(0<=lo.getD 0/\lo.getD 0<=hi/\m=hi/\hi<=es.length)/\(∀cs∈es,cs.length=(cx.T e).size) /\
         K (.slice (.full (cx.T e).size) ((es.take hi.toNat).drop (lo.getD 0).toNat)) h
       |none=>match h d with
        |.free=>(0<=lo.getD 0/\lo.getD 0<=hi/\m=hi/\hi<=es.length)/\(∀cs∈es,cs.length=(cx.T e).size) /\
          K (.slice (.id d (cx.T e).size) ((es.take hi.toNat).drop (lo.getD 0).toNat)) (AJ h d (.tok (cx.T e).size (hi.toNat-(lo.getD 0).toNat)))
        |_=>False
      |_,_=>False
    |.v (.slice none 0 0)=>(lo.getD 0=0/\hi.getD 0=0/\mx.getD 0=0)/\(mx=none\/hi≠none)/\K (.v (.slice none 0 0)) h
    |.msl r n=>match h r with
     |.arr sz es=>match Nat.beq sz (cx.T e).size with
      |true=>(n=es.length/\0<=lo.getD 0/\lo.getD 0<=hi.getD es.length/\hi.getD es.length<=es.length/\(mx=none\/(mx=hi/\hi≠none))) /\
        K (.slice .none ((es.take (hi.getD es.length).toNat).drop (lo.getD 0).toNat)) (AJ h r .dead)
      |false=>False
     |_=>False
    |_=>False
  |_=>False
 |_,_,_=>False
def Tr(d:Option Nat)(h:Nat->HO)(ty:Nat)(x:AV)(lo:Option (Option Int))(hi mx:Option Operand)(K:HK):Prop:=
 match d,lo,hi,mx with
 |some d,some (some lo),none,none=>match(cx.T ty).d with
  |.slice e=>match(cx.T e).size with
   |0=>False
   |_+1=>match x with
    |.slice (.id r sz) es=>match h r with
     |.tok Ho n=>match h (JW cx d)with
      |.free=>match Nat.beq Ho sz,Nat.beq sz (cx.T e).size with
       |true,true=>(es.length=n/\0<=lo/\lo<=es.length)/\K (.slice (.id (JW cx d) sz) (es.drop lo.toNat)) (AJ (AJ h r .dead) (JW cx d) (.tok sz (es.drop lo.toNat).length))
       |_,_=>False
      |_=>False
     |_=>False
    |_=>False
  |_=>False
 |_,_,_,_=>False
def lg(d:Option Nat)(h:Nat->HO)(ty:Nat)(x:AV)(hi:Option (Option Int))(K:HK):Prop:=
 match d,hi with
 |some d,some (some hi)=>match(cx.T ty).d with
  |.slice e=>match(cx.T e).size with
   |0=>False
   |_+1=>match x with
    |.msl r n=>match h r with
     |.arr sz es=>match h (JW cx d)with
      |.free=>match Nat.beq sz (cx.T e).size,Nat.blt r 10000000&&Nat.blt 0 (JW cx d)with
       |true,true=>(n=es.length/\0<=hi/\hi<=es.length)/\K (.msl (JW cx d) hi.toNat) (AJ (AJ h r .dead) (JW cx d) (.arr sz (es.take hi.toNat)))
       |_,_=>False
      |_=>False
     |_=>False
    |_=>False
  |_=>False
 |_,_=>False
def Tg(d:Option Nat)(h:Nat->HO)(ty:Nat)(x:AV)(lo:Option Operand)(hi:Option (Option Int))(mx:Option Operand)(K:HK):Prop:=
 match lo,mx with
 |none,none=>lg cx d h ty x hi K
 |_,_=>False
def ZN(T:GB)(h:Nat->HO)(ty:Nat)(x:AV)(hi mx:Option Operand)(K:AV->Prop):Prop:=
 match hi,mx,(T ty).d,x with
 |none,none,.array n e,.ref r 0=>match(T e).size,h r with
  |1,.ro cs=>n=cs.length/\K (.slice .none (cs.map fun c=>[c]))
  |_,_=>False
 |_,_,_,_=>False
def ls(d:Option Nat)(h:Nat->HO)(ty:Nat)(x:AV)(t:Nat->AV)(lo hi mx:Option Operand)(K:HK):Prop:=
 match lo with
 |none=>match(cx.T ty).d with
  |.array _ _=>ZN cx.T h ty x hi mx fun v=>K v h
  |_=>Tg cx d h ty x none (Ct t hi) mx K
 |some lo=>Tr cx d h ty x (Ct t (some lo)) hi mx K
def unT:AV->AV
 |.slice _ es=>.slice .none es
 |a=>a
def Oa(d:Option Nat)(h:Nat->HO)(x:AV)(K:HK):Prop:=
 match d with
 |none=>K x h
 |some d=>match GO cx.pl.tok d with
  |some sz=>match Nat.beq sz 0 with
   |true=>K (unT x) h
   |false=>match x with
    |.v (.slice none 0 0)=>match h d with
     |.free=>K (.slice (.id d sz) []) (AJ h d (.tok sz 0))
     |_=>False
    |x=>K x h
  |none=>match GO cx.pl.arr d with
   |some sz=>match x with
    |.v (.slice none 0 0)=>match h d with
     |.free=>K (.msl d 0) (AJ h d (.arr sz []))
     |_=>False
    |x=>K x h
   |none=>K x h
def oE(l:List AV)(n:Nat):Option AV:=
 match l with
 | []=>none
 |x::r=>match n with |0=>some x |n+1=>oE r n
def LF(i:Nat)(K:AV->Prop):Prop:=
 match x with
 |.tup vs=>match oE vs i with
  |some a=>K a
  |none=>False
 |_=>False
def Ko:Prop:=
 match x with
 |.ref r o=>K (.ref r o)
 |.eref r n z i o=>K (.eref r n z i o)
 |.cptr cs=>K (.cptr cs)
 |.clo f cs=>K (.clo f cs)
 |.v (.func (.func f) a b)=>K (.v (.func (.func f) a b))
 |_=>False
def Y5(c a b:AV)(K:AV->Prop):Prop:=
 match c with
 |.v (.bool true)=>K a
 |.v (.bool false)=>K b
 |_=>False
def oz(f:Int->Int->Int)(x y:AV)(K:AV->Prop):Prop:=
 match x,y with
 |.v (.int k a),.v (.int k' b)=>match sR k k' with
  |true=>K (.v (.int k (f a b)))
  |false=>False
 |_,_=>False
def Je(d:Option Nat)(h:Nat->HO)(ty:Nat)(len cap:AV)(K:HK):Prop:=
 match(cx.T ty).d,len,cap with
 |.slice e,.v (.int .i64 n),.v (.int .i64 c)=>match GN ((cx.T e).zc.map .v)with
  |true=>match Nat.beq (cx.T e).zc.length (cx.T e).size with
   |true=>match(cx.T e).size with
    |0=>False
    |_+1=>(0<=n/\n<=c/\c*(cx.T e).bytes<=140737488355328/\c<=9223372036854775807)/\EI cx d h (cx.T e).size (List.replicate n.toNat ((cx.T e).zc.map .v)) K
   |false=>False
  |false=>False
 |_,_,_=>False
def Zx(op:UnOp)(x:AV)(K:AV->Prop):Prop:=
 match op,x with
 |.not,x=>fK K x
 |.neg,.v (.int .i64 a)=>Al (-a)/\K (.v (.int .i64 (-a)))
 |.xor,.v (.int k a)=>K (.v (.int k (Uu .xor k (if k.signed then -1 else k.max) a)))
 |_,_=>False
def FR(d:Option Nat)(h:Nat->HO)(b:Builtin)(G0:List Nat)(args:List AV)(K:HK):Prop:=
 match b,args,G0 with
 |.len,[x],[t]=>Qz cx.T t h x fun v=>K v h
 |.append,[s,x],[t,t']=>match Nat.beq t t' with
  |true=>II cx d h t s x K
  |false=>False
 |.max,[x,y],_=>oz max x y fun v=>K v h
 |.min,[x,y],_=>oz min x y fun v=>K v h
 |_,_,_=>False
def FL(dr:Bool)(o:Oper)(st:St)(K:HK):Prop:=
 match o.op with
 |.move x=>K (ev st.t x) st.h
 |.assign x=>Oa cx o.dst st.h (ev st.t x) K
 |.pick c a b=>Y5 (ev st.t c) (ev st.t a) (ev st.t b) fun v=>K v st.h
 |.alloc e=>Ry cx.T o.dst st.h e K
 |.box e x=>dJ cx o.dst st.h e (ev st.t x) K
 |.build ty ps=>Pm cx.T ty st.t ps.toList fun v=>K v st.h
 |.buildSlice ty n ps=>Ie cx o.dst st.h ty n st.t ps.toList K
 |.insert ty m k x=>G7 cx.T st.h ty (ev st.t m) (ev st.t k) (ev st.t x) K
 |.load ty x=>Jd cx.T st.h ty (ev st.t x) fun v=>K v st.h
 |.store ty p x=>NX cx st.h ty (ev st.t p) (ev st.t x) K
 |.nilCheck x=>Ko (ev st.t x) fun v=>K v st.h
 |.binOp op ty x y _=>XI cx.T op ty y (ev st.t x) (ev st.t y) fun v=>K v st.h
 |.unOp op _ x=>Zx op (ev st.t x) fun v=>K v st.h
 |.convert s ty x=>match dr with
  |true=>UC cx.T s ty (ev st.t x) fun v=>K v st.h
  |false=>aa cx o.dst st.h s ty (ev st.t x) K
 |.makeFunc fn first cap=>Kj st.t st.h fn first.toList cap.toList fun v=>K v st.h
 |.makeMap ty none=>Kk cx.T cx.pl.mku o.dst st.h ty K
 |.makeSlice ty n c=>Je cx o.dst st.h ty (ev st.t n) (ev st.t c) K
 |.slice ty x lo hi mx=>match dr with
  |true=>match RC cx.pl.tok o.dst with
   |none=>H2 cx o.dst st.h ty (ev st.t x) (Ct st.t lo) (Ct st.t hi) (Ct st.t mx) K
   |some _=>Tg cx o.dst st.h ty (ev st.t x) lo (Ct st.t hi) mx K
  |false=>match RC cx.pl.tok o.dst with
   |none=>H2 cx o.dst st.h ty (ev st.t x) (Ct st.t lo) (Ct st.t hi) (Ct st.t mx) K
   |some _=>ls cx o.dst st.h ty (ev st.t x) st.t lo hi mx K
 |.fieldAddr s x f=>Sb cx.T s f (ev st.t x) fun v=>K v st.h
 |.field s x f=>Ot cx.T s f (ev st.t x) fun v=>K v st.h
 |.indexAddr ty x ix=>Jc cx.T ty (ev st.t x) (ev st.t ix) fun v=>K v st.h
 |.index ty x ix=>SL cx.T ty (ev st.t x) (ev st.t ix) fun v=>K v st.h
 |.lookup ty x ix ok=>match dr with
  |true=>MC cx.T st.h ty (ev st.t x) (ev st.t ix) ok fun v=>K v st.h
  |false=>MD cx.T st.h ty (ev st.t x) (ev st.t ix) ok fun v=>K v st.h
 |.mapUpdate ty m k x=>G7 cx.T st.h ty (ev st.t m) (ev st.t k) (ev st.t x) K
 |.range ty x=>match(cx.T ty).d with |.map _ _=>bv o.dst st.h (ev st.t x) K |_=>False
 |.next it false=>kJ st.h (ev st.t it) K
 |.entry it=>am st.h (ev st.t it) fun v=>K v st.h
 |.extract x i=>LF (ev st.t x) i fun v=>K v st.h
 |.call c=>match c.callee with
  |.builtin b=>FR cx o.dst st.h b c.argTypes.toList (c.args.toList.map (ev st.t)) K
  |.value f=>Gt cx dr o.dst st (ev st.t f) (c.args.toList.map (ev st.t)) K
  |_=>False
 |_=>False
def KR(ops:List Oper)(j:Nat):Option Nat:=match ops with | []=>none | o::r=>match j with | 0=>o.dst | j+1=>KR r j
def lh(o:Oper)(st:St):St:=
 match o.dst with
 |none=>st
 |some d=>match s5 cx.pl.tz d with
  |some (r,k,j,sz)=>⟨st.t,xb st.h r k j sz⟩
  |none=>match qb cx.pl.fz d with
   | []=>st
   |l=>⟨st.t,Pz st.h l⟩
def xd(o:Oper)(st:St)(K:St->Prop):Prop:=
 match o.dst with
 |none=>K st
 |some d=>match GO cx.pl.ak d with
  |none=>K st
  |some s=>match st.t s with
   |.msl r n=>match st.h r with
    |.arr sz es=>n=es.length/\K ⟨Jp st.t s (.slice (.id r sz) es),AJ st.h r (.tok sz es.length)⟩
    |_=>K st
   |_=>K st
def ij(dr:Bool)(o:Oper)(st:St)(K:St->Prop):Prop:=
 match dr with
 |true=>FL cx true o st fun v h=>K (st.put o.dst v h)
 |false=>xd cx o (lh cx o st) fun ES=>FL cx false o ES fun v h=>K (ES.put o.dst v h)
def Ix(dr:Bool)(all:List Oper)(o:Oper)(st:St)(K:St->Prop):Prop:=
 match o.guard with
 |none=>ij cx dr o st K
 |some (j,want)=>match KR all j with
  |none=>False
  |some d=>match st.t d,want with
   |.v (.bool true),true=>ij cx dr o st K
   |.v (.bool false),false=>ij cx dr o st K
   |.v (.bool true),false=>K (st.put o.dst (.v undef) st.h)
   |.v (.bool false),true=>K (st.put o.dst (.v undef) st.h)
   |.v (.tuple _),_=>K (st.put o.dst (.v undef) st.h)
   |_,_=>False
def Yx(o2:Oper):Bool:=
 match o2.op with
 |.call c=>match c.callee with
  |.builtin .clear=>match o.op with
   |.slice ty _ (some _) none none=>match o.dst,o2.dst,c.args.toList,c.argTypes.toList,o.guard,o2.guard with
    |some d,none,[.tmp d'],[ty'],none,none=>Nat.beq d d'&&Nat.beq ty ty'
    |_,_,_,_,_,_=>false
   |_=>false
  |_=>false
 |_=>false
def tT(d:Nat)(st:St)(r i sz:Nat)(es:List (List AV))(z:List Value)(K:St->Prop):Prop:=
 match z.all Value.oneCell' with
 |true=>K ⟨Jp st.t d .junk,AJ st.h r (.arr sz (es.take i++List.replicate (es.length-i) (z.map AV.v)))⟩
 |false=>False
def mS(o:Oper)(st:St)(K:St->Prop):Prop:=
 match o.op with
 |.slice ty x (some lo) none none=>match o.dst with
  |some d=>match(cx.T ty).d with
   |.slice e=>match ev st.t x with
    |.msl r n=>match ev st.t lo with
     |.v (.int .i64 i)=>match st.h r with
      |.arr sz es=>match Nat.beq sz (cx.T e).size with
       |true=>match(cx.T e).size with
        |0=>False
        |_+1=>match Nat.beq (cx.T e).zc.length sz with
         |true=>(n=es.length/\0<=i/\i<=es.length)/\tT d st r i.toNat sz es (cx.T e).zc K
         |false=>False
       |false=>False
      |_=>False
     |_=>False
    |_=>False
   |_=>False
  |none=>False
 |_=>False
def XA(cx:Cx)(all l:List Oper)(st:St)(K:St->Prop):Prop:=
 match l with
 | []=>K st
 | [o]=>Ix cx false all o st K
 |o::o2::r=>match Yx o o2 with
  |true=>mS cx o st fun ES=>XA cx all r ES K
  |false=>Ix cx false all o st fun ES=>XA cx all (o2::r) ES K
def Yo:AV->List Nat
 |.ref r _=>[r]
 |.mref r=>[r]
 |_=>[]
def n8:List AV->List Nat
 | []=>[]
 |a::r=>Yo a++n8 r
def WB:AV->List Nat
 |.agg cs=>n8 cs
 |.clo _ cs=>n8 cs
 |a=>Yo a
def rz:List AV->List Nat
 | []=>[]
 |a::r=>WB a++rz r
def Yn:AV->List Nat
 |.agg cs=>rz cs
 |a=>WB a
def SE:List AV->List Nat
 | []=>[]
 |a::r=>Yn a++SE r
abbrev Fm:=List Nat×Option Nat
def Ig(d:Option Nat)(l:List Nat):Option Fm:=match d with | some d=>some (d::l,some d) | none=>none
def fD:AV->List Nat
 |.msl r _=>[r]
 |_=>[]
def Wg(d:Option Nat)(s x:AV):Option Fm:=
 match s with
 |.v (.slice none 0 0)=>Ig (d.map (JW cx)) (fD x)
 |.slice (.full _) _=>Ig (d.map (JW cx)) (fD x)
 |.slice (.id r _) _=>Ig (some r) (fD x)
 |.msl r _=>Ig (some r) (fD x)
 |_=>none
def ci(d:Option Nat)(args:List AV):Option Fm:=
 match d with
 |some d=>match args with
  |.msl r _::_=>some ([r,BG d 0],some (r+10000000*BG d 0))
  |_=>none
 |none=>none
theorem au{d:Option Nat}{args:List AV}{f:Fm}(h:ci d args=some f):∃d' r n l,d=some d'/\args=.msl r n::l/\f=([r,BG d' 0],some (r+10000000*BG d' 0)):=by
 unfold ci at h;split at h
 .split at h
  .cases h;exact⟨_,_,_,_,rfl,rfl,rfl⟩
  .cases h
 .cases h
def je(d:Option Nat)(x:AV):Option Fm:=
 match d with
 |some d=>match x with
  |.msl r _=>some ([r,d],some (r+10000000*d))
  |_=>none
 |none=>none
theorem aw{d:Option Nat}{x:AV}{f:Fm}(h:je d x=some f):∃d' r n,d=some d'/\x=.msl r n/\f=([r,d'],some (r+10000000*d')):=by
 unfold je at h;split at h
 .split at h
  .cases h;exact⟨_,_,_,rfl,rfl,rfl⟩
  .cases h
 .cases h
def jf(args:List AV):Option Fm:=match VD args with | some _=>some ([1000,1001],some 10010001000) | none=>none
def VO:Nat:=99999999999999
def jd(k:Nat)(d:Option Nat)(args:List AV):Option Fm:=
 match Nat.beq k 3 with
 |true=>some (nt,some VO)
 |false=>ci d args
def GV(d:Option Nat)(c:Callee)(t:Nat->AV)(args:List AV):Option Fm:=
 match c,args with
 |.builtin .len,[.mref r]=>some ([r],none)
 |.builtin .len,[_]=>some ([],none)
 |.builtin .max,_=>some ([],none)
 |.builtin .min,_=>some ([],none)
 |.builtin .append,[s,x]=>Wg cx d s x
 |.value f,args=>match RC cx.pl.dc d with
  |none=>some (Yn (ev t f)++SE args,none)
  |some 0=>Ig (d.map fun d=>BG d 0) (Yn (ev t f)++SE args)
  |some 1=>match args with |.msl r _::_=>some ([r],some r) |_=>none
  |some (k+2)=>match Nat.beq k 1 with
   |true=>Ig (d.map fun d=>BG d 0) (Yn (ev t f)++SE args)
   |false=>match Nat.beq k 2 with
    |true=>jf args
    |false=>jd k d args
 |_,_=>none
def EO(o:Oper)(st:St):Option Fm:=
 match o.op with
 |.move _ |.pick .. |.nilCheck _ |.unOp .. |.convert .. |.fieldAddr .. |.field .. |.indexAddr .. |.index .. |.extract .. |.build ..=>some ([],none)
 |.binOp _ _ x _ _=>match ev st.t x with |.slice ..=>none |_=>some ([],none)
 |.assign x=>match ev st.t x with |.v (.slice ..)=>none |_=>some ([],none)
 |.load _ p=>match ev st.t p with |.cptr _=>some ([],none) |.ref r _=>some ([r],none) |.eref r ..=>some ([r],none) |_=>none
 |.call c=>GV cx o.dst c.callee st.t (c.args.toList.map (ev st.t))
 |.alloc e=>match Nat.beq e XJ with |true=>none |false=>Ig o.dst []
 |.box _ x=>Ig o.dst (Yn (ev st.t x))
 |.buildSlice _ _ ps=>Ig (o.dst.map (JW cx)) (SE (ps.toList.map fun p=>ev st.t p.2))
 |.store _ p x=>match ev st.t p with
  |.ref r _=>match Is cx.pl.frz r with |true=>none |false=>Ig (some r) []
  |.eref r ..=>Ig (some r) (Yn (ev st.t x))
  |_=>none
 |.slice _ x _ _ mx=>match RC cx.pl.tok o.dst with
  |some _=>je (o.dst.map (JW cx)) (ev st.t x)
  |none=>match mx,ev st.t x with
   |none,.msl ..=>none
   |none,_=>some ([],none)
   |some _,.slice ..=>Ig o.dst []
   |_,_=>none
 |.makeFunc _ _ cap=>some (SE (cap.toList.map (ev st.t)),none)
 |.mapUpdate _ m _ x=>match ev st.t m with |.mref r=>Ig (some r) (Yn (ev st.t x)) |_=>none
 |.makeSlice ..=>Ig (o.dst.map (JW cx)) []
 |.lookup _ m _ _=>match ev st.t m with |.cmap ..=>some ([],none) |.mref r=>some ([r],none) |_=>none
 |.makeMap ..=>Ig o.dst []
 |_=>none
def M7(all:List Oper)(o:Oper)(st:St):Option Fm:=
 match o.guard with
 |none=>EO cx o st
 |some (j,want)=>match KR all j with
  |none=>none
  |some d=>match st.t d,want with
   |.v (.bool true),true=>EO cx o st
   |.v (.bool false),false=>EO cx o st
   |_,_=>some ([],none)
def vG(l:List Nat):Bool:=match l with | []=>true | _=>false
def YZ(l:List Nat)(r:Nat):Bool:=bif Nat.beq r VO then vG l else !Is l r&&(Nat.blt r 10000000||(!Is l (r % 10000000)&&!Is l (r / 10000000)))
def RV(a b:Fm):Bool:=
 (match a.2 with | some r=>YZ b.1 r | none=>true)&&(match b.2 with | some r=>YZ a.1 r | none=>true)
def OA(i:Nat)(D:List Nat):Bool:=o.after.toList.any fun e=>Region.binds .any e&&(Nat.beq e.on i||Is D e.on)
def Pr(i:Nat)(D:List Nat)(k:Nat):List Oper->List Nat
 | []=>D
 |o::r=>match OA o i D with
  |true=>Pr i (k::D) (k+1) r
  |false=>Pr i D (k+1) r
def TF(i:Nat)(D:List Nat)(k:Nat):List Oper->Bool
 | []=>true
 |o::r=>(OA o i D||!Is D k)&&TF i D (k+1) r
def Ib(ops:Array Oper)(oi:Oper)(fi:Fm)(D:List Nat)(k:Nat):List Oper->List Fm->Bool
 |o::r,f::fs=>(Is D k||(oi.apart ops o&&RV fi f))&&Ib ops oi fi D (k+1) r fs
 | [],[]=>true
 |_,_=>false
def LD(ops:Array Oper)(all:List Oper)(k:Nat):List Oper->List Fm->Bool
 |o::r,f::fs=>
  let D:=Pr k [] 0 all
  (o.after.toList.all fun e=>!Region.binds .any e||Nat.blt e.on k)&&TF k D 0 all&&(D.all fun j=>Nat.blt k j&&Nat.blt j all.length)&&Ib ops o f D (k+1) r fs&&LD ops all (k+1) r fs
 | [],[]=>true
 |_,_=>false
def RW(ops:Array Oper)(fs:List Fm):Bool:=Region.noSelect ops&&LD ops ops.toList 0 ops.toList fs
def Xy(cx:Cx)(ops:Array Oper)(l:List Oper)(fs:List Fm)(st:St)(K:St->Prop):Prop:=
 match l with
 | []=>RW ops fs.reverse=true/\K st
 |o::r=>match M7 cx ops.toList o st with
  |some f=>Ix cx true ops.toList o st fun ES=>Xy cx ops r (f::fs) ES K
  |none=>False
def RY(l:List (Nat×AV))(i:Nat):AV:=match l with | []=>.junk | (j,v)::r=>bif Nat.beq i j then v else RY r i
structure LS where
 t:List (Nat×AV)
 h:List (Nat×HO)
 hb:Nat->HO
def LS.st(s:LS):St:=⟨RY s.t,Ar s.h s.hb⟩
def T3(h:Nat->HO)(r:Nat):Bool:=match h r with | .free=>false | _=>true
def ids0(h:Nat->HO):AV->Bool
 |.slice (.id r _) _=>T3 h r
 |.slice (.ver r _ _) _=>T3 h r
 |.msl r _=>T3 h r
 |.ref r _=>T3 h r
 |.eref r _ _ _ _=>T3 h r
 |.mref r=>T3 h r
 |.agg _ |.tup _ |.clo ..=>false
 |_=>true
def Yp(h:Nat->HO):List AV->Bool
 | []=>true
 |a::r=>match ids0 h a with |true=>Yp h r |false=>false
def SF(h:Nat->HO):AV->Bool
 |.agg cs=>Yp h cs
 |.tup cs=>Yp h cs
 |.clo _ cs=>Yp h cs
 |a=>ids0 h a
def SG(h:Nat->HO):List (Value×AV)->Bool
 | []=>true
 |p::r=>match SF h p.2 with |true=>SG h r |false=>false
def n9(h:Nat->HO):List AV->Bool
 | []=>true
 |a::r=>match SF h a with |true=>n9 h r |false=>false
def aO(h:Nat->HO):HO->Bool
 |.cells cs=>n9 h cs
 |.mapU _ BN=>SG h BN
 |.hol _ _ _ _ a=>SF h a
 |.bld x=>SF h x
 |_=>true
def wZ(st:St)(h:Nat->HO):List (Nat×AV)->Prop
 | []=>True
 |(j,a)::r=>(st.t j=a/\SF h a=true)/\wZ st h r
def wY(st:St)(h:Nat->HO):List (Nat×HO)->Prop
 | []=>True
 |(j,o)::r=>(st.h j=o/\aO h o=true)/\wY st h r
def St.le(st:St)(s:LS):Prop:=
 wZ st s.st.h s.t/\wY st s.st.h s.h/\(∀j,s.hb j=.free\/(st.h j=s.hb j/\aO s.st.h (s.hb j)=true)) /\
 match cx.ext with
 |false=>True
 |true=>∀j,1000<=j->j<2000->st.h j≠.free->s.st.h j≠.free
def Mm(ops:Array Oper)(dr:Bool)(st:St)(K:St->Prop):Prop:=
 match dr with
 |false=>XA cx ops.toList ops.toList st K
 |true=>Xy cx ops ops.toList [] st K
inductive Ex | normal | exit (id:Nat) | ret
def xj(h:Nat->HO)(o k:Nat)(K:(Nat->HO)->Prop):Prop:=
 match h o with
 |.cells cs=>match Kp cs k with
  |.msl r n=>match h r with
   |.arr sz es=>n=es.length/\K (AJ (AJ h r (.tok sz es.length)) o (.cells (Gi cs k (.slice (.id r sz) es))))
   |_=>K h
  |_=>K h
 |_=>K h
def xf(h:Nat->HO)(o k j:Nat)(K:(Nat->HO)->Prop):Prop:=
 match h o with
 |.cells cs=>match Kp cs k with
  |.msl r n=>match h r with
   |.arr sz es=>match h j with
    |.free=>n=es.length/\K (AJ (AJ (AJ h r .dead) j (.arr sz es)) o (.cells (Gi cs k (.msl j n))))
    |_=>False
   |_=>False
  |_=>False
 |_=>False
def uvK(h:Nat->HO)(o k d:Nat)(K:(Nat->HO)->Prop):Prop:=
 match h o with
 |.cells cs=>match Kp cs k with
  |.slice (.ver r sz v) es=>match h r with
   |.var Ho v' _=>match h d with
    |.free=>(v=v'/\sz=Ho)/\K (AJ (AJ (AJ h r (.vox v)) d (.tok sz es.length)) o (.cells (Gi cs k (.slice (.id d sz) es))))
    |_=>False
   |_=>False
  |_=>K h
 |_=>False
def rvK(h:Nat->HO)(o k r:Nat)(K:(Nat->HO)->Prop):Prop:=
 match h o with
 |.cells cs=>match Kp cs k with
  |.slice (.id d sz) es=>match h d with
   |.tok Ho n=>match h r with
    |.vox v=>(es.length=n/\sz=Ho)/\K (AJ (AJ (AJ h d .dead) r (.var sz (v+1) n)) o (.cells (Gi cs k (.slice (.ver r sz (v+1)) es))))
    |_=>False
   |_=>False
  |_=>K h
 |_=>False
def nvK(h:Nat->HO)(r:Nat)(K:(Nat->HO)->Prop):Prop:=
 match h r with
 |.free=>K (AJ h r (.vox 0))
 |_=>False
def xa(h:Nat->HO)(o k:Nat)(K:(Nat->HO)->Prop):Prop:=
 match h o with
 |.cells cs=>match Kp cs k with
  |.mref r=>match h r with
   |.rom sh BN=>K (AJ h o (.cells (Gi cs k (.cmap sh BN))))
   |_=>False
  |_=>False
 |_=>False
def zaK(h:Nat->HO)(o k j sz:Nat)(K:(Nat->HO)->Prop):Prop:=
 match h o with
 |.cells cs=>match Kp cs k with
  |.v (.slice none 0 0)=>match h j with
   |.free=>K (AJ (AJ h j (.arr sz [])) o (.cells (Gi cs k (.msl j 0))))
   |_=>False
  |_=>False
 |_=>False
def yZ(id:Nat)(h:Nat->HO)(K:(Nat->HO)->Prop):Prop:=
 match GO cx.pl.ak (850000+id)with
 |some v=>K (ji h v)
 |none=>K h
def w9(id:Nat)(h:Nat->HO)(K:(Nat->HO)->Prop):Prop:=
 match GO cx.pl.ak (800000+id)with
 |some v=>xa h (v % 10000) (v / 10000 % 100) K
 |none=>K h
def v6(id:Nat)(h:Nat->HO)(K:(Nat->HO)->Prop):Prop:=
 match GO cx.pl.ak (810000+id)with
 |some v=>xa h (v % 10000) (v / 10000 % 100) K
 |none=>K h
def sU(id:Nat)(h:Nat->HO)(K:(Nat->HO)->Prop):Prop:=
 match GO cx.pl.ak (900000+id)with
 |some v=>zaK h (v % 10000) (v / 10000 % 100) (v / 1000000 % 10000) (v / 10000000000) K
 |none=>K h
def hoK(h:Nat->HO)(r:Nat)(K:(Nat->HO)->Prop):Prop:=
 match h r with
 |.hol sz es i c (.msl j m)=>match Nat.beq r j with
  |true=>False
  |false=>match h j with
   |.arr dh qs=>m=qs.length/\∃cs,es[i]?=some cs/\c<sz/\K (AJ (AJ (AJ h j (.tok dh qs.length)) j .dead) r (.arr sz (es.set i (over cs c [.slice .none qs]))))
   |_=>False
 |_=>False
def si(id:Nat)(h:Nat->HO)(K:(Nat->HO)->Prop):Prop:=
 match GO cx.pl.ak (500000+id)with
 |some v=>uvK h (v % 10000) (v / 10000 % 100) (v / 1000000) K
 |none=>match GO cx.pl.ak (600000+id)with
  |some v=>rvK h (v % 10000) (v / 10000 % 100) (v / 1000000) K
  |none=>match GO cx.pl.ak (700000+id)with
   |some v=>nvK h v K
   |none=>match GO cx.pl.ak (950000+id)with
    |some v=>hoK h v K
    |none=>yZ cx id h fun h=>w9 cx id h fun h=>v6 cx id h fun h=>sU cx id h K
def xg(st:St)(s k:Nat)(K:St->Prop):Prop:=
 match st.t s with
 |.msl r n=>match st.h r with
  |.arr sz es=>match k with
   |0=>n=es.length/\K ⟨Jp st.t s (.slice .none es),AJ (AJ st.h r (.tok sz es.length)) r .dead⟩
   |k+1=>match Nat.beq r (k+1)with
    |true=>K st
    |false=>match st.h (k+1)with
     |.free=>n=es.length/\K ⟨Jp st.t s (.msl (k+1) n),AJ (AJ st.h r .dead) (k+1) (.arr sz es)⟩
     |_=>False
  |_=>K st
 |_=>K st
def tU(id:Nat)(st:St)(K:St->Prop):Prop:=
 match Is cx.pl.cut id with
 |true=>match GO cx.pl.ak (100000+id)with
  |none=>match GO cx.pl.ak (200000+id)with
   |none=>match GO cx.pl.ak (300000+id)with
    |none=>si cx id st.h fun h'=>∃s:LS,St.le cx ⟨st.t,h'⟩ s/\K s.st
    |some v=>xf st.h (v % 10000) (v / 10000 % 100) (v / 1000000) fun h'=>∃s:LS,St.le cx ⟨st.t,h'⟩ s/\K s.st
   |some v=>xg st (v % 1000) (v / 1000) fun ES=>∃s:LS,St.le cx ES s/\K s.st
  |some v=>xj st.h (v % 1000) (v / 1000) fun h'=>∃s:LS,St.le cx ⟨st.t,h'⟩ s/\K s.st
 |false=>K st
def Pl(cx:Cx)(c:Code)(Q:Ex->St->Prop)(st:St):Prop:=
 match c with
 |.skip=>Q .normal st
 |.label _=>Q .normal st
 |.region id ops dr=>tU cx id st fun st=>match cx.pl.dyn with
  | []=>Mm cx ops dr st (Q .normal)
  |_=>∃n,Mm { cx with nid:=n } ops dr st (Q .normal)
 |.seq a b=>Pl cx a (fun e ES=>match e with |.normal=>Pl cx b Q ES |e=>Q e ES) st
 |.cond c a b=>match ev st.t c with
  |.v (.bool true)=>Pl cx a Q st
  |.v (.bool false)=>Pl cx b Q st
  |_=>False
 |.block id c=>Pl cx c (fun e ES=>match e with |.exit j=>(bif Nat.beq j id then Q .normal ES else Q (.exit j) ES) |e=>Q e ES) st
 |.loop c=>∃(α:Type) (I:α->LS) (μ:α->Nat),(∃x,St.le cx st (I x)) /\
   ∀x,Pl cx c (fun e ES=>match e with | .normal=>∃y,μ y<μ x/\St.le cx ES (I y) | e=>Q e ES) (I x).st
 |.exit id=>Q (.exit id) st
 |.ret=>Q .ret st
 |_=>False
def On:List AV->Nat->AV
 | [],_=>.v undef
 |a::r,n=>match n with |0=>a |n+1=>On r n
def oG(T:GB)(st:St):List ResultVar->(List AV->Prop)->Prop
 | [],K=>K []
 |.tmp i::r,K=>oG T st r fun l=>K (str st.h (st.t i)::l)
 |.cell a t::r,K=>Jd T st.h t (st.t a) fun v=>oG T st r fun l=>K (str st.h v::l)
def fN(st:St)(rs:List ResultVar)(K:AV->Prop):Prop:=
 oG cx.T ⟨st.t,Pz st.h cx.pl.fin⟩ rs fun
  | [v]=>K v
  |vs=>K (.tup vs)
def aj(rs:List ResultVar)(K:AV->Prop)(e:Ex)(st:St):Prop:=
 match e with
 |.normal=>fN cx st rs K
 |.ret=>fN cx st rs K
 |.exit _=>False
def oH(T:GB)(st:St):List ResultVar->(List AV->Prop)->Prop
 | [],K=>K []
 |.tmp i::r,K=>oH T st r fun l=>K (st.t i::l)
 |.cell a t::r,K=>Jd T st.h t (st.t a) fun v=>oH T st r fun l=>K (v::l)
def rT(st:St)(rs:List ResultVar)(σ:JT)(Q:AV->(Nat->HO)->Prop):Prop:=
 oH cx.T ⟨st.t,Pz st.h cx.pl.fin⟩ rs fun
  | [v]=>Q (ren (Cp σ) (Pz st.h cx.pl.fin) v) (F8 σ (Pz st.h cx.pl.fin))
  |vs=>Q (ren (Cp σ) (Pz st.h cx.pl.fin) (.tup vs)) (F8 σ (Pz st.h cx.pl.fin))
def ne(rs:List ResultVar)(σ:JT)(Q:AV->(Nat->HO)->Prop)(e:Ex)(st:St):Prop:=
 match e with
 |.normal=>rT cx st rs σ Q
 |.ret=>rT cx st rs σ Q
 |.exit _=>False
def I7(σ:JT):List (Nat×HO)->Bool
 | []=>true
 |(i,_)::r=>Nat.ble 1000 i&&Nat.blt i 2000&&(match Cp σ i with |some j=>Nat.beq j i |none=>false)&&I7 σ r
theorem yN{n m:Nat}{b:Prop}(k:b)(h:n <= m := by exact FZ rfl):n <= m /\ b := ⟨h,k⟩
abbrev nzA:AV := .v (.slice none 0 0)
abbrev pC(a c:List Nat):Nm := ⟨a,[],[],[],[],[],[],[],[],[],c⟩
abbrev pT(a:List Nat)(b:List (Nat×Nat))(c:List Nat):Nm := ⟨a,b,[],[],[],[],[],[],[],[],c⟩
end Go.Eng
