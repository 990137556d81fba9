/- Lemmas 24. -/
import Derived.Test.YtkjhcikodmiceaaGreatDoorUA23
import Derived.Test.YtkjhcikodmiceaaGreatDoorCards
import Derived.Test.YtkjhcikodmiceaaGreatDoorTie
import Derived.ProofKit
import Derived.OpenShut
import Derived.Deep.DeepHandedRow
import Derived.Lib.LaidTab
namespace Go.Proofs.YtkjhcikodmiceaaGreatDoor.joins
open Go Go.Eng Go.Proofs Go.ChangeShapes Go.WideShapes Go.ChangeAt Go.RowKit
section
variable {H:Type}{enc:TypeId×Value->H}{w:World}
theorem all_le{d:DataW H}{l:List (DataW H)}(h:d∈l):Rows.uptoBulk d<=Rows.uptoBulkAll l:=by
 induction l with
 |nil=>cases h
 |cons x r ih=>
  simp only[Rows.uptoBulkAll]
  cases AA.1 h with
  |inl e=>subst e;omega
  |inr e=>have:=ih e;omega
theorem one_le(d:DataW H):1<=Rows.uptoBulk d:=by
 cases d with
 |lit l=>cases l<;>simp[Rows.uptoBulk]
 |nil=>simp[Rows.uptoBulk]
 |ptr d=>simp[Rows.uptoBulk]
 |slice mp spare=>simp[Rows.uptoBulk]
 |agg parts=>simp[Rows.uptoBulk]
 |iface t d=>simp[Rows.uptoBulk]
 |map entries=>simp[Rows.uptoBulk]
 |held h=>simp[Rows.uptoBulk]
theorem len_le(l:List (DataW H)):l.length<=Rows.uptoBulkAll l:=by
 induction l with
 |nil=>simp[Rows.uptoBulkAll]
 |cons x r ih=>have:=one_le x;simp only[Rows.uptoBulkAll,Dp];omega
theorem bulk_ok:UN (H:=H) Rows.uptoBulk where
 slice es sp:=by
  have h1:=len_le es
  refine⟨by simp only[Rows.uptoBulk];omega,fun d hd=>?_⟩
  have:=all_le hd
  simp only[Rows.uptoBulk];omega
 agg ps d hd:=by
  have:=all_le hd
  simp only[Rows.uptoBulk];omega
 str b:=by simp only[Rows.uptoBulk];omega
theorem app_all(l r:List (DataW H)):Rows.uptoBulkAll (l++r)=Rows.uptoBulkAll l+Rows.uptoBulkAll r:=by
 induction l with
 |nil=>simp[Rows.uptoBulkAll]
 |cons x l ih=>simp only[HM,Rows.uptoBulkAll,ih];omega
abbrev NB:Nat:=1048576
abbrev Op(enc:TypeId×Value->H)(w:World)(t:TypeId){α:Type}(e:α->List AV)(ok:α->Prop):Prop:=IQ enc Tryz.prog w Rows.uptoBulk NB t e ok
theorem oI:Op enc w 3 (fun n:Int=>[vi n]) (fun _=>True):=(Uu Tryz.underlying3).to id (fun _ _=>⟨rfl,trivial⟩)
theorem oB:Op enc w 4 (fun b:Bool=>[vb b]) (fun _=>True):=Zk Tryz.underlying4
theorem oS:Op enc w 9 (fun s:ByteArray=>[vs s]) (fun s=>s.size<=NB):=VE bulk_ok Tryz.underlying9
theorem oVer:Op enc w 43 Gi (fun _=>True):=
 (DP bulk_ok Tryz.underlying43 (L:=3) aa0 (AY rfl (n:=1) aa0 oI (AY rfl (n:=1) aa0 oI (AY rfl (n:=1) aa0 oI EN)))).to
  (fun p=>(⟨p.1,p.2.1,p.2.2.1⟩:Ver)) (fun _ _=>⟨rfl,trivial⟩)
theorem oSpan:Op enc w 64 Aj (fun _=>True):=
 (DP bulk_ok Tryz.underlying64 (L:=2) aa0 (AY rfl (n:=1) aa0 oI (AY rfl (n:=1) aa0 oI EN))).to
  (fun p=>(p.1,p.2.1)) (fun _ _=>⟨rfl,trivial⟩)
theorem oSet:Op enc w 66 (fun l:AS=>[sl Aj l]) (fun l=>l.length<=NB):=
 (FV bulk_ok Tryz.underlying66 (m:=1) aa0 (fun _=>rfl) oSpan).to id (fun _ h=>⟨rfl,h.1⟩)
abbrev OkRq(q:Rq):Prop:=q.path.size<=NB/\q.set.length<=NB
theorem oRq:Op enc w 68 Ac OkRq:=
 (DP bulk_ok Tryz.underlying68 (L:=2) aa0 (AY rfl (n:=1) aa0 oS (AY rfl (n:=1) aa0 oSet EN))).to
  (fun p=>(⟨p.1,p.2.1⟩:Rq)) (fun _ h=>⟨rfl,h.1,h.2.1⟩)
abbrev OkRqs(l:List Rq):Prop:=l.length<=NB/\∀q∈l,OkRq q
theorem oRqs:Op enc w 26 (fun l:List Rq=>[sl Ac l]) OkRqs:=
 FV bulk_ok Tryz.underlying26 (m:=1) aa0 (fun _=>rfl) oRq
abbrev OkRl(r:Rl):Prop:=r.path.size<=NB/\OkRqs r.reqs
theorem oRl:Op enc w 70 Al OkRl:=
 (DP bulk_ok Tryz.underlying70 (L:=9) aa0 (AY rfl (n:=1) aa0 oS (AY rfl (n:=3) aa0 oVer (AY rfl (n:=1) aa0 oRqs
  (AY rfl (n:=1) aa0 oS (AY rfl (n:=1) aa0 oS (AY rfl (n:=1) aa0 oS (AY rfl (n:=1) aa0 oB EN)))))))).to
  (fun p=>(⟨p.1,p.2.1,p.2.2.1,p.2.2.2.1,p.2.2.2.2.1,p.2.2.2.2.2.1,p.2.2.2.2.2.2.1⟩:Rl)) (fun _ h=>⟨rfl,h.1,h.2.2.1⟩)
theorem oRls:Op enc w 22 (fun l:List Rl=>[sl Al l]) (fun l=>l.length<=NB/\∀r∈l,OkRl r):=
 FV bulk_ok Tryz.underlying22 (m:=8) aa0 (fun _=>rfl) oRl
theorem oIfc:Op enc w 478 (fun s:ByteArray=>[vs s,.junk,.junk,.junk,.junk]) (fun _=>True):=
 (DP bulk_ok Tryz.underlying478 (L:=5) aa0 (AY rfl (n:=1) aa0 oS (AY rfl (n:=1) aa0 (L1 Tryz.underlying473) (AY rfl (n:=1) aa0 (L1 Tryz.underlying474)
  (AY rfl (n:=1) aa0 (L1 Tryz.underlying475) (AY rfl (n:=1) aa0 (L1 Tryz.underlying476) EN)))))).to (fun p=>p.1) (fun _ _=>⟨rfl,trivial⟩)
theorem oIfs:Op enc w 23 (fun l:List ByteArray=>[sl (fun s=>[vs s,.junk,.junk,.junk,.junk]) l]) (fun l=>l.length<=NB):=
 (FV bulk_ok Tryz.underlying23 (m:=4) aa0 (fun _=>rfl) oIfc).to id (fun _ h=>⟨rfl,h.1⟩)
theorem oIx:Op enc w 25 (fun p:List Rl×List (List AV)=>[sl Al p.1,.slice .none p.2]) (fun p=>(p.1.length<=NB/\∀r∈p.1,OkRl r)/\p.2.length<=NB/\∀c∈p.2,c.length=5):=
 (DP bulk_ok Tryz.underlying25 (L:=2) aa0 (AY rfl (n:=1) aa0 oRls (AY rfl (n:=1) aa0 oIfs EN))).to
  (fun p=>(p.1,p.2.1.map (fun s=>[vs s,.junk,.junk,.junk,.junk]))) (fun _ h=>⟨rfl,h.1,by rw[A2];exact h.2.1,fun c hc=>by obtain⟨s,_,rfl⟩:=Ak.1 hc;rfl⟩)
theorem oNf:Op enc w 96 AG (fun i=>i.path.size<=NB):=
 (DP bulk_ok Tryz.underlying96 (L:=6) aa0 (AY rfl (n:=1) aa0 oI (AY rfl (n:=1) aa0 oS (AY rfl (n:=1) aa0 oI
  (AY rfl (n:=1) aa0 oI (AY rfl (n:=1) aa0 oI (AY rfl (n:=1) aa0 oI EN))))))).to
  (fun p=>(⟨p.1,p.2.1,p.2.2.1,p.2.2.2.1,p.2.2.2.2.1,p.2.2.2.2.2.1⟩:Nf)) (fun _ h=>⟨rfl,h.2.1⟩)
theorem oNfs:Op enc w 30 (fun l:List Nf=>[sl AG l]) (fun l=>l.length<=NB/\∀i∈l,i.path.size<=NB):=
 FV bulk_ok Tryz.underlying30 (m:=5) aa0 (fun _=>rfl) oNf
theorem oSk:Op enc w 92 Ay (fun y=>y.path.size<=NB):=
 (DP bulk_ok Tryz.underlying92 (L:=3) aa0 (AY rfl (n:=1) aa0 oS (AY rfl (n:=1) aa0 oI (AY rfl (n:=1) aa0 oI EN)))).to
  (fun p=>(⟨p.1,p.2.1,p.2.2.1⟩:Sk)) (fun _ h=>⟨rfl,h.1⟩)
theorem oSks:Op enc w 31 (fun l:List Sk=>[sl Ay l]) (fun l=>l.length<=NB/\∀y∈l,y.path.size<=NB):=
 FV bulk_ok Tryz.underlying31 (m:=2) aa0 (fun _=>rfl) oSk
theorem oU8:Op enc w 5 (fun n:Int=>[.v (.int .u8 n)]) (fun n=>0<=n/\n<=255):=(Uu Tryz.underlying5).to id (fun _ h=>⟨rfl,h⟩)
abbrev OkLo(e:Lo):Prop:=e.path.size<=NB/\e.arch.size<=NB/\e.ifc.size<=NB
theorem oLo:Op enc w 53 A3 OkLo:=
 (DP bulk_ok Tryz.underlying53 (L:=6) aa0 (AY rfl (n:=1) aa0 oS (AY rfl (n:=3) aa0 oVer (AY rfl (n:=1) aa0 oS (AY rfl (n:=1) aa0 oS EN))))).to
  (fun p=>(⟨p.1,p.2.1,p.2.2.1,p.2.2.2.1⟩:Lo)) (fun _ h=>⟨rfl,h.1,h.2.2.1,h.2.2.2.1⟩)
theorem oLos:Op enc w 29 (fun l:List Lo=>[sl A3 l]) (fun l=>l.length<=NB/\∀y∈l,OkLo y):=
 FV bulk_ok Tryz.underlying29 (m:=5) aa0 (fun _=>rfl) oLo
abbrev OkLk(l:Lk):Prop:=OkRqs l.roots/\(l.ents.length<=NB/\∀y∈l.ents,OkLo y)/\l.infs.length<=NB/\l.skips.length<=NB
theorem oLk:Op enc w 33 Dj OkLk:=
 (DP bulk_ok Tryz.underlying33 (L:=4) aa0 (AY rfl (n:=1) aa0 oRqs (AY rfl (n:=1) aa0 oLos (AY rfl (n:=1) aa0 oNfs
  (AY rfl (n:=1) aa0 oSks EN))))).to
  (fun p=>(⟨p.1,p.2.1,p.2.2.1,p.2.2.2.1⟩:Lk)) (fun _ h=>⟨rfl,h.1,h.2.1,h.2.2.1.1,h.2.2.2.1.1⟩)
theorem few_of{n:Nat}(h:n<=NB):n<=1073741824:=AH h Wk
theorem lim_of{x:List Rl}{roots:List Rq}(h:x.length<=NB/\∀r∈x,OkRl r)(k:OkRqs roots):UQ x roots where
 ix:=few_of h.1
 rs:=few_of k.1
 rel r hr:=⟨few_of (h.2 r hr).2.1,few_of (h.2 r hr).1,fun q hq=>⟨few_of ((h.2 r hr).2.2 q hq).2,few_of ((h.2 r hr).2.2 q hq).1⟩⟩
 rq q hq:=⟨few_of (k.2 q hq).2,few_of (k.2 q hq).1⟩
theorem lim0_of{x:List Rl}(h:x.length<=NB/\∀r∈x,OkRl r):UQ x []:=lim_of h ⟨Ar _,fun q hq=>by cases hq⟩
theorem limk_of{l:Lk}(h:OkLk l):eD l:=⟨h.2.1.1,h.2.2.1,h.2.2.2⟩
end
theorem ok_agg{P:Program}{W:World}{base:Nat}{t:TypeId}{v:Value}{fs:Array Field}(hu:P.underlying t=some (.struct fs))(h:Value.okWide P W .any base t v):∃cs,v=.agg cs:=by
 unfold Value.okWide at h
 rw[hu]at h
 obtain⟨cs,e,_⟩:=h
 exact⟨cs,e⟩
theorem ok_slice{P:Program}{W:World}{base:Nat}{t e:TypeId}{v:Value}(hu:P.underlying t=some (.slice e))(h:Value.okWide P W .any base t v):v.oneCell'=true:=by
 unfold Value.okWide at h
 rw[hu]at h
 unfold Cell.okWide Cell.ok at h
 rw[hu]at h
 cases v<;>first | rfl | simp at h
theorem ok_int{P:Program}{W:World}{base:Nat}{t:TypeId}{k:IntKind}{v:Value}(hu:P.underlying t=some (.int k))(h:Value.okWide P W .any base t v):v.oneCell'=true:=by
 unfold Value.okWide at h
 rw[hu]at h
 unfold Cell.okWide Cell.ok at h
 rw[hu]at h
 cases v<;>first | rfl | simp at h
theorem ok_string{P:Program}{W:World}{base:Nat}{t:TypeId}{v:Value}(hu:P.underlying t=some .string)(h:Value.okWide P W .any base t v):v.oneCell'=true:=by
 unfold Value.okWide at h
 rw[hu]at h
 unfold Cell.okWide Cell.ok at h
 rw[hu]at h
 cases v<;>first | rfl | simp at h
theorem int_of_shape{P:Program}{w:World}{g:Nat}{t:TypeId}{k:IntKind}{zero:Array Value}(h:w.ShapedOpen P)(hg:g<P.globals.size)
  (h0:((begin P (fun _ _=>0) default).world.heap[g]?).bind Obj.row?=some (zero,t)) (hz:zero.size=1)
  (hb:P.buildable t=true) (hc:P.cellTypes P.depth t=some [t]) (hu:P.underlying t=some (.int k)):∃p,w.cell? ⟨g,0,none⟩=some (.int k p):=by
 obtain⟨cs,hh,hs,hr⟩:=h.1 g zero t hg h0
 obtain⟨ts,z7,_,Gr⟩:=hr hb
 rw[hc]at z7
 cases z7
 have h1:0<cs.size:=by omega
 obtain⟨u,gC,F5⟩:=Gr 0 cs[0] (by simp[h1])
 have:u=t:=by simpa using gC.symm
 subst this
 have CZ:w.cell? ⟨g,0,none⟩=some cs[0]:=by simp[World.cell?,hh,h1]
 rw[CZ]
 unfold Cell.ok at F5
 rw[hu]at F5
 cases hv:cs[0]<;>rw[hv]at F5<;>simp at F5
 obtain⟨rfl,_⟩:=F5
 exact⟨_,rfl⟩
theorem maxLen_cell{W:World}(h:W.ShapedOpen Tryz.prog):∃m,W.cell? ⟨0,0,none⟩=some (.int .i64 m):=
 int_of_shape (t:=3) (zero:=#[.int .i64 0]) h (BD aa0) aa0 rfl aa0 aa0 Tryz.underlying3
def Still(W W' : World):Prop:=W'.os=W.os/\W'.output=W.output/\W.heap.size<=W'.heap.size/\∀b,b<W.heap.size->W'.heap[b]?=W.heap[b]?
theorem run_true{f:Nat}{args:List AV}{vals:Array Value}{W:World}(hc:PC f args (vb true))(hM:∃m,W.cell? ⟨0,0,none⟩=some (.int .i64 m))(hs:vals.size=args.length)
  (hr:∀(i:Nat) (av:AV) (x:Value),args[i]?=some av->vals[i]?=some x->AT (ci W) W ES av x):Calls Tryz.prog f vals W fun e W'=>e=.returned (.bool true)/\Still W W':=by
 refine(hc.2 (ci W) W vals hs (fun i av x q1 q2=>(hr i av x q1 q2).up _) (mQ hM (fun _ h=>by cases h))).mono fun e W' ⟨v,r,h',g',e1,e2,e3,e4,_⟩=>?_
 subst e1
 obtain⟨rfl,rfl⟩:=e2
 obtain rfl:=e3.v_eq
 exact⟨rfl,e4.os,e4.output,e4.size,fun b hb=>e4.frame b hb (fun r h=>h.elim)⟩
theorem Still.kept{W W' : World}(h:Still W W')(may:MemPlace->Prop):W.keptBut W' may:=by
 refine⟨h.1,h.2.1,fun i hi=>?_⟩
 rw[h.2.2.2 i hi]
 cases hh:W.heap[i]? with
 |none=>rfl
 |some o=>cases o<;>simp
theorem Still.same{W W' : World}(h:Still W W'){p:MemPlace}(hp:p.block<W.heap.size):W.sameAt W' p:=by
 cases p with
 |cell b off=>
  show W'.cell? ⟨b,off,none⟩=W.cell? ⟨b,off,none⟩
  unfold World.cell?
  rw[h.2.2.2 b hp]
 |map b=>exact h.2.2.2 b hp
theorem kids:Kids Tryz.prog (· < Tryz.prog.types.size):=kids_rows aa0 aa0
theorem full:∀t e,t<Tryz.prog.types.size->Tryz.prog.underlying t=some (.slice e)->0<Tryz.prog.cellsOf e:=slices_full_of Tryz.prog aa0
theorem carry{H:Type}{enc:TypeId×Value->H}{W W' : World}(h:Still W W'):∀{ts:List TypeId} {vs:List Value} {ds:List (DataW H)} {ps:List MemPlace},DataW.TrodAll enc Tryz.prog W 0 (fun _=>true) true ts vs ds ps->DataW.TrodAll enc Tryz.prog W' 0 (fun _=>true) true ts vs ds ps
 | [],[],[],_,e=>e
 |t::ts,v::vs,d::ds,ps,k=>by
  have Ez:=k.lt
  obtain⟨p,q,⟨n,h1⟩,h2,rfl⟩:=k
  exact⟨p,q,⟨n,DataW.trod_carry n _ _ _ h1 (fun x hx=>h.same (Ez x (Bj _ hx)))⟩,carry h h2,rfl⟩
 | [],[],_::_,_,k=>k.elim
 | [],_::_,_,_,k=>k.elim
 |_::_,[],_,_,k=>k.elim
 |_::_,_::_,[],_,k=>k.elim
theorem post_true{H:Type}{enc:TypeId×Value->H}{W W' : World}{f:Func}{s:ChangeSpec}{args:Array Value}{ds:List (DataW H)}{before:List MemPlace}(HF:Still W W')(hv:s.vars=[])
  (hW:DataW.Whole enc Tryz.prog f.params.toList s.vars false W args.toList ds [] before) (hr:f.resultTypes=#[4]) (hT:∀t∈f.params.toList,t<Tryz.prog.types.size) (hs:s.fn H ds={ results:=[.lit (.bool true)],args:=ds }) :
  s.post enc Tryz.prog f false true false false W args (.bool true) W':=by
 have zd:=hW
 obtain⟨p,q,hA,hV,rfl,hz,_⟩:=hW
 rw[hv]at hV
 have hq:q=[]:=hV
 subst hq
 have Ez:=zd.lt
 have pU:s.fn H (ds++[])={ results:=[.lit (.bool true)],args:=ds }:=by rw[Dm];exact hs
 refine⟨ds,[],p++[],[],p,[],zd,?_,?_,?_,HF.kept _,fun h=>by cases h⟩
 .rw[pU,hr]
  exact⟨[],[],⟨1,by rw[show(Value.bool true).cells.toList=[.bool true]from rfl,DataW.trod_step];unfold DataW.trodStep;rw[Tryz.underlying4]⟩,rfl,rfl⟩
 .rw[pU]
  exact(carry HF hA).respare kids full hT (fun x hx=>by simpa using Ez x (Bj _ hx))
 .rw[pU,hv];rfl
end Go.Proofs.YtkjhcikodmiceaaGreatDoor.joins
namespace Go.Proofs.YtkjhcikodmiceaaGreatDoor.joins
open Go Go.Eng Go.Proofs Go.ChangeShapes Go.WideShapes Go.ChangeAt Go.RowKit
theorem own:ownKnob Tryz.prog.godebug=none:=by kernel_rfl
def flatD:Nat->DataW Unit->List Value
 |0,_=>[]
 |n+1,.agg l=>l.flatMap (flatD n)
 |_+1,.lit (.int k i)=>[.int k i]
 |_+1,_=>[]
def layIn(d:DataW Unit):Obj->Obj
 |.cells _ t frozen=>.cells (flatD 4 d).toArray t frozen
 |o=>o
noncomputable def laidWorld(os:Os):World:=
 { World.holding Tryz.prog os ⟨#[],#[],[]⟩with heap:=(((World.holding Tryz.prog os ⟨#[],#[],[]⟩).heap.modify 1 (layIn Rows.laid_unicode_utf8_first)).modify 2 (layIn Rows.laid_unicode_utf8_acceptRanges)) }
abbrev nilV:Value:=.slice none 0 0
theorem arr1{args:Array Value}{a:Value}(h:args.toList=[a]):args=#[a]:=by
 cases args;simp_all
theorem arr2{args:Array Value}{a b:Value}(h:args.toList=[a,b]):args=#[a,b]:=by
 cases args;simp_all
theorem arr3{args:Array Value}{a b c:Value}(h:args.toList=[a,b,c]):args=#[a,b,c]:=by
 cases args;simp_all
theorem arr4{args:Array Value}{a b c d:Value}(h:args.toList=[a,b,c,d]):args=#[a,b,c,d]:=by
 cases args;simp_all
theorem arr5{args:Array Value}{a b c d e:Value}(h:args.toList=[a,b,c,d,e]):args=#[a,b,c,d,e]:=by
 cases args;simp_all
theorem arr6{args:Array Value}{a b c d e f:Value}(h:args.toList=[a,b,c,d,e,f]):args=#[a,b,c,d,e,f]:=by
 cases args;simp_all
theorem looksOff:true=Tryz.pinned.checked.prog.looks []:=by kernel_rfl
theorem noStand:∀t∈([5,9,25,26,33,43]:List Nat),Tryz.pinned.checked.prog.wantsStandIn t=false:=by
 intro t ht
 simp only[AA,Gm,or_false]at ht
 rcases ht with rfl | rfl | rfl | rfl | rfl | rfl<;>exact(show Tryz.prog.wantsStandIn _=false by kernel_rfl)
end Go.Proofs.YtkjhcikodmiceaaGreatDoor.joins
namespace Go.Proofs
open Go.Shelf Go.RowKit Go.Lib Go.Sort
abbrev OneC:Type:={v:Value // v.oneCell'=true}
def SlA:Type:=ByteArray×OneC×OneC×OneC
instance:Inhabited SlA:=⟨⟨ByteArray.empty,⟨.bool false,rfl⟩,⟨.bool false,rfl⟩,⟨.bool false,rfl⟩⟩⟩
def encSlA(x:SlA):List Value:=[.string x.1,x.2.1.1,x.2.2.1.1,x.2.2.2.1]
def cfSlA(x y:SlA):Int:=Lib.compareBytes x.1.data.toList y.1.data.toList
abbrev CmpSlA(k:Nat):Prop:=∀(x y:SlA) (W:World),Calls Tryz.prog k #[.agg #[.string x.1,x.2.1.1,x.2.2.1.1,x.2.2.2.1],.agg #[.string y.1,y.2.1.1,y.2.2.1.1,y.2.2.2.1]] W fun e w'=>e=.returned (.int .i64 (cfSlA x y))/\∃q os',w'=grow (W.drewN q) os'
theorem Tryz.closure84:CmpSlA 84:=fun x y W=>by
 have hcon:=fun W'=>Any.strings_Compare Tryz.layCompare x.1 y.1 W';obtain⟨a,⟨b,hb⟩,⟨c,hc⟩,⟨d,hd⟩⟩:=x;obtain⟨a',⟨b',oh⟩,⟨c',wj⟩,⟨d',jr⟩⟩:=y;dsimp only at hcon
 change ∀W',Calls Tryz.prog 85 _ _ _ at hcon
 unfold cfSlA;dsimp only;generalize Lib.compareBytes a.data.toList a'.data.toList=r at hcon⊢
 go_enter Tryz.func84,Tryz.ntmps84
 go_wp2_with (go_at_call 85;refine(hcon _).mono ?_;rintro e w' ⟨rfl,rfl⟩)
 go_ret
 exact⟨rfl,0,_,by rw[alloc_eq_grow,alloc_eq_grow,grow_grow];rfl⟩
end Go.Proofs
set_option maxHeartbeats 4000000
namespace Go.Eng
open Go.Proofs Go.Shelf Go.RowKit Go.Lib Go.Sort
theorem aD(x y:SlA):ltOf cfSlA x y=EL x.1 y.1:=Se _ _
theorem i7:SWO (ltOf cfSlA) where
 irrefl x:=by grind [aD,CG]
 trans x y z h1 h2:=by grind [aD,DG]
 ntrans x y z h1 h2:=by
  grind [aD,DG,Ht]
theorem s92(k:Nat)(hc:CmpSlA k)(eg:∀args w,(callFunc k args).run Tryz.prog w=.ok (.enter k args) w)(l:List Sl)(hl:Cr l)(lim:Nat)(WZ:lim<100) :
  AW Tryz.prog 157 [.msl 1000 l.length,vi 0,vi l.length,vi lim,.v (Gl k)] (Ae [(1000,.arr 4 (l.map Ah))] Ab) fun r h'=>
   r=.tup []/\∃l' : List Sl,l'.Perm l/\l'.Pairwise (fun x y=>EL y.path x.path=false)/\h'=Ae [(1000,.arr 4 (l'.map Ah))] Ab:=by
 have hl:l.length<=1073741824:=hl;have hE:Fb Tryz.prog 157:=ZX 157 Tryz.func157 aa0 rfl;have G7:=It (P:=Tryz.prog) (f:=157) (α:=SlA) (rest:=[.int .i64 0,.int .i64 l.length,.int .i64 lim,Gl k]) hE Ah encSlA (k:=4) (fun _=>rfl) (fun _=>rfl) (ltOf cfSlA) (fun x a=>a.1=x.path) l ch ?_ ?_ ?_
 .refine⟨hE,fun g w vals q1 q2 q3=>(G7.2 g w vals q1 q2 q3).mono fun _ _ ⟨v,r,h',g',e1,⟨e2,l',p1,⟨al,a1,a2,a3⟩,p2⟩,rest⟩=>⟨v,r,h',g',e1,⟨e2,l',p1,?_,p2⟩,rest⟩⟩;rw[B1]at a3⊢;intro i j hi hj X3
  have:=a3 i j ch ch X3
  rw[aD]at this;have e1:=a2 i _ _ (Ge hi) (Ge ch);have e2:=a2 j _ _ (Ge hj) (Ge ch);simp_all
 .intro x hx g w vs hr
  match vs,hr with
  | [a,b,c,d],hr=>
   have h1:=(hr.2.2 0 (Go.Eng.vs x.path) a rfl rfl).v_eq;subst h1;exact⟨⟨x.path,⟨b,hr.2.1 b B0⟩,⟨c,hr.2.1 c B0⟩,⟨d,hr.2.1 d B0⟩⟩,rfl,rfl⟩
  | [],hr=>have:=hr.1;simp_all
  | [_],hr=>have:=hr.1;simp_all
  | [_,_],hr=>have:=hr.1;simp_all
  | [_,_,_],hr=>have:=hr.1;simp_all
  |_::_::_::_::_::_,hr=>have:=hr.1;simp_all
 .intro w b cap d hH hb Fi hdl;have gl:CmpLays Tryz.prog k #[] encSlA 4 cfSlA b 0 d.size w:=fun _ _ _ _ x y=>hc x y _;have hp:=AnyQ.pdqsortCmpFunc_all Tryz.layPdqSel 4 Tryz.isAgg45 Tryz.sizeOf45 encSlA cfSlA k #[] i7 b 0 cap d w eg gl ⟨fun _=>rfl,fun x v hv=>by
    simp only[encSlA,AA,Gm,or_false]at hv;rcases hv with rfl | rfl | rfl | rfl
    .rfl
    all_goals grind,hH,hb⟩ (d.size+1) 0 d.size lim d w ch rfl (SWK.start hH) (Ar _) (Ai _) Fi ch (Or.inl rfl)
  rw[hdl]at hp⊢;refine hp.mono ?_
  rintro e w' ⟨rfl,n,os,rfl⟩
  have h:=pdq_sorts (ltOf cfSlA) i7 d 0 d.size lim true true (Ar _) (Ai _) (Or.inl rfl)
  grind
 .intro e w;subst e;exact AnyF.pdqsortCmpFunc_none Tryz.layPdqSel none 0 lim (Gl k) w
theorem TF{l l' : List Sl}(h1:Ox l)(h2:Ox l')(hm:∀y,y∈l↔y∈l'):l=l':=by
 induction l generalizing l' with
 |nil=>
  cases l'<;>grind [List.mem_cons_self]
 |cons x l ih=>
  cases l'<;>grind [List.pairwise_cons,DG,CG]
theorem iX{l l' : List Sl}(hn:(l.map (·.path)).Nodup)(hp:l'.Perm l)(hs:l'.Pairwise fun x y=>EL y.path x.path=false):l'=Ed l:=by
 refine TF ?_ (Pr hn) fun y=>by grind [Fu]
 grind [List.pairwise_iff_getElem,Ht]
theorem s47(k:Nat)(hc:CmpSlA k)(eg:∀args w,(callFunc k args).run Tryz.prog w=.ok (.enter k args) w)(l:List Sl)(hl:Cr l)(hn:(l.map (·.path)).Nodup) :
  AW Tryz.prog 83 [.msl 1000 l.length,.v (Gl k)] (Ae [(1000,.arr 4 (l.map Ah))] Ab) fun r h'=>
   r=.tup []/\h'=Ae [(1000,.arr 4 ((Ed l).map Ah))] Ab:=by
 obtain⟨lim,WZ,hb⟩:=nA l.length hl;refine A7 (H5 D0) [(1000,1000)] rfl Bu hm rfl Tryz.func83 aa0 rfl (Nz rfl) aa0 rfl (Xi .pure (Xi _ (Yi (hb) (Xi (.gen [(1000,1000)] 0) (Yi rfl ((s92 k hc eg l hl lim WZ).imp ?_))))));intro r h' hq;refine AJ hq.2 (fun l' Qp=>?_);have e:=iX hn Qp.1 Qp.2.1;refine Xi (.tup []) (Yi ?_ (Yi rfl ?_))
 .exact .refl _
 .rw[Qp.2.2,e];rfl
end Go.Eng
namespace Go.Eng
open Go.Proofs
variable {l:List Nf}{i:Nf}{caps:List AV}{k fF:Nat}(roots:List Rq)(C A:List (Value×AV))(s:SS)(dec:List Cd)(st:List (List Sk))(S:List Sl)(n:Nd)(c:Cd)
abbrev Ax:List AV:=vi c.place::Al c.rel
abbrev A9:List AV:=[vs n.rq.path,sl Aj n.rq.set,vs n.path,vi n.place,vi n.number]
abbrev AU(l:List Sk):List AV:=[sl Ay l]
abbrev B3(i:Nat):List AV:=[vi (i:Nat)]
def EX:D7:=⟨true,[.int .i64,.str,.int .i64,.int .i64,.int .i64,.int .i64]⟩
def Kw(i:Nf):Value:=.agg [.int .i64 i.kind,.string i.path,.int .i64 i.place,.int .i64 i.number,.int .i64 i.left,.int .i64 i.right].toArray
def E0:Nat->List Nf->List (Value×AV)
 |_,[]=>[]
 |k,i::l=>(Kw i,vi (k:Nat))::E0 (k+1) l
abbrev yD(n:Nat):List AV:=
 [sl Ac roots,.cmap BS C,.cmap BS A,.slice (.id 1001 6) (s.infs.map AG),.slice (.id 1002 1) (s.drv.map Ap),.mref 1003,vb s.full,sl Ax dec,sl Ah (At dec),.msl 1004 n]
abbrev srM(k n:Nat):List AV:=
 [sl Ac roots,.cmap BS C,.cmap BS A,.slice (.id 1001 6) (s.infs.map AG),.slice (.id 1002 1) (s.drv.map Ap),.mref 1003,vb s.full,sl Ax dec,sl Ah (At dec),.msl k n]
abbrev Ik:List (Nat×HO):=
 [(1000,.cells (yD roots C A s dec st.length)),(1001,.tok 6 s.infs.length),(1002,.tok 1 s.drv.length),(1003,.map EX (E0 0 s.infs)),(1004,.arr 1 (st.map AU))]
theorem yu(hs:Ct caps)(l:List (Cd))(p:Cd->Bool)(hF:∀x∈l,PC fF ([.agg (Ax x)]++caps) (vb (p x)))(hl:l.length<9223372036854775807) :
  PC 340 [sl Ax l,.clo fF caps] (vi (IJ p l 0)):=by
 refine Ps D0 Tryz.func340 rfl (Nz rfl) (Xi {i:Nat // i<=l.length/\∀j (hj:j<l.length),j<i->p l[j]=false} (Xi (fun i=>⟨[(0,sl Ax l),(1,.clo fF caps),(7,vi (l.map Ax).length),(8,vi i.1)],[],Ab⟩) (Xi (fun i=>l.length-i.1) (Yi (Xi ⟨0,by simp⟩ ?_) ?_))))
 .exact⟨⟨Zr,⟨rfl,hs.ids _⟩,Zr,Zr,Tv⟩,Tv,Fh,Tv⟩
 .intro⟨i,h1,h2⟩;refine Yi ?_ ?_
  .intro h;have h:i<l.length:=by simp_all
   have hg:l[i]?=some l[i]:=Ge h;refine Xi (Ax l[i]) (Yi (Yi ch (by simp_all)) (Yi rfl (yN ?_)));have BX:∀h,PC fF ([.agg (Ax l[i])]++caps.map (str0 h)) (vb (p l[i])):=fun h=>by rw[hs.map];simp_all
   cases hp:p l[i]with
   |true=>
    rw[hp]at BX;refine Xi .pure (Xi (vb true) (Yi (BX _) ?_));rw[J9 h (fun j hj Jy=>h2 j hj Jy) hp,FJ];exact .refl _
   |false=>
    rw[hp]at BX;refine Xi .pure (Xi (vb false) (Yi (BX _) (Yi (by grind [AQ]) (Xi ⟨i+1,by omega,fun j hj Jy=>?_⟩ ?_))))
    .grind
    .exact⟨by grind,⟨Zr,⟨rfl,hs.ids _⟩,Zr,Zr,Tv⟩,Tv,Fh,Tv⟩
  .intro h;have h:¬i<l.length:=by simp_all
   rw[G8 fun j hj=>h2 j hj ch];exact .refl _
theorem s86(hs:Ct caps)(l:List (Nd))(p:Nd->Bool)(hF:∀x∈l,PC fF ([.agg (A9 x)]++caps) (vb (p x)))(hl:l.length<9223372036854775807) :
  PC 149 [sl A9 l,.clo fF caps] (vi (IJ p l 0)):=by
 refine Ps D0 Tryz.func149 rfl (Nz rfl) (Xi {i:Nat // i<=l.length/\∀j (hj:j<l.length),j<i->p l[j]=false} (Xi (fun i=>⟨[(0,sl A9 l),(1,.clo fF caps),(7,vi (l.map A9).length),(8,vi i.1)],[],Ab⟩) (Xi (fun i=>l.length-i.1) (Yi (Xi ⟨0,by simp⟩ ?_) ?_))))
 .exact⟨⟨Zr,⟨rfl,hs.ids _⟩,Zr,Zr,Tv⟩,Tv,Fh,Tv⟩
 .intro⟨i,h1,h2⟩;refine Yi ?_ ?_
  .intro h;have h:i<l.length:=by simp_all
   have hg:l[i]?=some l[i]:=Ge h;refine Xi (A9 l[i]) (Yi (Yi ch (by simp_all)) (Yi rfl (yN ?_)));have BX:∀h,PC fF ([.agg (A9 l[i])]++caps.map (str0 h)) (vb (p l[i])):=fun h=>by rw[hs.map];simp_all
   cases hp:p l[i]with
   |true=>
    rw[hp]at BX;refine Xi .pure (Xi (vb true) (Yi (BX _) ?_));rw[J9 h (fun j hj Jy=>h2 j hj Jy) hp,FJ];exact .refl _
   |false=>
    rw[hp]at BX;refine Xi .pure (Xi (vb false) (Yi (BX _) (Yi (by grind [AQ]) (Xi ⟨i+1,by omega,fun j hj Jy=>?_⟩ ?_))))
    .grind
    .exact⟨by grind,⟨Zr,⟨rfl,hs.ids _⟩,Zr,Zr,Tv⟩,Tv,Fh,Tv⟩
  .intro h;have h:¬i<l.length:=by simp_all
   rw[G8 fun j hj=>h2 j hj ch];exact .refl _
theorem s7(hs:Ct caps)(l:List (Cd))(p:Cd->Bool)(hF:∀x∈l,PC fF ([.agg (Ax x)]++caps) (vb (p x)))(hl:Cr l) :
  PC 290 [sl Ax l,.clo fF caps] (vb (l.any p)):=by
 refine Ps D0 Tryz.func290 rfl (Nz rfl) ?_;have hi:=yu hs l p hF ch;have BX:∀h,PC 340 [sl Ax l,.clo fF (caps.map (str0 h))] (vi (IJ p l 0)):=fun h=>by grind [Ct.map]
 refine Xi .pure (Xi _ (Yi (BX _) ?_));have ha:=IW (p:=p) l 0 (B6 0);refine Yi ?_ ?_
 .intro h;rw[<-ha,As h];exact .refl _
 .intro h;rw[<-ha,Av h];exact .refl _
theorem s9(l:List Cd)(hl:Cr l):AW Tryz.prog 154 [sl Ax l] (Ae [] Ab) fun r h'=>r=.slice (.id 2000 10) (l.map Ax)/\h'=Ae [(2000,.tok 10 (l.map Ax).length)] Ab:=by
 refine A7 (H5 (sv 10)) [(2,2000)] rfl Bu hm rfl Tryz.func154 aa0 rfl (Nz rfl) aa0 rfl ?_;have Di:BJ 10 (l.map Ax)/\([]:List (List AV)).length=0/\(([]:List (List AV)).length+(l.map Ax).length)*128<=140737488355328/\([]:List (List AV)).length+(l.map Ax).length<=9223372036854775807:=by
  refine⟨Df (enc:=Ax) (n:=10) (fun _=>rfl) l,rfl,?_,?_⟩<;>simp only[FD,Lm]<;>unfold Cr at hl<;>omega
 have e2:HO.tok 10 (([]:List (List AV)).length+(l.map Ax).length)=.tok 10 (l.map Ax).length:=by simp_all
 have e3:AV.slice (.id 2000 10) ([]++l.map Ax)=.slice (.id 2000 10) (l.map Ax):=rfl;have full:∀st:St,(∃s:LS,St.le (H5 (sv 10)) st s/\True)->True:=fun _ _=>trivial;refine Xi 0 (Xi 0 (Yi ?_ ?_))
 .intro _;refine cU [(0,sl Ax l)] [] Z1 Tv (Xi 2 (Yi Di ?_));exact Xi _ (Yi (.refl _) (Yi e3 (Aa (fun o=>Ae [(2000,o)] Ab) e2)))
 .intro h;refine Yi ?_ ?_
  .refine Xi ⟨[],[],Ab⟩ (Yi ⟨trivial,trivial,fun _=>.inl rfl,Be aa0⟩ ?_);refine Xi 0 ?_;exact Xi _ (Yi (.refl _) (Yi (show AV.slice (.id 2000 10) []=_ by rw[h]) (show Ae [(2000,HO.tok 10 0)] Ab=_ by simp_all)))
  .refine cU [(0,sl Ax l)] [] Z1 Tv (Xi 2 (Yi Di ?_));exact Xi _ (Yi (.refl _) (Yi e3 (Aa (fun o=>Ae [(2000,o)] Ab) e2)))
theorem QB:∀{l:List Nf} {k:Nat} {kx:Value} {a:AV},(kx,a)∈E0 k l↔∃j i,l[j]?=some i/\kx=Kw i/\a=vi ((k+j:Nat):Int)
 | [],k,kx,a=>by simp[E0]
 |y::l,k,kx,a=>by
  unfold E0;rw[AA,QB];constructor
  .rintro(h | ⟨j,i,h1,h2,h3⟩)
   .cases h<;>grind
   .exact⟨j+1,i,h1,h2,by grind⟩
  grind
theorem Ui{a b:Nf}(h:Kw a=Kw b):a=b:=by
 obtain⟨a1,a2,a3,a4,a5,a6⟩:=a;obtain⟨b1,b2,b3,b4,b5,b6⟩:=b<;>grind [Kw]
theorem r6(h:KK i 0 l=some k):(Kw i,vi (k:Nat))∈E0 0 l:=by
 grind [L6,QB]
theorem lc(hn:l.Nodup)(h:KK i 0 l=some k):∀b,(Kw i,b)∈E0 0 l->b=vi (k:Nat):=fun b hb=>by
 grind [L6,QB,Ui,List.getElem_inj]
theorem mU(h:KK i 0 l=none):∀a,(Kw i,a)∉E0 0 l:=fun a ha=>by
 obtain⟨j,i',h1,h2,_⟩:=QB.1 ha
 have:=Ui h2
 subst this;exact Pe h (Aq h1)
theorem aB:∀(l:List Nf) (k:Nat) (i:Nf),E0 k (l++[i])=E0 k l++[(Kw i,vi ((k+l.length:Nat):Int))]
 | [],k,i=>by simp[E0]
 |y::l,k,i=>by
  show(Kw y,_)::E0 (k+1) (l++[i])=_;rw[aB l (k+1) i]
  grind [E0]
theorem oR(h:KK i 0 l=none):Ej (E0 0 l) (Kw i) (vi ((l.map AG).length:Int))=E0 0 (l++[i]):=by
 grind [HG,mU,aB]
theorem Wd{s:SS}{l:List Tm}(h:KK i 0 s.infs=some k):Dw s i l=(k,s):=by grind [Dw]
theorem TK{s:SS}{l:List Tm}(h:KK i 0 s.infs=none)(hf:65536<=s.infs.length):Dw s i l=(s.infs.length-1,⟨s.infs,s.drv,true⟩):=by grind [Dw]
theorem Wb{s:SS}{l:List Tm}(h:KK i 0 s.infs=none)(hf:¬65536<=s.infs.length):Dw s i l=(s.infs.length,⟨s.infs++[i],s.drv++[l],s.full⟩):=by grind [Dw]
section
variable {roots:List Rq}{C A:List (Value×AV)}{s s' : SS}{dec:List Cd}{st:List (List Sk)}{i:Nf}{l:List Tm}
theorem eH{z:Int}(e:Dw s i l=(k,s'))(hz:z=k):vi z=vi ((Dw s i l).1:Nat)/\Ae (Ik roots C A s' dec st) Ab=Ae (Ik roots C A (Dw s i l).2 dec st) Ab:=by simp_all
theorem qe(h:KK i 0 s.infs=none):Ae [(1000,.cells [sl Ac roots,.cmap BS C,.cmap BS A,.slice (.id 1001 6) (s.infs.map AG++[AG i]),.slice (.id 1002 1) (s.drv.map Ap++[Ap l]),.mref 1003,vb s.full,sl Ax dec,sl Ah (At dec),.msl 1004 st.length]),
      (1001,.tok 6 ((s.infs.map AG).length+[AG i].length)),(1002,.tok 1 ((s.drv.map Ap).length+[Ap l].length)),(1003,.map EX (Ej (E0 0 s.infs) (Kw i) (vi ((s.infs.map AG).length:Int)))),(1004,.arr 1 (st.map AU))] Ab=Ae (Ik roots C A ⟨s.infs++[i],s.drv++[l],s.full⟩ dec st) Ab:=by
  grind [oR]
end
theorem s8(p:ByteArray):PC 291 [.agg (Ax c),.cptr [vs p]] (vb (decide (c.rel.path=p))):=by
 refine Ps (pC [2] []) Tryz.func291 rfl (Nz rfl) (Yi (fun h1=>?_) (fun h1=>?_))
 .exact .of_eq (show vb true=vb (decide (c.rel.path=p)) by simp_all)
 exact .of_eq (show vb false=vb (decide (c.rel.path=p)) by simp_all)
theorem s5(t:Tm)(p:ByteArray):PC 228 [.agg (Am t),.cptr [vs p]] (vb (decide (t.path=p))):=by
 refine Ps (pC [2] []) Tryz.func228 rfl (Nz rfl) (Yi (fun h1=>?_) (fun h1=>?_))
 .exact .of_eq (show vb true=vb (decide (t.path=p)) by simp_all)
 exact .of_eq (show vb false=vb (decide (t.path=p)) by simp_all)
theorem jy(l:List Tm)(p:ByteArray)(hl:Cr l):PC 155 [sl Am l,vs p] (vb (CY l p)):=by
 refine Ps (pC [3] []) Tryz.func155 rfl (Nz rfl) (Bs (Bt (CY l p)) (fun h1=>?_) (fun h1=>?_))
 .refine Xi .pure (Xi _ (Yi (cb h1 (show PC 227 [sl Am l,.clo 228 [.cptr [vs p]]] (vb (CY l p))from nC (fF:=228) (caps:=[.cptr [vs p]]) (fun c hc=>by obtain rfl:=AB.1 hc;intro h;rfl) l (fun t=>decide (t.path=p)) (fun t _=>s5 t p) hl)) ?_));exact .of_eq (show vb true=vb (CY l p) by rw[h1])
 refine Xi .pure (Xi _ (Yi (cb h1 (show PC 227 [sl Am l,.clo 228 [.cptr [vs p]]] (vb (CY l p))from nC (fF:=228) (caps:=[.cptr [vs p]]) (fun c hc=>by obtain rfl:=AB.1 hc;intro h;rfl) l (fun t=>decide (t.path=p)) (fun t _=>s5 t p) hl)) ?_));exact .of_eq (show vb false=vb (CY l p) by rw[h1])
theorem sZ(p:ByteArray)(hl:Cr dec):AW Tryz.prog 223 [.ref 1000 0,vs p] (Ae (Ik roots C A s dec st) Ab) fun r h'=>r=vb (CO dec p)/\h'=Ae (Ik roots C A s dec st) Ab:=by
 refine A7 (H5 (pC [3] [])) [(1000,1000),(1001,1001),(1002,1002),(1003,1003),(1004,1004)] rfl Bu hm rfl Tryz.func223 aa0 rfl (Nz rfl) aa0 rfl (Bs (Bt (CO dec p)) (fun h1=>?_) (fun h1=>?_))
 .refine Xi .pure (Xi _ (Yi (cb h1 (show PC 290 [sl Ax dec,.clo 291 [.cptr [vs p]]] (vb (CO dec p))from s7 (fF:=291) (caps:=[.cptr [vs p]]) (fun c hc=>by obtain rfl:=AB.1 hc;intro h;rfl) dec (fun c=>decide (c.rel.path=p)) (fun c _=>s8 c p) hl)) ?_));exact Xi _ (Yi (.refl _) (Yi (show vb true=vb (CO dec p) by rw[h1]) rfl))
 refine Xi .pure (Xi _ (Yi (cb h1 (show PC 290 [sl Ax dec,.clo 291 [.cptr [vs p]]] (vb (CO dec p))from s7 (fF:=291) (caps:=[.cptr [vs p]]) (fun c hc=>by obtain rfl:=AB.1 hc;intro h;rfl) dec (fun c=>decide (c.rel.path=p)) (fun c _=>s8 c p) hl)) ?_));exact Xi _ (Yi (.refl _) (Yi (show vb false=vb (CO dec p) by rw[h1]) rfl))
theorem lU(i:Nf)(l:List Tm)(k:Nat)(hk:KK i 0 s.infs=some k)(RP:s.infs.Nodup):AW Tryz.prog 224 [.ref 1000 0,.agg (AG i),sl Am l] (Ae (Ik roots C A s dec st) Ab) fun r h'=>r=vi ((Dw s i l).1:Nat)/\h'=Ae (Ik roots C A (Dw s i l).2 dec st) Ab:=by
 refine A7 (H5 (pC [4] [])) [(1000,1000),(1001,1001),(1002,1002),(1003,1003),(1004,1004)] rfl Bu hm rfl Tryz.func224 aa0 rfl (Nz rfl) aa0 rfl (yN ?_);refine Or.inl (Xi (vi (k:Nat)) (Yi (Yi (r6 hk) (lc RP hk)) ?_));refine Yi aa0 ?_;exact Xi _ (Yi (.refl _) (eH (Wd hk) rfl))
theorem lS(i:Nf)(l:List Tm)(hk:KK i 0 s.infs=none)(hn:s.infs.length<=65536)(hdl:s.drv.length=s.infs.length):AW Tryz.prog 224 [.ref 1000 0,.agg (AG i),sl Am l] (Ae (Ik roots C A s dec st) Ab) fun r h'=>r=vi ((Dw s i l).1:Nat)/\h'=Ae (Ik roots C A (Dw s i l).2 dec st) Ab:=by
 have hdn:s.drv.length<=65536:=by omega
 have zG:(s.infs.map AG).length=s.infs.length:=Lm _;refine A7 (H5 (pC [4] [])) [(1000,1000),(1001,1001),(1002,1002),(1003,1003),(1004,1004)] rfl Bu hm rfl Tryz.func224 aa0 rfl (Nz rfl) aa0 rfl (yN ?_);refine Or.inr (Yi (mU hk) ?_);refine Yi aa0 (Yi (fun h1=>?_) (fun h1=>?_))
 .refine yN (Yi (by grind [AQ]) ?_);exact Xi _ (Yi (.refl _) (eH (TK hk ch) ch))
 refine yN (Yi aa0 (yN (Yi (X2 rfl ch Wk) (yN (Yi aa0 (Yi (X2 rfl ch Wk) (yN ?_)))))));have hq:=eH (roots:=roots) (C:=C) (A:=A) (dec:=dec) (st:=st) (z:=((s.infs.map AG).length:Int)) (Wb (l:=l) hk ch) ch;exact Xi _ (Yi (.refl _) (Yi hq.1 ((qe hk).trans hq.2)))
structure JP(x:List Rl)(roots:List Rq)(s:SS):Prop where
 der:D4 x roots s
 nodup:s.infs.Nodup
abbrev ng(o:Nat×SS)(r:AV)(h' : Nat->HO):Prop:=r=vi (o.1:Nat)/\h'=Ae (Ik roots C A o.2 dec st) Ab
theorem lR(i:Nf)(l:List Tm)(hn:s.infs.length<=65536)(hdl:s.drv.length=s.infs.length)(RP:s.infs.Nodup) :
  AW Tryz.prog 224 [.ref 1000 0,.agg (AG i),sl Am l] (Ae (Ik roots C A s dec st) Ab) (ng roots C A dec st (Dw s i l)):=by
 cases hk:KK i 0 s.infs<;>grind [lU,lS]
abbrev Ya:Ia:=[(1000,1000),(1001,1001),(1002,1002),(1003,1003),(1004,1004)]
theorem qR{h2:Nat->HO}{cs:List AV}{o1 o2 o3 o4:HO}(e0:h2 1000=.cells cs)(e1:h2 1001=o1)(e2:h2 1002=o2)(e3:h2 1003=o3)(e4:h2 1004=o4) :
  EW Ya h2=Ae [(1000,.cells (cs.map (ren1 (BY Ya) h2))),(1001,o1.ren (BY Ya) h2),(1002,o2.ren (BY Ya) h2),(1003,o3.ren (BY Ya) h2),(1004,o4.ren (BY Ya) h2)] Ab:=by
 unfold EW;simp only[VJ];rw[e0,e1,e2,e3,e4];rfl
theorem cH{s:SS}{n:Nd}(h:n.path=mt):Dw s ⟨0,mt,0,n.number,0,0⟩ (Gc n.rq)=Bk s n:=by grind [Bk,NZ,Ho]
theorem gJ{s:SS}{n:Nd}(h:¬n.path=mt):Dw s ⟨1,n.path,n.place,n.number,0,0⟩ (Co n.path n.place n.rq)=Bk s n:=by grind [Bk,NZ,Ho]
abbrev fH(d:List (List Tm))(S:List Sl):AV:=.tup [vi (((MM d S).getD 0:Nat):Int),vb (MM d S).isSome]
theorem Wz{S:List Sl}:∀{l:List (List Tm)} {b i:Nat} {t:List Tm},l[i]?=some t->BG t S=true->(∀j u,j<i->l[j]?=some u->BG u S=false)->NE S b l=some (b+i)
 | [],_,_,_,h,_,_=>by simp_all
 |u::l,b,0,t,h,he,_=>by grind [NE]
 |u::l,b,i+1,t,h,he,hn=>by
  unfold NE;rw[AO (by rw[hn 0 u ch rfl];decide),Wz (i:=i) (by simp_all) he (fun j v hj hv=>hn (j+1) v ch (by simp_all))]
  grind
theorem WA{S:List Sl}:∀{l:List (List Tm)} {b:Nat},(∀t∈l,BG t S=false)->NE S b l=none
 | [],_,_=>rfl
 |u::l,b,h=>by
  unfold NE;rw[AO (by simp_all)];exact WA fun t ht=>h t (Af _ ht)
theorem yB(hn:s.infs.length<=65536)(hdl:s.drv.length=s.infs.length)(RP:s.infs.Nodup)(hq:Cr n.rq.set)(hp:AQ (n.place+1)):AW Tryz.prog 151 [.ref 1000 0,.agg (A9 n)] (Ae (Ik roots C A s dec st) Ab) fun r h'=>ng roots C A dec st (Bk s n) r h':=by
 refine A7 (H5 ⟨[3],[],[],[],[],[],[],[],[(15,5),(31,5)],[],[]⟩) [(1000,1000),(1001,1001),(1002,1002),(1003,1003),(1004,1004)] rfl Bu hm rfl Tryz.func151 aa0 rfl (Nz rfl) aa0 rfl (Yi (fun h1=>?_) (fun h1=>?_))
 .refine yN (Xi _ (Yi (qr n.rq hq) (Xi Ya (Xi [(1000,.cells (srM roots C A s dec 1004 st.length)),(1001,.tok 6 s.infs.length),(1002,.tok 1 s.drv.length),(1003,.map EX (E0 0 s.infs)),(1004,.arr 1 (st.map AU))] (Xi (Ik roots C A (Dw s ⟨0,mt,0,n.number,0,0⟩ (Gc n.rq)).2 dec st) (Xi [.ref 1000 0,.agg [vi 0,vs ⟨#[]⟩,vi 0,vi n.number,vi 0,vi 0],sl Am (Gc n.rq)] (Xi (vi (((Dw s ⟨0,mt,0,n.number,0,0⟩ (Gc n.rq)).1:Nat):Int):AV) (Yi (fun h2 hh=>Yi ((qR (show h2 1000=.cells (srM roots C A s dec 1004 st.length)from hh 1000 Wk) (show h2 1001=.tok 6 s.infs.length from hh 1001 Wk) (show h2 1002=.tok 1 s.drv.length from hh 1002 Wk) (show h2 1003=.map EX (E0 0 s.infs)from hh 1003 Wk) (show h2 1004=.arr 1 (st.map AU)from hh 1004 Wk)).trans rfl) rfl) (Yi aa0 (Yi (lR roots C A s dec st ⟨0,mt,0,n.number,0,0⟩ (Gc n.rq) hn hdl RP) (Yi aa0 ?_)))))))))));have ei:=cH (s:=s) h1;exact Xi _ (Yi (.refl _) (Yi (show vi (((Dw s ⟨0,mt,0,n.number,0,0⟩ (Gc n.rq)).1:Nat):Int)=vi (((Bk s n).1:Nat):Int) by rw[ei]) (show Ae (Ik roots C A (Dw s ⟨0,mt,0,n.number,0,0⟩ (Gc n.rq)).2 dec st) Ab=Ae (Ik roots C A (Bk s n).2 dec st) Ab by rw[ei])))
 refine yN (Xi _ (Yi (qt n.path n.place n.rq hp hq) (Xi Ya (Xi [(1000,.cells (srM roots C A s dec 1004 st.length)),(1001,.tok 6 s.infs.length),(1002,.tok 1 s.drv.length),(1003,.map EX (E0 0 s.infs)),(1004,.arr 1 (st.map AU))] (Xi (Ik roots C A (Dw s ⟨1,n.path,n.place,n.number,0,0⟩ (Co n.path n.place n.rq)).2 dec st) (Xi [.ref 1000 0,.agg [vi 1,vs n.path,vi n.place,vi n.number,vi 0,vi 0],sl Am (Co n.path n.place n.rq)] (Xi (vi (((Dw s ⟨1,n.path,n.place,n.number,0,0⟩ (Co n.path n.place n.rq)).1:Nat):Int):AV) (Yi (fun h2 hh=>Yi ((qR (show h2 1000=.cells (srM roots C A s dec 1004 st.length)from hh 1000 Wk) (show h2 1001=.tok 6 s.infs.length from hh 1001 Wk) (show h2 1002=.tok 1 s.drv.length from hh 1002 Wk) (show h2 1003=.map EX (E0 0 s.infs)from hh 1003 Wk) (show h2 1004=.arr 1 (st.map AU)from hh 1004 Wk)).trans rfl) rfl) (Yi aa0 (Yi (lR roots C A s dec st ⟨1,n.path,n.place,n.number,0,0⟩ (Co n.path n.place n.rq) hn hdl RP) (Yi aa0 ?_)))))))))));have ei:=gJ (s:=s) h1;exact Xi _ (Yi (.refl _) (Yi (show vi (((Dw s ⟨1,n.path,n.place,n.number,0,0⟩ (Co n.path n.place n.rq)).1:Nat):Int)=vi (((Bk s n).1:Nat):Int) by rw[ei]) (show Ae (Ik roots C A (Dw s ⟨1,n.path,n.place,n.number,0,0⟩ (Co n.path n.place n.rq)).2 dec st) Ab=Ae (Ik roots C A (Bk s n).2 dec st) Ab by rw[ei])))
theorem s89(hd:s.drv.length<=65536)(ht:∀t∈s.drv,UO t)(hS:Cr S):AW Tryz.prog 152 [.ref 1000 0,sl Ah S] (Ae (Ik roots C A s dec st) Ab) fun r h'=>r=fH s.drv S/\h'=Ae (Ik roots C A s dec st) Ab:=by
 refine A7 (H5 D0) [(1000,1000),(1001,1001),(1002,1002),(1003,1003),(1004,1004)] rfl Bu hm rfl Tryz.func152 aa0 rfl (Nz rfl) aa0 rfl (Xi {i:Nat // i<=s.drv.length/\∀j u,j<i->s.drv[j]?=some u->BG u S=false} (Xi (fun q=>⟨[(1,sl Ah S),(11,.slice (.id 1002 1) (s.drv.map Ap)),(12,vi (s.drv.map Ap).length),(13,vi q.1)],[(1000,.cells (srM roots C A s dec 1004 st.length)),(1001,.tok 6 s.infs.length),(1002,.tok 1 s.drv.length),(1003,.map EX (E0 0 s.infs)),(1004,.arr 1 (st.map AU))],Ab⟩) (Xi (fun q=>s.drv.length-q.1) (Yi (Xi ⟨0,Ar _,fun j u h=>absurd h (Dn j)⟩ ?_) ?_))))
 .exact⟨Z4,Z5,Fh,Be aa0⟩
 intro⟨i,i1,i2⟩;refine Yi (fun h1=>?_) (fun h1=>?_)
 .have h1:(i:Int)<((s.drv.map Ap).length:Int):=h1;have n1:=Jb h1;refine Xi (Ap s.drv[i]) (Yi (N0 n1) (Yi rfl (Bs (Bt (BG s.drv[i] S)) (fun h2=>?_) (fun h2=>?_))))
  .refine Xi .pure (Xi _ (Yi (cb h2 (vH s.drv[i] S (ht _ (Ao _)) hS)) ?_));have eE:MM s.drv S=some i:=by unfold MM;rw[Wz (Ge n1) h2 i2,EC]
   exact Xi _ (Yi (.refl _) (Yi (show AV.tup [vi (i:Int),vb true]=fH s.drv S by simp_all) rfl))
  have h2:(BG s.drv[i] S)=false:=h2;refine Xi .pure (Xi _ (Yi (cb h2 (vH s.drv[i] S (ht _ (Ao _)) hS)) (Yi (by grind [AQ]) ?_)));refine Xi ⟨i+1,by omega,fun j u hj hu=>by
    grind⟩ ?_
  exact⟨Dl s.drv.length i ch,Z4,Z5,Fh,Be aa0⟩
 have h1:¬((i:Int)<((s.drv.map Ap).length:Int)):=h1;have n1:=FS h1;have eE:MM s.drv S=none:=WA fun t ht=>by
  grind [List.mem_iff_getElem?]
 exact Xi _ (Yi (.refl _) (Yi (show AV.tup [vi 0,vb false]=fH s.drv S by simp_all) rfl))
def Up(l:List Cd)(q:Rq):Bool:=l.any fun d=>decide (d.rel.path=q.path)&&!has q.set d.place
theorem T8{f:Rq->Nat->Nd}{P:Nd->Bool}:∀{l:List Rq} {b i:Nat} {q:Rq},l[i]?=some q->P (f q (b+i))=true->(∀k u,k<i->l[k]?=some u->P (f u (b+k))=false)->(Lq f b l).find? P=some (f q (b+i))
 | [],_,_,_,h,_,_=>by simp_all
 |u::l,b,0,q,h,he,_=>by
  grind [Lq]
 |u::l,b,i+1,q,h,he,hn=>by
  unfold Lq;have h0:P (f u b)=false:=hn 0 u ch rfl;rw[II,h0]
  have:=T8 (f:=f) (P:=P) (l:=l) (b:=b+1) (i:=i) (q:=q) (by simp_all) (by grind) (fun k v hk hv=>by
   grind)
  grind
theorem NO{f:Rq->Nat->Nd}{P:Nd->Bool}:∀{l:List Rq} {b:Nat},(∀k u,l[k]?=some u->P (f u (b+k))=false)->(Lq f b l).find? P=none
 | [],_,_=>rfl
 |u::l,b,h=>by
  unfold Lq;have h0:P (f u b)=false:=h 0 u rfl;rw[II,h0];exact NO fun k v hv=>by rw[show b+1+k=b+(k+1) by omega];simp_all
def zNd:AV:=.agg [vs ⟨#[]⟩,nzA,vs ⟨#[]⟩,vi 0,vi 0]
def nU(o:Option Nd):AV:=match o with | some n=>.tup [.agg (A9 n),vb true] | none=>.tup [zNd,vb false]
section
variable {dec:List Cd}{c:Cd}{i:Nat}
theorem fq(hi:i<c.rel.reqs.length)(hn:∀k q,k<i->c.rel.reqs[k]?=some q->Up (dec++[c]) q=false){j:Nat}(hj:j<(dec++[c]).length)(h1:(dec++[c])[j].rel.path=c.rel.reqs[i].path)(h2:has c.rel.reqs[i].set (dec++[c])[j].place=false) :
  Dq dec c=some ⟨c.rel.reqs[i],c.rel.path,c.place,(i:Nat)⟩:=by
 have:=T8 (f:=fun q i=>⟨q,c.rel.path,c.place,(i:Nat)⟩) (P:=aG (dec++[c])) (l:=c.rel.reqs) (b:=0) (i:=i) (q:=c.rel.reqs[i]) (Ge hi)
  (Ci.2 ⟨_,Ao hj,by simp_all⟩) (fun k u hk hu=>hn k u hk hu)
 grind [Dq,Pi]
theorem ft(hn:∀(k:Nat) (q:Rq),c.rel.reqs[k]?=some q->Up (dec++[c]) q=false):Dq dec c=none:=by
 unfold Dq Pi;exact NO fun k u hu=>hn k u hu
theorem gT{q:Rq}(h:∀(m:Nat) (d:Cd),(dec++[c])[m]?=some d->(decide (d.rel.path=q.path)&&!has q.set d.place)=false):Up (dec++[c]) q=false:=by
 grind [Up,List.mem_iff_getElem?]
end
theorem s87(hq:Cr n.rq.set):PC 150 [.agg (A9 n),.cptr (Ax c)] (vb (!has n.rq.set c.place)):=by
 refine Ps (pC [2] []) Tryz.func150 rfl (Nz rfl) (Bs (Bt (has n.rq.set c.place)) (fun h1=>?_) (fun h1=>?_))
 .refine Xi .pure (Xi _ (Yi (cb h1 (nT n.rq.set c.place hq)) ?_));exact .of_eq (show vb false=vb (!has n.rq.set c.place) by simp_all)
 refine Xi .pure (Xi _ (Yi (cb h1 (nT n.rq.set c.place hq)) ?_));exact .of_eq (show vb true=vb (!has n.rq.set c.place) by simp_all)
theorem s69(hd:dec.length<=1073741823)(hr:c.rel.reqs.length<=1073741824)(hq:∀q∈c.rel.reqs,Cr q.set):AW Tryz.prog 153 [.ref 1000 0,.agg (Ax c)] (Ae (Ik roots C A s dec st) Ab) fun r h'=>r=nU (Dq dec c)/\h'=Ae (Ik roots C A s dec st) Ab:=by
 have hdl:(dec++[c]).length=dec.length+1:=by simp
 refine A7 (H5 ⟨[3],[],[],[],[],[],[],[],[(23,3)],[],[]⟩) [(1000,1000),(1001,1001),(1002,1002),(1003,1003),(1004,1004)] rfl Bu hm rfl Tryz.func153 aa0 rfl (Nz rfl) aa0 rfl (Xi {i:Nat // i<=c.rel.reqs.length/\∀k q,k<i->c.rel.reqs[k]?=some q->Up (dec++[c]) q=false} (Xi (fun q=>⟨[(0,.ref 1000 0),(3,.ref 3 0),(4,.ref 4 0),(12,sl Ac c.rel.reqs),(13,vi (c.rel.reqs.map Ac).length),(14,vi q.1)],[(3,.ro (Ax c)),(4,.cells [vs ⟨#[]⟩,nzA,vs ⟨#[]⟩,vi 0,vi 0]),(1000,.cells (srM roots C A s dec 1004 st.length)),(1001,.tok 6 s.infs.length),(1002,.tok 1 s.drv.length),(1003,.map EX (E0 0 s.infs)),(1004,.arr 1 (st.map AU))],Ab⟩) (Xi (fun q=>c.rel.reqs.length-q.1) (Yi (Xi ⟨0,Ar _,fun k q h=>absurd h (Dn k)⟩ ?_) ?_))))
 .exact⟨Z6,Z7,Fh,Be aa0⟩
 intro⟨i,i1,i2⟩;refine Yi (fun h1=>?_) (fun h1=>?_)
 .have h1:(i:Int)<((c.rel.reqs.map Ac).length:Int):=h1;have n1:=Jb h1;refine Xi (Ac c.rel.reqs[i]) (Yi (N0 n1) (Yi rfl (yN (yN (Xi _ (Xi _ (Yi aa0 (Yi (s9 dec (AH hd Wk)) (yN ?_)))))))));have b2:BJ 10 [(Ax c)]/\(dec.map Ax).length=(dec.map Ax).length/\((dec.map Ax).length+([(Ax c)]:List (List AV)).length)*128<=140737488355328/\(dec.map Ax).length+([(Ax c)]:List (List AV)).length<=9223372036854775807:=⟨⟨rfl,trivial⟩,rfl,(by grind),(by grind)⟩;refine Yi b2 (Yi aa0 (Xi {j:Nat // j<=(dec++[c]).length/\∀m d,m<j->(dec++[c])[m]?=some d->(decide (d.rel.path=c.rel.reqs[i].path)&&!has c.rel.reqs[i].set d.place)=false} (Xi (fun q=>⟨[(0,.ref 1000 0),(3,.ref 3 0),(4,.ref 4 0),(6,vi i),(7,.ref 7 0),(12,sl Ac c.rel.reqs),(13,vi (c.rel.reqs.map Ac).length),(14,vi i),(26,.slice (.id 12300 10) ((dec++[c]).map Ax)),(27,vi ((dec++[c]).map Ax).length),(28,vi q.1)],[(3,.ro (Ax c)),(4,.cells [vs ⟨#[]⟩,nzA,vs ⟨#[]⟩,vi 0,vi 0]),(7,.cells (Ac c.rel.reqs[i])),(1000,.cells (srM roots C A s dec 1004 st.length)),(1001,.tok 6 s.infs.length),(1002,.tok 1 s.drv.length),(1003,.map EX (E0 0 s.infs)),(1004,.arr 1 (st.map AU)),(12300,.tok 10 ((dec++[c]).map Ax).length)],Ab⟩) (Xi (fun q=>(dec++[c]).length-q.1) (Yi (Xi ⟨0,Ar _,fun k q h=>absurd h (Dn k)⟩ ?_) ?_)))))
  .exact⟨⟨Zr,Zr,Zr,Zr,Zr,Zr,Zr,Zr,⟨tkA,rfl⟩,⟨(show vi ((dec.map Ax++[Ax c]:List (List AV)).length:Int)=vi (((dec++[c]).map Ax).length:Int) by simp_all),rfl⟩,Zr,Tv⟩,⟨Zr,Zr,Zr,Zr,Zr,Zr,Zr,Zr,⟨(show HO.tok 10 ((dec.map Ax).length+[Ax c].length)=.tok 10 ((dec++[c]).map Ax).length by simp),rfl⟩,Tv⟩,Fh,Be aa0⟩
  intro⟨j,j1,j2⟩;refine Yi (fun h3=>?_) (fun h3=>?_)
  .have h3:(j:Int)<(((dec++[c]).map Ax).length:Int):=h3;have n3:=Jb h3;refine Xi (Ax ((dec++[c])[j])) (Yi (N0 n3) (Yi rfl (yN (yN (Yi (fun h4=>?_) (fun h4=>?_))))))
   .have h4:(((dec++[c])[j]).rel.path:ByteArray)=c.rel.reqs[i].path:=h4;refine Bs (Bt (has c.rel.reqs[i].set (dec++[c])[j].place)) (fun h5=>?_) (fun h5=>?_)
    .have h5:(has c.rel.reqs[i].set (dec++[c])[j].place)=true:=h5;refine Xi .pure (Xi _ (Yi (cb h5 (nT c.rel.reqs[i].set (dec++[c])[j].place (hq _ (Ao _)))) (Yi (by grind [AQ]) ?_)));refine Xi ⟨j+1,by omega,fun m d hm hd=>by
       grind⟩ ?_
     exact⟨by show(dec++[c]).length-(j+1)<(dec++[c]).length-j;omega,Z11,Z9,Fh,Be aa0⟩
    have h5:(has c.rel.reqs[i].set (dec++[c])[j].place)=false:=h5;refine Xi .pure (Xi _ (Yi (cb h5 (nT c.rel.reqs[i].set (dec++[c])[j].place (hq _ (Ao _)))) (yN (yN (yN ?_)))));have eC:=fq (dec:=dec) (c:=c) n1 i2 n3 h4 h5;exact Xi _ (Yi (.refl _) (Yi (show AV.tup [.agg (A9 ⟨c.rel.reqs[i],c.rel.path,c.place,(i:Nat)⟩),vb true]=nU (Dq dec c) by rw[eC];rfl) rfl))
   have h4:¬(((dec++[c])[j]).rel.path:ByteArray)=c.rel.reqs[i].path:=h4;refine Yi (by grind [AQ]) ?_;refine Xi ⟨j+1,by omega,fun m d hm hd=>by
     grind⟩ ?_
   exact⟨by show(dec++[c]).length-(j+1)<(dec++[c]).length-j;omega,Z11,Z9,Fh,Be aa0⟩
  have h3:¬((j:Int)<(((dec++[c]).map Ax).length:Int)):=h3;have n3:=FS h3;refine Yi (by grind [AQ]) ?_;have hmq:Up (dec++[c]) c.rel.reqs[i]=false:=gT fun m d hd=>j2 m d (by grind) hd;refine Xi ⟨i+1,by omega,fun k q hk hq0=>by
    grind⟩ ?_
  exact⟨Dl c.rel.reqs.length i ch,Z6,Z7,Fh,Be aa0⟩
 have h1:¬((i:Int)<((c.rel.reqs.map Ac).length:Int)):=h1;have n1:=FS h1;refine yN (yN ?_);have eC:=ft (dec:=dec) (c:=c) fun k q hk=>i2 k q (by grind) hk;exact Xi _ (Yi (.refl _) (Yi (show AV.tup [zNd,vb false]=nU (Dq dec c) by rw[eC];rfl) rfl))
end Go.Eng
