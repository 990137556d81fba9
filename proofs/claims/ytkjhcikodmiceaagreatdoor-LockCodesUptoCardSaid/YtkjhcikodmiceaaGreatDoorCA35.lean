/- Lemmas 35. -/
import Derived.Test.YtkjhcikodmiceaaGreatDoorCA29
import Derived.Test.YtkjhcikodmiceaaGreatDoorCards
import Derived.Test.YtkjhcikodmiceaaGreatDoorTie
import Derived.ProofKit
import Derived.OpenShut
import Derived.Deep.DeepHandedRow
import Derived.Lib.LaidTab
namespace Go.Proofs.YtkjhcikodmiceaaGreatDoor.joins
open Go Go.Eng Go.Proofs Go.ChangeShapes Go.WideShapes Go.ChangeAt Go.RowKit
section
variable {H:Type}{enc:TypeId×Value->H}{w:World}
theorem all_le{d:DataW H}{l:List (DataW H)}(h:d∈l):Rows.uptoBulk d<=Rows.uptoBulkAll l:=by
 induction l with
 |nil=>cases h
 |cons x r ih=>
  simp only[Rows.uptoBulkAll]
  cases AJ.1 h with
  |inl e=>subst e;omega
  |inr e=>have:=ih e;omega
theorem one_le(d:DataW H):1<=Rows.uptoBulk d:=by
 cases d with
 |lit l=>cases l<;>simp[Rows.uptoBulk]
 |nil=>simp[Rows.uptoBulk]
 |ptr d=>simp[Rows.uptoBulk]
 |slice zt spare=>simp[Rows.uptoBulk]
 |agg parts=>simp[Rows.uptoBulk]
 |iface t d=>simp[Rows.uptoBulk]
 |map entries=>simp[Rows.uptoBulk]
 |held h=>simp[Rows.uptoBulk]
theorem len_le(l:List (DataW H)):l.length<=Rows.uptoBulkAll l:=by
 induction l with
 |nil=>simp[Rows.uptoBulkAll]
 |cons x r ih=>have:=one_le x;simp only[Rows.uptoBulkAll,AK];omega
theorem bulk_ok:ZD (H:=H) Rows.uptoBulk where
 slice es sp:=by
  have h1:=len_le es
  refine⟨by simp only[Rows.uptoBulk];omega,fun d hd=>?_⟩
  have:=all_le hd
  simp only[Rows.uptoBulk];omega
 agg ps d hd:=by
  have:=all_le hd
  simp only[Rows.uptoBulk];omega
 str b:=by simp only[Rows.uptoBulk];omega
theorem app_all(l r:List (DataW H)):Rows.uptoBulkAll (l++r)=Rows.uptoBulkAll l+Rows.uptoBulkAll r:=by
 induction l with
 |nil=>simp[Rows.uptoBulkAll]
 |cons x l ih=>simp only[FN,Rows.uptoBulkAll,ih];omega
abbrev NB:Nat:=1048576
abbrev Op(enc:TypeId×Value->H)(w:World)(t:TypeId){α:Type}(e:α->List AV)(ok:α->Prop):Prop:=Ke enc Tryz.prog w Rows.uptoBulk NB t e ok
theorem oI:Op enc w 3 (fun n:Int=>[G n]) (fun _=>True):=(Sq Tryz.underlying3).to id (fun _ _=>⟨rfl,trivial⟩)
theorem oIb:Op enc w 3 (fun n:Int=>[G n]) (fun n=>n<2^63):=(Sq Tryz.underlying3).to id (fun n h=>⟨rfl,by have h2:n<=2^63-1:=h.2;show n<_;omega⟩)
theorem oB:Op enc w 4 (fun b:Bool=>[Q b]) (fun _=>True):=iO Tryz.underlying4
theorem oS:Op enc w 9 (fun s:ByteArray=>[vs s]) (fun s=>s.size<=NB):=aX bulk_ok Tryz.underlying9
theorem oVer:Op enc w 43 Ir (fun _=>True):=
 (Ee bulk_ok Tryz.underlying43 (L:=3) aa5 (A9 rfl (n:=1) aa5 oI (A9 rfl (n:=1) aa5 oI (A9 rfl (n:=1) aa5 oI Fm)))).to
  (fun p=>(⟨p.1,p.2.1,p.2.2.1⟩:Ver)) (fun _ _=>⟨rfl,trivial⟩)
theorem oSpan:Op enc w 64 Y (fun _=>True):=
 (Ee bulk_ok Tryz.underlying64 (L:=2) aa5 (A9 rfl (n:=1) aa5 oI (A9 rfl (n:=1) aa5 oI Fm))).to
  (fun p=>(p.1,p.2.1)) (fun _ _=>⟨rfl,trivial⟩)
theorem oSet:Op enc w 66 (fun l:AY=>[sl Y l]) (fun l=>l.length<=NB):=
 (GB bulk_ok Tryz.underlying66 (m:=1) aa5 (fun _=>rfl) oSpan).to id (fun _ h=>⟨rfl,h.1⟩)
abbrev OkRq(q:Rq):Prop:=q.path.size<=NB/\q.set.length<=NB
theorem oRq:Op enc w 68 Ak OkRq:=
 (Ee bulk_ok Tryz.underlying68 (L:=2) aa5 (A9 rfl (n:=1) aa5 oS (A9 rfl (n:=1) aa5 oSet Fm))).to
  (fun p=>(⟨p.1,p.2.1⟩:Rq)) (fun _ h=>⟨rfl,h.1,h.2.1⟩)
abbrev OkRqs(l:List Rq):Prop:=l.length<=NB/\∀q∈l,OkRq q
theorem oRqs:Op enc w 26 (fun l:List Rq=>[sl Ak l]) OkRqs:=
 GB bulk_ok Tryz.underlying26 (m:=1) aa5 (fun _=>rfl) oRq
abbrev OkRl(r:F):Prop:=r.path.size<=NB/\OkRqs r.reqs
theorem oRl:Op enc w 70 Ay OkRl:=
 (Ee bulk_ok Tryz.underlying70 (L:=9) aa5 (A9 rfl (n:=1) aa5 oS (A9 rfl (n:=3) aa5 oVer (A9 rfl (n:=1) aa5 oRqs
  (A9 rfl (n:=1) aa5 oS (A9 rfl (n:=1) aa5 oS (A9 rfl (n:=1) aa5 oS (A9 rfl (n:=1) aa5 oB Fm)))))))).to
  (fun p=>(⟨p.1,p.2.1,p.2.2.1,p.2.2.2.1,p.2.2.2.2.1,p.2.2.2.2.2.1,p.2.2.2.2.2.2.1⟩:F)) (fun _ h=>⟨rfl,h.1,h.2.2.1⟩)
theorem oRls:Op enc w 22 (fun l:List F=>[sl Ay l]) (fun l=>l.length<=NB/\∀r∈l,OkRl r):=
 GB bulk_ok Tryz.underlying22 (m:=8) aa5 (fun _=>rfl) oRl
theorem oIfc:Op enc w 478 (fun s:ByteArray=>[vs s,.junk,.junk,.junk,.junk]) (fun _=>True):=
 (Ee bulk_ok Tryz.underlying478 (L:=5) aa5 (A9 rfl (n:=1) aa5 oS (A9 rfl (n:=1) aa5 (N3 Tryz.underlying473) (A9 rfl (n:=1) aa5 (N3 Tryz.underlying474)
  (A9 rfl (n:=1) aa5 (N3 Tryz.underlying475) (A9 rfl (n:=1) aa5 (N3 Tryz.underlying476) Fm)))))).to (fun p=>p.1) (fun _ _=>⟨rfl,trivial⟩)
theorem oIfs:Op enc w 23 (fun l:List ByteArray=>[sl (fun s=>[vs s,.junk,.junk,.junk,.junk]) l]) (fun l=>l.length<=NB):=
 (GB bulk_ok Tryz.underlying23 (m:=4) aa5 (fun _=>rfl) oIfc).to id (fun _ h=>⟨rfl,h.1⟩)
theorem oIx:Op enc w 25 (fun p:List F×List (List AV)=>[sl Ay p.1,.slice .none p.2]) (fun p=>(p.1.length<=NB/\∀r∈p.1,OkRl r)/\p.2.length<=NB/\∀c∈p.2,c.length=5):=
 (Ee bulk_ok Tryz.underlying25 (L:=2) aa5 (A9 rfl (n:=1) aa5 oRls (A9 rfl (n:=1) aa5 oIfs Fm))).to
  (fun p=>(p.1,p.2.1.map (fun s=>[vs s,.junk,.junk,.junk,.junk]))) (fun _ h=>⟨rfl,h.1,by rw[Bs];exact h.2.1,fun c hc=>by obtain⟨s,_,rfl⟩:=Ap.1 hc;rfl⟩)
abbrev OkNf(i:Nf):Prop:=i.path.size<=NB/\i.place<2^63/\i.number<2^63/\i.left<2^63/\i.right<2^63
theorem oNf:Op enc w 96 A8 OkNf:=
 (Ee bulk_ok Tryz.underlying96 (L:=6) aa5 (A9 rfl (n:=1) aa5 oI (A9 rfl (n:=1) aa5 oS (A9 rfl (n:=1) aa5 oIb
  (A9 rfl (n:=1) aa5 oIb (A9 rfl (n:=1) aa5 oIb (A9 rfl (n:=1) aa5 oIb Fm))))))).to
  (fun p=>(⟨p.1,p.2.1,p.2.2.1,p.2.2.2.1,p.2.2.2.2.1,p.2.2.2.2.2.1⟩:Nf)) (fun _ h=>⟨rfl,h.2.1,h.2.2.1,h.2.2.2.1,h.2.2.2.2.1,h.2.2.2.2.2.1⟩)
theorem oNfs:Op enc w 30 (fun l:List Nf=>[sl A8 l]) (fun l=>l.length<=NB/\∀i∈l,OkNf i):=
 GB bulk_ok Tryz.underlying30 (m:=5) aa5 (fun _=>rfl) oNf
abbrev OkSk(y:Sk):Prop:=y.path.size<=NB/\y.place<2^63/\y.inf<2^63
theorem oSk:Op enc w 92 AT OkSk:=
 (Ee bulk_ok Tryz.underlying92 (L:=3) aa5 (A9 rfl (n:=1) aa5 oS (A9 rfl (n:=1) aa5 oIb (A9 rfl (n:=1) aa5 oIb Fm)))).to
  (fun p=>(⟨p.1,p.2.1,p.2.2.1⟩:Sk)) (fun _ h=>⟨rfl,h.1,h.2.1,h.2.2.1⟩)
theorem oSks:Op enc w 31 (fun l:List Sk=>[sl AT l]) (fun l=>l.length<=NB/\∀y∈l,OkSk y):=
 GB bulk_ok Tryz.underlying31 (m:=2) aa5 (fun _=>rfl) oSk
theorem oU8:Op enc w 5 (fun n:Int=>[.v (.int .u8 n)]) (fun n=>0<=n/\n<=255):=(Sq Tryz.underlying5).to id (fun _ h=>⟨rfl,h⟩)
abbrev OkLo(e:Lo):Prop:=e.path.size<=NB/\e.arch.size<=NB/\e.ifc.size<=NB
theorem oLo:Op enc w 53 Cr OkLo:=
 (Ee bulk_ok Tryz.underlying53 (L:=6) aa5 (A9 rfl (n:=1) aa5 oS (A9 rfl (n:=3) aa5 oVer (A9 rfl (n:=1) aa5 oS (A9 rfl (n:=1) aa5 oS Fm))))).to
  (fun p=>(⟨p.1,p.2.1,p.2.2.1,p.2.2.2.1⟩:Lo)) (fun _ h=>⟨rfl,h.1,h.2.2.1,h.2.2.2.1⟩)
theorem oLos:Op enc w 29 (fun l:List Lo=>[sl Cr l]) (fun l=>l.length<=NB/\∀y∈l,OkLo y):=
 GB bulk_ok Tryz.underlying29 (m:=5) aa5 (fun _=>rfl) oLo
abbrev OkLk(l:Lk):Prop:=OkRqs l.roots/\(l.ents.length<=NB/\∀y∈l.ents,OkLo y)/\(l.infs.length<=NB/\∀i∈l.infs,OkNf i)/\(l.skips.length<=NB/\∀y∈l.skips,OkSk y)
theorem oLk:Op enc w 33 Bu OkLk:=
 (Ee bulk_ok Tryz.underlying33 (L:=4) aa5 (A9 rfl (n:=1) aa5 oRqs (A9 rfl (n:=1) aa5 oLos (A9 rfl (n:=1) aa5 oNfs
  (A9 rfl (n:=1) aa5 oSks Fm))))).to
  (fun p=>(⟨p.1,p.2.1,p.2.2.1,p.2.2.2.1⟩:Lk)) (fun _ h=>⟨rfl,h.1,h.2.1,h.2.2.1,h.2.2.2.1⟩)
theorem few_of{n:Nat}(h:n<=NB):n<=2^30:=Az h aa3
theorem lim_of{x:List F}{roots:List Rq}(h:x.length<=NB/\∀r∈x,OkRl r)(k:OkRqs roots):mD x roots where
 ix:=few_of h.1
 rs:=few_of k.1
 rel r hr:=⟨few_of (h.2 r hr).2.1,few_of (h.2 r hr).1,fun q hq=>⟨few_of ((h.2 r hr).2.2 q hq).2,few_of ((h.2 r hr).2.2 q hq).1⟩⟩
 rq q hq:=⟨few_of (k.2 q hq).2,few_of (k.2 q hq).1⟩
theorem lim0_of{x:List F}(h:x.length<=NB/\∀r∈x,OkRl r):mD x []:=lim_of h ⟨Ai _,fun q hq=>by cases hq⟩
theorem limk_of{l:Lk}(h:OkLk l):pZ l:=⟨h.2.1.1,h.2.2.1.1,h.2.2.2.1⟩
end
theorem ok_agg{P:Program}{W:World}{base:Nat}{t:TypeId}{v:Value}{fs:Array Field}(hu:P.underlying t=some (.struct fs))(h:Value.okWide P W .any base t v):∃cs,v=.agg cs:=by
 unfold Value.okWide at h
 rw[hu]at h
 obtain⟨cs,e,_⟩:=h
 exact⟨cs,e⟩
theorem ok_slice{P:Program}{W:World}{base:Nat}{t e:TypeId}{v:Value}(hu:P.underlying t=some (.slice e))(h:Value.okWide P W .any base t v):v.oneCell'=true:=by
 unfold Value.okWide at h
 rw[hu]at h
 unfold Cell.okWide Cell.ok at h
 rw[hu]at h
 cases v<;>first | rfl | simp at h
theorem ok_int{P:Program}{W:World}{base:Nat}{t:TypeId}{k:IntKind}{v:Value}(hu:P.underlying t=some (.int k))(h:Value.okWide P W .any base t v):v.oneCell'=true:=by
 unfold Value.okWide at h
 rw[hu]at h
 unfold Cell.okWide Cell.ok at h
 rw[hu]at h
 cases v<;>first | rfl | simp at h
theorem ok_string{P:Program}{W:World}{base:Nat}{t:TypeId}{v:Value}(hu:P.underlying t=some .string)(h:Value.okWide P W .any base t v):v.oneCell'=true:=by
 unfold Value.okWide at h
 rw[hu]at h
 unfold Cell.okWide Cell.ok at h
 rw[hu]at h
 cases v<;>first | rfl | simp at h
theorem int_of_shape{P:Program}{w:World}{g:Nat}{t:TypeId}{k:IntKind}{zero:Array Value}(h:w.ShapedOpen P)(hg:g<P.globals.size)
  (h0:((begin P (fun _ _=>0) default).world.heap[g]?).bind Obj.row?=some (zero,t)) (hz:zero.size=1)
  (hb:P.buildable t=true) (hc:P.cellTypes P.depth t=some [t]) (hu:P.underlying t=some (.int k)):∃p,w.cell? ⟨g,0,none⟩=some (.int k p):=by
 obtain⟨cs,hh,hs,hr⟩:=h.1 g zero t hg h0
 obtain⟨ts,hts,_,HE⟩:=hr hb
 rw[hc]at hts
 cases hts
 have h1:0<cs.size:=I
 obtain⟨u,rO,EZ⟩:=HE 0 cs[0] (by simp[h1])
 have:u=t:=by simpa using rO.symm
 subst this
 have Dj:w.cell? ⟨g,0,none⟩=some cs[0]:=by simp[World.cell?,hh,h1]
 rw[Dj]
 unfold Cell.ok at EZ
 rw[hu]at EZ
 cases hv:cs[0]<;>rw[hv]at EZ<;>simp at EZ
 obtain⟨rfl,_⟩:=EZ
 exact⟨_,rfl⟩
theorem maxLen_cell{W:World}(h:W.ShapedOpen Tryz.prog):∃m,W.cell? ⟨0,0,none⟩=some (.int .i64 m):=
 int_of_shape (t:=3) (zero:=#[.int .i64 0]) h (B7 aa5) aa5 rfl aa5 aa5 Tryz.underlying3
def Still(W W' : World):Prop:=W'.os=W.os/\W'.output=W.output/\W.heap.size<=W'.heap.size/\∀b,b<W.heap.size->W'.heap[b]?=W.heap[b]?
theorem run_true{f:Nat}{args:List AV}{vals:Array Value}{W:World}(hc:PC f args (Q true))(hM:∃m,W.cell? ⟨0,0,none⟩=some (.int .i64 m))(hs:vals.size=args.length)
  (hr:∀(i:Nat) (av:AV) (x:Value),args[i]?=some av->vals[i]?=some x->O (aj W) W DS av x):Calls Tryz.prog f vals W fun e W'=>e=.returned (.bool true)/\Still W W':=by
 refine(hc.2 (aj W) W vals hs (fun i av x q1 q2=>(hr i av x q1 q2).up _) (zU hM (fun _ h=>by cases h))).mono fun e W' ⟨v,r,h',g',e1,e2,e3,e4,_⟩=>?_
 subst e1
 obtain⟨rfl,rfl⟩:=e2
 obtain rfl:=e3.v_eq
 exact⟨rfl,e4.os,e4.output,e4.size,fun b hb=>e4.frame b hb (fun r h=>h.elim)⟩
theorem Still.kept{W W' : World}(h:Still W W')(may:MemPlace->Prop):W.keptBut W' may:=by
 refine⟨h.1,h.2.1,fun i hi=>?_⟩
 rw[h.2.2.2 i hi]
 cases hh:W.heap[i]? with
 |none=>rfl
 |some o=>cases o<;>simp
theorem Still.same{W W' : World}(h:Still W W'){p:MemPlace}(hp:p.block<W.heap.size):W.sameAt W' p:=by
 cases p with
 |cell b off=>
  show W'.cell? ⟨b,off,none⟩=W.cell? ⟨b,off,none⟩
  unfold World.cell?
  rw[h.2.2.2 b hp]
 |map b=>exact h.2.2.2 b hp
theorem kids:Kids Tryz.prog (· < Tryz.prog.types.size):=kids_rows aa5 aa5
theorem full:∀t e,t<Tryz.prog.types.size->Tryz.prog.underlying t=some (.slice e)->0<Tryz.prog.cellsOf e:=slices_full_of Tryz.prog aa5
theorem carry{H:Type}{enc:TypeId×Value->H}{W W' : World}(h:Still W W'):∀{ts:List TypeId} {vs:List Value} {ds:List (DataW H)} {ps:List MemPlace},DataW.TrodAll enc Tryz.prog W 0 (fun _=>true) true ts vs ds ps->DataW.TrodAll enc Tryz.prog W' 0 (fun _=>true) true ts vs ds ps
 | [],[],[],_,e=>e
 |t::ts,v::vs,d::ds,ps,k=>by
  have CL:=k.lt
  obtain⟨p,q,⟨n,h1⟩,h2,rfl⟩:=k
  exact⟨p,q,⟨n,DataW.trod_carry n _ _ _ h1 (fun x hx=>h.same (CL x (Bq _ hx)))⟩,carry h h2,rfl⟩
 | [],[],_::_,_,k=>k.elim
 | [],_::_,_,_,k=>k.elim
 |_::_,[],_,_,k=>k.elim
 |_::_,_::_,[],_,k=>k.elim
theorem post_true{H:Type}{enc:TypeId×Value->H}{W W' : World}{f:Func}{s:ChangeSpec}{args:Array Value}{ds:List (DataW H)}{before:List MemPlace}(Jp:Still W W')(hv:s.vars=[])
  (hW:DataW.Whole enc Tryz.prog f.params.toList s.vars false W args.toList ds [] before) (hr:f.resultTypes=#[4]) (hT:∀t∈f.params.toList,t<Tryz.prog.types.size) (hs:s.fn H ds={ results:=[.lit (.bool true)],args:=ds }) :
  s.post enc Tryz.prog f false true false false W args (.bool true) W':=by
 have hW0:=hW
 obtain⟨p,q,hA,hV,rfl,hz,_⟩:=hW
 rw[hv]at hV
 have hq:q=[]:=hV
 subst hq
 have CL:=hW0.lt
 have hs2:s.fn H (ds++[])={ results:=[.lit (.bool true)],args:=ds }:=by rw[B9];exact hs
 refine⟨ds,[],p++[],[],p,[],hW0,?_,?_,?_,Jp.kept _,fun h=>by cases h⟩
 .rw[hs2,hr]
  exact⟨[],[],⟨1,by rw[show(Value.bool true).cells.toList=[.bool true]from rfl,DataW.trod_step];unfold DataW.trodStep;rw[Tryz.underlying4]⟩,rfl,rfl⟩
 .rw[hs2]
  exact(carry Jp hA).respare kids full hT (fun x hx=>by simpa using CL x (Bq _ hx))
 .rw[hs2,hv];rfl
end Go.Proofs.YtkjhcikodmiceaaGreatDoor.joins
namespace Go.Proofs.YtkjhcikodmiceaaGreatDoor.joins
open Go Go.Eng Go.Proofs Go.ChangeShapes Go.WideShapes Go.ChangeAt Go.RowKit
theorem own:ownKnob Tryz.prog.godebug=none:=by kernel_rfl
def flatD:Nat->DataW Unit->List Value
 |0,_=>[]
 |n+1,.agg l=>l.flatMap (flatD n)
 |_+1,.lit (.int k i)=>[.int k i]
 |_+1,_=>[]
def layIn(d:DataW Unit):Obj->Obj
 |.cells _ t frozen=>.cells (flatD 4 d).toArray t frozen
 |o=>o
noncomputable def laidWorld(os:Os):World:=
 { World.holding Tryz.prog os ⟨#[],#[],[]⟩with heap:=(((World.holding Tryz.prog os ⟨#[],#[],[]⟩).heap.modify 1 (layIn Rows.laid_unicode_utf8_first)).modify 2 (layIn Rows.laid_unicode_utf8_acceptRanges)) }
abbrev nilV:Value:=.slice none 0 0
theorem arr1{args:Array Value}{a:Value}(h:args.toList=[a]):args=#[a]:=by
 cases args;simp_all
theorem arr2{args:Array Value}{a b:Value}(h:args.toList=[a,b]):args=#[a,b]:=by
 cases args;simp_all
theorem arr3{args:Array Value}{a b c:Value}(h:args.toList=[a,b,c]):args=#[a,b,c]:=by
 cases args;simp_all
theorem arr4{args:Array Value}{a b c d:Value}(h:args.toList=[a,b,c,d]):args=#[a,b,c,d]:=by
 cases args;simp_all
theorem arr5{args:Array Value}{a b c d e:Value}(h:args.toList=[a,b,c,d,e]):args=#[a,b,c,d,e]:=by
 cases args;simp_all
theorem arr6{args:Array Value}{a b c d e f:Value}(h:args.toList=[a,b,c,d,e,f]):args=#[a,b,c,d,e,f]:=by
 cases args;simp_all
theorem looksOff:true=Tryz.pinned.checked.prog.looks []:=by kernel_rfl
theorem noStand:∀t∈([5,9,25,26,33,43]:List Nat),Tryz.pinned.checked.prog.wantsStandIn t=false:=by
 intro t ht
 simp only[AJ,My,or_false]at ht
 rcases ht with rfl | rfl | rfl | rfl | rfl | rfl<;>exact(show Tryz.prog.wantsStandIn _=false by kernel_rfl)
end Go.Proofs.YtkjhcikodmiceaaGreatDoor.joins
