/- Lemmas for the claims of this seat, without a condition: part 33 (J1, J2, V18, V19, V16, V20). -/
import Derived.Test.YtddfphmpfnmknaaGreatDoorDA32
import Derived.Test.YtddfphmpfnmknaaGreatDoorCards
import Derived.Test.YtddfphmpfnmknaaGreatDoorTie
import Derived.ProofKit
import Derived.OpenShut
import Derived.Deep.DeepHandedRow
import Derived.Lib.LaidTab
namespace Go.Proofs.YtddfphmpfnmknaaGreatDoor.joins
open Go Go.Eng Go.Proofs Go.ChangeShapes Go.WideShapes Go.ChangeAt Go.RowKit
section
variable {H:Type}{enc:TypeId×Value→H}{w:World}
theorem all_le{d:DataW H}{l:List (DataW H)}(h:d∈l):Rows.uptoBulk d≤Rows.uptoBulkAll l:=by
 induction l with
 |nil=>cases h
 |cons x r ih =>
  simp only[Rows.uptoBulkAll]
  cases AA.1 h with
  |inl e=>subst e;omega
  |inr e=>have:=ih e;omega
theorem one_le(d:DataW H):1≤Rows.uptoBulk d:=by
 cases d with
 |lit l=>cases l<;>simp[Rows.uptoBulk]
 |nil=>simp[Rows.uptoBulk]
 |ptr d=>simp[Rows.uptoBulk]
 |slice ml spare=>simp[Rows.uptoBulk]
 |agg parts=>simp[Rows.uptoBulk]
 |iface t d=>simp[Rows.uptoBulk]
 |map entries=>simp[Rows.uptoBulk]
 |held h=>simp[Rows.uptoBulk]
theorem len_le(l:List (DataW H)):l.length≤Rows.uptoBulkAll l:=by
 induction l with
 |nil=>simp[Rows.uptoBulkAll]
 |cons x r ih=>have:=one_le x;simp only[Rows.uptoBulkAll,Az];omega
theorem bulk_ok:Wd (H:=H) Rows.uptoBulk where
 slice es sp:=by
  have h1:=len_le es
  refine⟨by simp only[Rows.uptoBulk];omega,fun d hd=>?_⟩
  have:=all_le hd
  simp only[Rows.uptoBulk];omega
 agg ps d hd:=by
  have:=all_le hd
  simp only[Rows.uptoBulk];omega
 str b:=by simp only[Rows.uptoBulk];omega
theorem app_all(l r:List (DataW H)):Rows.uptoBulkAll (l++r)=Rows.uptoBulkAll l+Rows.uptoBulkAll r:=by
 induction l with
 |nil=>simp[Rows.uptoBulkAll]
 |cons x l ih=>simp only[D4,Rows.uptoBulkAll,ih];omega
abbrev NB:Nat:=1048576
abbrev Op(enc:TypeId×Value→H)(w:World)(t:TypeId){α:Type}(e:α→List AV)(ok:α→Prop):Prop:=JV enc Tryz.prog w Rows.uptoBulk NB t e ok
theorem oI:Op enc w 3 (fun n:Int=>[vi n]) (fun _=>True):=(dt Tryz.underlying3).to id (fun _ _=>⟨rfl,trivial⟩)
theorem oB:Op enc w 4 (fun b:Bool=>[vb b]) (fun _=>True):=ZX Tryz.underlying4
theorem oS:Op enc w 9 (fun s:ByteArray=>[vs s]) (fun s=>s.size≤NB):=WZ bulk_ok Tryz.underlying9
theorem oVer:Op enc w 27 Ea (fun _=>True) :=
 (F7 bulk_ok Tryz.underlying27 (L:=3) (by kernel_rfl) (Cm rfl (n:=1) (by kernel_rfl) oI (Cm rfl (n:=1) (by kernel_rfl) oI (Cm rfl (n:=1) (by kernel_rfl) oI Hg)))).to
  (fun p=>(⟨p.1,p.2.1,p.2.2.1⟩:Ver)) (fun _ _=>⟨rfl,trivial⟩)
theorem oSpan:Op enc w 67 Af (fun _=>True) :=
 (F7 bulk_ok Tryz.underlying67 (L:=2) (by kernel_rfl) (Cm rfl (n:=1) (by kernel_rfl) oI (Cm rfl (n:=1) (by kernel_rfl) oI Hg))).to
  (fun p=>(p.1,p.2.1)) (fun _ _=>⟨rfl,trivial⟩)
theorem oSet:Op enc w 69 (fun l:Ba=>[sl Af l]) (fun l=>l.length≤NB) :=
 (IL bulk_ok Tryz.underlying69 (m:=1) (by kernel_rfl) (fun _=>rfl) oSpan).to id (fun _ h=>⟨rfl,h.1⟩)
abbrev OkRq(q:Rq):Prop:=q.path.size≤NB∧q.set.length≤NB
theorem oRq:Op enc w 71 AF OkRq :=
 (F7 bulk_ok Tryz.underlying71 (L:=2) (by kernel_rfl) (Cm rfl (n:=1) (by kernel_rfl) oS (Cm rfl (n:=1) (by kernel_rfl) oSet Hg))).to
  (fun p=>(⟨p.1,p.2.1⟩:Rq)) (fun _ h=>⟨rfl,h.1,h.2.1⟩)
abbrev OkRqs(l:List Rq):Prop:=l.length≤NB∧∀q∈l,OkRq q
theorem oRqs:Op enc w 39 (fun l:List Rq=>[sl AF l]) OkRqs :=
 IL bulk_ok Tryz.underlying39 (m:=1) (by kernel_rfl) (fun _=>rfl) oRq
abbrev OkRl(r:Rl):Prop:=r.path.size≤NB∧OkRqs r.reqs
theorem oRl:Op enc w 41 Ag OkRl :=
 (F7 bulk_ok Tryz.underlying41 (L:=9) (by kernel_rfl) (Cm rfl (n:=1) (by kernel_rfl) oS (Cm rfl (n:=3) (by kernel_rfl) oVer (Cm rfl (n:=1) (by kernel_rfl) oRqs
  (Cm rfl (n:=1) (by kernel_rfl) oS (Cm rfl (n:=1) (by kernel_rfl) oS (Cm rfl (n:=1) (by kernel_rfl) oS (Cm rfl (n:=1) (by kernel_rfl) oB Hg)))))))).to
  (fun p=>(⟨p.1,p.2.1,p.2.2.1,p.2.2.2.1,p.2.2.2.2.1,p.2.2.2.2.2.1,p.2.2.2.2.2.2.1⟩:Rl)) (fun _ h=>⟨rfl,h.1,h.2.2.1⟩)
theorem oRls:Op enc w 22 (fun l:List Rl=>[sl Ag l]) (fun l=>l.length≤NB∧∀r∈l,OkRl r) :=
 IL bulk_ok Tryz.underlying22 (m:=8) (by kernel_rfl) (fun _=>rfl) oRl
theorem oIfc:Op enc w 132 (fun s:ByteArray=>[vs s,.junk,.junk,.junk,.junk]) (fun _=>True) :=
 (F7 bulk_ok Tryz.underlying132 (L:=5) (by kernel_rfl) (Cm rfl (n:=1) (by kernel_rfl) oS (Cm rfl (n:=1) (by kernel_rfl) (MY Tryz.underlying127) (Cm rfl (n:=1) (by kernel_rfl) (MY Tryz.underlying128)
  (Cm rfl (n:=1) (by kernel_rfl) (MY Tryz.underlying129) (Cm rfl (n:=1) (by kernel_rfl) (MY Tryz.underlying130) Hg)))))).to (fun p=>p.1) (fun _ _=>⟨rfl,trivial⟩)
theorem oIfs:Op enc w 23 (fun l:List ByteArray=>[sl (fun s=>[vs s,.junk,.junk,.junk,.junk]) l]) (fun l=>l.length≤NB) :=
 (IL bulk_ok Tryz.underlying23 (m:=4) (by kernel_rfl) (fun _=>rfl) oIfc).to id (fun _ h=>⟨rfl,h.1⟩)
theorem oIx:Op enc w 25 (fun p:List Rl×List (List AV)=>[sl Ag p.1,.slice .none p.2]) (fun p=>(p.1.length≤NB∧∀r∈p.1,OkRl r)∧p.2.length≤NB∧∀c∈p.2,c.length=5) :=
 (F7 bulk_ok Tryz.underlying25 (L:=2) (by kernel_rfl) (Cm rfl (n:=1) (by kernel_rfl) oRls (Cm rfl (n:=1) (by kernel_rfl) oIfs Hg))).to
  (fun p=>(p.1,p.2.1.map (fun s=>[vs s,.junk,.junk,.junk,.junk]))) (fun _ h=>⟨rfl,h.1,by rw[Bb];exact h.2.1,fun c hc=>by obtain⟨s,_,rfl⟩:=Am.1 hc;rfl⟩)
theorem oSl:Op enc w 29 Ad (fun y=>y.path.size≤NB) :=
 (F7 bulk_ok Tryz.underlying29 (L:=4) (by kernel_rfl) (Cm rfl (n:=1) (by kernel_rfl) oS (Cm rfl (n:=3) (by kernel_rfl) oVer Hg))).to
  (fun p=>(⟨p.1,p.2.1⟩:Sl)) (fun _ h=>⟨rfl,h.1⟩)
theorem oSls:Op enc w 45 (fun l:List Sl=>[sl Ad l]) (fun l=>l.length≤NB∧∀y∈l,y.path.size≤NB) :=
 IL bulk_ok Tryz.underlying45 (m:=3) (by kernel_rfl) (fun _=>rfl) oSl
theorem few_of{n:Nat}(h:n≤NB):n≤1073741824:=Bx h (by decide)
theorem lim_of{x:List Rl}{roots:List Rq}(h:x.length≤NB∧∀r∈x,OkRl r)(k:OkRqs roots):jF x roots where
 ix:=few_of h.1
 rs:=few_of k.1
 rel r hr:=⟨few_of (h.2 r hr).2.1,few_of (h.2 r hr).1,fun q hq=>⟨few_of ((h.2 r hr).2.2 q hq).2,few_of ((h.2 r hr).2.2 q hq).1⟩⟩
 rq q hq:=⟨few_of (k.2 q hq).2,few_of (k.2 q hq).1⟩
theorem lim0_of{x:List Rl}(h:x.length≤NB∧∀r∈x,OkRl r):jF x []:=lim_of h ⟨AD _,fun q hq=>by cases hq⟩
theorem lim43_of{x:List Rl}{ifs:List (List AV)}(h:(x.length≤NB∧∀r∈x,OkRl r)∧ifs.length≤NB∧∀c∈ifs,c.length=5):eK x ifs:=⟨lim0_of h.1,few_of h.2.1,h.2.2⟩
end
theorem ok_agg{P:Program}{W:World}{base:Nat}{t:TypeId}{v:Value}{fs:Array Field}(hu:P.underlying t=some (.struct fs))(h:Value.okWide P W .any base t v):∃cs,v=.agg cs:=by
 unfold Value.okWide at h
 rw[hu]at h
 obtain⟨cs,e,_⟩:=h
 exact⟨cs,e⟩
theorem ok_slice{P:Program}{W:World}{base:Nat}{t e:TypeId}{v:Value}(hu:P.underlying t=some (.slice e))(h:Value.okWide P W .any base t v):v.oneCell'=true:=by
 unfold Value.okWide at h
 rw[hu]at h
 unfold Cell.okWide Cell.ok at h
 rw[hu]at h
 cases v<;>first | rfl | simp at h
theorem ok_int{P:Program}{W:World}{base:Nat}{t:TypeId}{k:IntKind}{v:Value}(hu:P.underlying t=some (.int k))(h:Value.okWide P W .any base t v):v.oneCell'=true:=by
 unfold Value.okWide at h
 rw[hu]at h
 unfold Cell.okWide Cell.ok at h
 rw[hu]at h
 cases v<;>first | rfl | simp at h
theorem int_of_shape{P:Program}{w:World}{g:Nat}{t:TypeId}{k:IntKind}{zero:Array Value}(h:w.ShapedOpen P)(hg:g<P.globals.size)
  (h0:((begin P (fun _ _=>0) default).world.heap[g]?).bind Obj.row?=some (zero,t)) (hz:zero.size=1)
  (hb:P.buildable t=true) (hc:P.cellTypes P.depth t=some [t]) (hu:P.underlying t=some (.int k)):∃p,w.cell? ⟨g,0,none⟩=some (.int k p):=by
 obtain⟨cs,hh,hs,hr⟩:=h.1 g zero t hg h0
 obtain⟨ts,z7,_,F6⟩:=hr hb
 rw[hc]at z7
 cases z7
 have h1:0<cs.size:=by omega
 obtain⟨u,gP,GO⟩:=F6 0 cs[0] (by simp[h1])
 have:u=t:=by simpa using gP.symm
 subst this
 have DH:w.cell? ⟨g,0,none⟩=some cs[0]:=by simp[World.cell?,hh,h1]
 rw[DH]
 unfold Cell.ok at GO
 rw[hu]at GO
 cases hv:cs[0]<;>rw[hv]at GO<;>simp at GO
 obtain⟨rfl,_⟩:=GO
 exact⟨_,rfl⟩
theorem maxLen_cell{W:World}(h:W.ShapedOpen Tryz.prog):∃m,W.cell? ⟨0,0,none⟩=some (.int .i64 m) :=
 int_of_shape (t:=3) (zero:=#[.int .i64 0]) h (A5 (by kernel_rfl)) (by kernel_rfl) rfl (by kernel_rfl) (by kernel_rfl) Tryz.underlying3
def Still(W W' : World):Prop:=W'.os=W.os∧W'.output=W.output∧W.heap.size≤W'.heap.size∧∀b,b<W.heap.size→W'.heap[b]?=W.heap[b]?
theorem run_true{f:Nat}{args:List AV}{vals:Array Value}{W:World}(hc:PC f args (vb true))(hM:∃m,W.cell? ⟨0,0,none⟩=some (.int .i64 m))(hs:vals.size=args.length)
  (hr:∀(i:Nat) (av:AV) (x:Value),args[i]?=some av→vals[i]?=some x→BH (fY W) W Fy av x):Calls Tryz.prog f vals W fun e W'=>e=.returned (.bool true)∧Still W W':=by
 refine(hc.2 (fY W) W vals hs (fun i av x q1 q2=>(hr i av x q1 q2).up _) (sv hM (fun _ h=>by cases h))).mono fun e W' ⟨v,r,h',g',e1,e2,e3,e4,_⟩=>?_
 subst e1
 obtain⟨rfl,rfl⟩:=e2
 obtain rfl:=e3.v_eq
 exact⟨rfl,e4.os,e4.output,e4.size,fun b hb=>e4.frame b hb (fun r h=>h.elim)⟩
theorem Still.kept{W W' : World}(h:Still W W')(may:MemPlace→Prop):W.keptBut W' may:=by
 refine⟨h.1,h.2.1,fun i hi=>?_⟩
 rw[h.2.2.2 i hi]
 cases hh:W.heap[i]? with
 |none=>rfl
 |some o=>cases o<;>simp
theorem Still.same{W W' : World}(h:Still W W'){p:MemPlace}(hp:p.block<W.heap.size):W.sameAt W' p:=by
 cases p with
 |cell b off =>
  show W'.cell? ⟨b,off,none⟩=W.cell? ⟨b,off,none⟩
  unfold World.cell?
  rw[h.2.2.2 b hp]
 |map b=>exact h.2.2.2 b hp
theorem kids:Kids Tryz.prog (· < Tryz.prog.types.size):=kids_rows (by kernel_rfl) (by kernel_rfl)
theorem full:∀t e,t<Tryz.prog.types.size→Tryz.prog.underlying t=some (.slice e)→0<Tryz.prog.cellsOf e:=slices_full_of Tryz.prog (by kernel_rfl)
theorem carry{H:Type}{enc:TypeId×Value→H}{W W' : World}(h:Still W W'):∀{ts:List TypeId} {vs:List Value} {ds:List (DataW H)} {ps:List MemPlace},DataW.TrodAll enc Tryz.prog W 0 (fun _=>true) true ts vs ds ps→DataW.TrodAll enc Tryz.prog W' 0 (fun _=>true) true ts vs ds ps
 | [],[],[],_,e=>e
 |t::ts,v::vs,d::ds,ps,k=>by
  have DB:=k.lt
  obtain⟨p,q,⟨n,h1⟩,h2,rfl⟩:=k
  exact⟨p,q,⟨n,DataW.trod_carry n _ _ _ h1 (fun x hx=>h.same (DB x (Bn _ hx)))⟩,carry h h2,rfl⟩
 | [],[],_::_,_,k=>k.elim
 | [],_::_,_,_,k=>k.elim
 |_::_,[],_,_,k=>k.elim
 |_::_,_::_,[],_,k=>k.elim
theorem post_true{H:Type}{enc:TypeId×Value→H}{W W' : World}{f:Func}{s:ChangeSpec}{args:Array Value}{ds:List (DataW H)}{before:List MemPlace}(Jy:Still W W')(hv:s.vars=[])
  (hW:DataW.Whole enc Tryz.prog f.params.toList s.vars false W args.toList ds [] before) (hr:f.resultTypes=#[4]) (hT:∀t∈f.params.toList,t<Tryz.prog.types.size) (hs:s.fn H ds={ results:=[.lit (.bool true)],args:=ds }) :
  s.post enc Tryz.prog f false true false false W args (.bool true) W':=by
 have zv:=hW
 obtain⟨p,q,hA,hV,rfl,hz,_⟩:=hW
 rw[hv]at hV
 have hq:q=[]:=hV
 subst hq
 have DB:=zv.lt
 have kS:s.fn H (ds++[])={ results:=[.lit (.bool true)],args:=ds }:=by rw[BN];exact hs
 refine⟨ds,[],p++[],[],p,[],zv,?_,?_,?_,Jy.kept _,fun h=>by cases h⟩
 ·rw[kS,hr]
  exact⟨[],[],⟨1,by rw[show(Value.bool true).cells.toList=[.bool true]from rfl,DataW.trod_step];unfold DataW.trodStep;rw[Tryz.underlying4]⟩,rfl,rfl⟩
 ·rw[kS]
  exact(carry Jy hA).respare kids full hT (fun x hx=>by simpa using DB x (Bn _ hx))
 ·rw[kS,hv];rfl
end Go.Proofs.YtddfphmpfnmknaaGreatDoor.joins
namespace Go.Proofs.YtddfphmpfnmknaaGreatDoor.joins
open Go Go.Eng Go.Proofs Go.ChangeShapes Go.WideShapes Go.ChangeAt Go.RowKit
theorem own:ownKnob Tryz.prog.godebug=none:=by kernel_rfl
def flatD:Nat→DataW Unit→List Value
 |0,_=>[]
 |n+1,.agg l=>l.flatMap (flatD n)
 |_+1,.lit (.int k i)=>[.int k i]
 |_+1,_=>[]
def layIn(d:DataW Unit):Obj→Obj
 |.cells _ t frozen=>.cells (flatD 4 d).toArray t frozen
 |o=>o
noncomputable def laidWorld(os:Os):World :=
 { World.holding Tryz.prog os ⟨#[],#[],[]⟩with heap:=((World.holding Tryz.prog os ⟨#[],#[],[]⟩).heap.modify 1 (layIn Rows.laid_unicode_utf8_first)).modify 2 (layIn Rows.laid_unicode_utf8_acceptRanges) }
abbrev nilV:Value:=.slice none 0 0
theorem arr1{args:Array Value}{a:Value}(h:args.toList=[a]):args=#[a]:=by
 cases args;simp_all
theorem arr2{args:Array Value}{a b:Value}(h:args.toList=[a,b]):args=#[a,b]:=by
 cases args;simp_all
theorem arr3{args:Array Value}{a b c:Value}(h:args.toList=[a,b,c]):args=#[a,b,c]:=by
 cases args;simp_all
theorem arr4{args:Array Value}{a b c d:Value}(h:args.toList=[a,b,c,d]):args=#[a,b,c,d]:=by
 cases args;simp_all
theorem arr5{args:Array Value}{a b c d e:Value}(h:args.toList=[a,b,c,d,e]):args=#[a,b,c,d,e]:=by
 cases args;simp_all
theorem looksOff:false=Tryz.pinned.checked.prog.looks []:=by kernel_rfl
theorem noStand:∀t∈([25,29,39,45,62]:List Nat),Tryz.pinned.checked.prog.wantsStandIn t=false:=by
 intro t ht
 simp only[AA,LK,or_false]at ht
 rcases ht with rfl | rfl | rfl | rfl | rfl<;>exact(show Tryz.prog.wantsStandIn _=false by kernel_rfl)
end Go.Proofs.YtddfphmpfnmknaaGreatDoor.joins
set_option maxHeartbeats 4000000
namespace Go.Eng
open Go.Proofs
def yb(y:Bool)(p:Sl→Bool)(r:Rl):Bool:=if p (DL r)=true then y else r.yanked
theorem pA(y:Bool)(r:Rl)(l:List Sl):yb y (HB (l.take 0)) r=r.yanked:=by
 unfold yb;rw[Aj];simp
theorem Xf{y:Bool}{l:List Sl}{k:Nat}(h:k<l.length)(r:Rl):yb y (HB (l.take (k+1))) r=if l[k]=DL r then y else yb y (HB (l.take k)) r:=by
 unfold yb
 by_cases e:l[k]=DL r
 ·rw[Ap e,Ap (Ar (by rw[←e,DA h];exact Bg _ (Aq.2 rfl)))]
 ·rw[Aj e]
  by_cases c:DL r∈l.take k
  ·rw[Ap (Ar (by rw[DA h];exact Bn _ c)),Ap (Ar c)]
  ·rw[Aj (fun q=>by
    have q:=A5 q;rw[DA h]at q;rcases A1.1 q with q | q
    ·exact c q
    ·exact e (Aq.1 q).symm),Aj (fun q=>c (A5 q))]
theorem bJ{y:Bool}{p:Sl→Bool}{x:List Rl}{i:Nat}(h:i<x.length):yk y p (x.take (i+1))=yk y p (x.take i)++[{ x[i]with yanked:=yb y p x[i] }]:=by
 unfold yk yb;rw[DA h,Ay,List.map_singleton]
 congr 2
 split<;>rfl
theorem yZ(x:List Rl)(ifs:List (List AV))(l:List Sl)(y:Bool)(hl:Cp l)(hx:Cp x)(p6:Cp ifs)(his:∀c∈ifs,c.length=5):PC 52 [.agg (Ic x ifs),sl Ad l,vb y] (EV (yk y (HB l) x) ifs):=by
 have hl:l.length≤1073741824:=hl;have hx:x.length≤1073741824:=hx;have p6:ifs.length≤1073741824:=p6;refine Ps ⟨[3],[],[],[],[],[],[],[(8,(7,0,61,9))],[],[],[6,8,10]⟩ Tryz.func52 rfl (Nz rfl) ?_;have b1:CQ 5 ifs∧([]:List (List AV)).length=0∧(([]:List (List AV)).length+(ifs:List (List AV)).length)*112≤140737488355328∧([]:List (List AV)).length+(ifs:List (List AV)).length≤9223372036854775807:=⟨(KB his),(by first | (simp;done) | (rw[Lm];assumption)),(by simp only[AJ];omega),(by simp only[AJ];omega)⟩
 refine Yi b1 ?_;refine Yi (Nz rfl) ?_;refine Xi {q:Nat // q≤x.length} (Xi (fun q=>⟨[(1,sl Ad l),(2,vb y),(3,.ref 3 0),(6,.ref 6 0),(7,.ref 7 0),(8,vi q.1)],[(3,.ro (Ic x ifs)),(6,.cells [.v (.slice none 0 0),.v (.slice none 0 0)]),(7,.cells [.slice (.id 61 9) ((yk y (HB l) (x.take q.1)).map Ag),.slice (.id 11 5) ([]++ifs)]),(11,.tok 5 (([]:List (List AV)).length+(ifs:List (List AV)).length)),(61,.tok 9 (yk y (HB l) (x.take q.1)).length)],Aa⟩) (Xi (fun q=>x.length-q.1) (Yi (Xi ⟨0,AD _⟩ ?_) ?_)))
 ·exact⟨Z6,Z5,Fh,Tv⟩
 intro⟨i,i1⟩;have i1:i≤x.length:=i1;have i2:(yk y (HB l) (x.take i)).length≤i:=by rw[Ok,AC];omega
 refine Yi (fun h2=>?_) (fun h2=>?_)
 ·have h2:(i:Int)<((x.map Ag).length:Int):=h2;have n2:=JT h2;refine Xi (Ag x[i]) (Yi (Ns n2) (Yi rfl ?_));refine Yi (Nz rfl) ?_;refine Yi (Nz rfl) ?_;refine Xi ⟨[(1,sl Ad l),(2,vb y),(3,.ref 3 0),(6,.ref 6 0),(7,.ref 7 0),(8,vi i),(9,.ref 9 0)],[(3,.ro (Ic x ifs)),(6,.cells [.v (.slice none 0 0),.v (.slice none 0 0)]),(7,.cells [.slice (.id 61 9) ((yk y (HB l) (x.take i)).map Ag),.slice (.id 11 5) ([]++ifs)]),(9,.cells (Ag x[i])),(11,.tok 5 (([]:List (List AV)).length+(ifs:List (List AV)).length)),(61,.tok 9 (yk y (HB l) (x.take i)).length)],Aa⟩ (Yi ⟨Z7,Z6,Fh,Tv⟩ ?_)
  refine Xi {q:Nat // q≤l.length} (Xi (fun q=>⟨[(1,sl Ad l),(2,vb y),(3,.ref 3 0),(6,.ref 6 0),(7,.ref 7 0),(8,vi i),(9,.ref 9 0),(10,vi q.1)],[(3,.ro (Ic x ifs)),(6,.cells [.v (.slice none 0 0),.v (.slice none 0 0)]),(7,.cells [.slice (.id 61 9) ((yk y (HB l) (x.take i)).map Ag),.slice (.id 11 5) ([]++ifs)]),(9,.cells [vs x[i].path,vi x[i].ver.a,vi x[i].ver.b,vi x[i].ver.c,sl AF x[i].reqs,vs x[i].arch,vs x[i].ifc,vs x[i].cert,vb (yb y (HB (l.take q.1)) x[i])]),(11,.tok 5 (([]:List (List AV)).length+(ifs:List (List AV)).length)),(61,.tok 9 (yk y (HB l) (x.take i)).length)],Aa⟩) (Xi (fun q=>l.length-q.1) (Yi (Xi ⟨0,AD _⟩ ?_) ?_)))
  ·exact⟨Z8,⟨Zr,Zr,Zr,⟨(show HO.cells (Ag x[i])=.cells [vs x[i].path,vi x[i].ver.a,vi x[i].ver.b,vi x[i].ver.c,sl AF x[i].reqs,vs x[i].arch,vs x[i].ifc,vs x[i].cert,vb (yb y (HB (l.take 0)) x[i])] by rw[pA]),rfl⟩,Zr,Zr,Tv⟩,Fh,Tv⟩
  intro⟨k,k1⟩;have k1:k≤l.length:=k1;refine Yi (fun h3=>?_) (fun h3=>?_)
  ·have h3:(k:Int)<((l.map Ad).length:Int):=h3;have n3:=JT h3;refine Xi (Ad l[k]) (Yi (Ns n3) (Yi rfl ?_));refine Yi (fun h4=>?_) (fun h4=>?_)
   ·have h4:(l[k].path:ByteArray)=x[i].path:=h4;refine Xi (Ad l[k]) (Yi (Ns n3) (Yi rfl ?_));refine Yi (Nz rfl) ?_;refine Yi (Nz rfl) ?_;refine Yi (fun h5=>?_) (fun h5=>?_)
    ·have h5:(l[k].ver.a:Int)=x[i].ver.a∧(l[k].ver.b:Int)=x[i].ver.b∧(l[k].ver.c:Int)=x[i].ver.c∧True:=h5;refine Yi (by kernel_rfl) ?_;refine Xi ⟨[(1,sl Ad l),(2,vb y),(3,.ref 3 0),(6,.ref 6 0),(7,.ref 7 0),(8,vi i),(9,.ref 9 0),(10,vi k)],[(3,.ro (Ic x ifs)),(6,.cells [.v (.slice none 0 0),.v (.slice none 0 0)]),(7,.cells [.slice (.id 61 9) ((yk y (HB l) (x.take i)).map Ag),.slice (.id 11 5) ([]++ifs)]),(9,.cells [vs x[i].path,vi x[i].ver.a,vi x[i].ver.b,vi x[i].ver.c,sl AF x[i].reqs,vs x[i].arch,vs x[i].ifc,vs x[i].cert,vb (yb y (HB (l.take k)) x[i])]),(11,.tok 5 (([]:List (List AV)).length+(ifs:List (List AV)).length)),(61,.tok 9 (yk y (HB l) (x.take i)).length)],Aa⟩ (Yi ⟨Z8,Z6,Fh,Tv⟩ ?_)
     refine Yi (Nz rfl) ?_;refine Xi ⟨[(1,sl Ad l),(2,vb y),(3,.ref 3 0),(6,.ref 6 0),(7,.ref 7 0),(8,vi i),(9,.ref 9 0),(10,vi k)],[(3,.ro (Ic x ifs)),(6,.cells [.v (.slice none 0 0),.v (.slice none 0 0)]),(7,.cells [.slice (.id 61 9) ((yk y (HB l) (x.take i)).map Ag),.slice (.id 11 5) ([]++ifs)]),(9,.cells [vs x[i].path,vi x[i].ver.a,vi x[i].ver.b,vi x[i].ver.c,sl AF x[i].reqs,vs x[i].arch,vs x[i].ifc,vs x[i].cert,vb y]),(11,.tok 5 (([]:List (List AV)).length+(ifs:List (List AV)).length)),(61,.tok 9 (yk y (HB l) (x.take i)).length)],Aa⟩ (Yi ⟨Z8,Z6,Fh,Tv⟩ ?_)
     refine Yi (Ii k (by omega)) ?_;have ny:=Xf (y:=y) n3 x[i];rw[Ap (YV (a:=l[k]) (b:=DL x[i]) ⟨h4,h5⟩)]at ny;refine Xi ⟨k+1,n3⟩ ?_;exact⟨Dl l.length k (by omega),Z8,⟨Zr,Zr,Zr,⟨(show HO.cells [vs x[i].path,vi x[i].ver.a,vi x[i].ver.b,vi x[i].ver.c,sl AF x[i].reqs,vs x[i].arch,vs x[i].ifc,vs x[i].cert,vb y]=.cells [vs x[i].path,vi x[i].ver.a,vi x[i].ver.b,vi x[i].ver.c,sl AF x[i].reqs,vs x[i].arch,vs x[i].ifc,vs x[i].cert,vb (yb y (HB (l.take (k+1))) x[i])] by rw[ny]),rfl⟩,Zr,Zr,Tv⟩,Fh,Tv⟩
    have h5:¬((l[k].ver.a:Int)=x[i].ver.a∧(l[k].ver.b:Int)=x[i].ver.b∧(l[k].ver.c:Int)=x[i].ver.c∧True):=h5;refine Yi (by kernel_rfl) ?_;refine Xi ⟨[(1,sl Ad l),(2,vb y),(3,.ref 3 0),(6,.ref 6 0),(7,.ref 7 0),(8,vi i),(9,.ref 9 0),(10,vi k)],[(3,.ro (Ic x ifs)),(6,.cells [.v (.slice none 0 0),.v (.slice none 0 0)]),(7,.cells [.slice (.id 61 9) ((yk y (HB l) (x.take i)).map Ag),.slice (.id 11 5) ([]++ifs)]),(9,.cells [vs x[i].path,vi x[i].ver.a,vi x[i].ver.b,vi x[i].ver.c,sl AF x[i].reqs,vs x[i].arch,vs x[i].ifc,vs x[i].cert,vb (yb y (HB (l.take k)) x[i])]),(11,.tok 5 (([]:List (List AV)).length+(ifs:List (List AV)).length)),(61,.tok 9 (yk y (HB l) (x.take i)).length)],Aa⟩ (Yi ⟨Z8,Z6,Fh,Tv⟩ ?_)
    refine Yi (Ii k (by omega)) ?_;have ny:=Xf (y:=y) n3 x[i];rw[Aj (fun q=>h5 (by rw[q];exact⟨rfl,rfl,rfl,trivial⟩))]at ny;refine Xi ⟨k+1,n3⟩ ?_;exact⟨Dl l.length k (by omega),Z8,⟨Zr,Zr,Zr,⟨(show HO.cells [vs x[i].path,vi x[i].ver.a,vi x[i].ver.b,vi x[i].ver.c,sl AF x[i].reqs,vs x[i].arch,vs x[i].ifc,vs x[i].cert,vb (yb y (HB (l.take k)) x[i])]=.cells [vs x[i].path,vi x[i].ver.a,vi x[i].ver.b,vi x[i].ver.c,sl AF x[i].reqs,vs x[i].arch,vs x[i].ifc,vs x[i].cert,vb (yb y (HB (l.take (k+1))) x[i])] by rw[ny]),rfl⟩,Zr,Zr,Tv⟩,Fh,Tv⟩
   have h4:¬(l[k].path:ByteArray)=x[i].path:=h4;refine Yi (by kernel_rfl) ?_;refine Xi ⟨[(1,sl Ad l),(2,vb y),(3,.ref 3 0),(6,.ref 6 0),(7,.ref 7 0),(8,vi i),(9,.ref 9 0),(10,vi k)],[(3,.ro (Ic x ifs)),(6,.cells [.v (.slice none 0 0),.v (.slice none 0 0)]),(7,.cells [.slice (.id 61 9) ((yk y (HB l) (x.take i)).map Ag),.slice (.id 11 5) ([]++ifs)]),(9,.cells [vs x[i].path,vi x[i].ver.a,vi x[i].ver.b,vi x[i].ver.c,sl AF x[i].reqs,vs x[i].arch,vs x[i].ifc,vs x[i].cert,vb (yb y (HB (l.take k)) x[i])]),(11,.tok 5 (([]:List (List AV)).length+(ifs:List (List AV)).length)),(61,.tok 9 (yk y (HB l) (x.take i)).length)],Aa⟩ (Yi ⟨Z8,Z6,Fh,Tv⟩ ?_)
   refine Yi (Ii k (by omega)) ?_;have ny:=Xf (y:=y) n3 x[i];rw[Aj (fun q=>h4 (Ac Sl.path q))]at ny;refine Xi ⟨k+1,n3⟩ ?_;exact⟨Dl l.length k (by omega),Z8,⟨Zr,Zr,Zr,⟨(show HO.cells [vs x[i].path,vi x[i].ver.a,vi x[i].ver.b,vi x[i].ver.c,sl AF x[i].reqs,vs x[i].arch,vs x[i].ifc,vs x[i].cert,vb (yb y (HB (l.take k)) x[i])]=.cells [vs x[i].path,vi x[i].ver.a,vi x[i].ver.b,vi x[i].ver.c,sl AF x[i].reqs,vs x[i].arch,vs x[i].ifc,vs x[i].cert,vb (yb y (HB (l.take (k+1))) x[i])] by rw[ny]),rfl⟩,Zr,Zr,Tv⟩,Fh,Tv⟩
  have h3:¬((k:Int)<((l.map Ad).length:Int)):=h3;have n3:=JS h3;refine Yi (Nz rfl) ?_;refine Yi (Zi rfl (by omega) (by decide)) ?_;refine Yi (Nz rfl) ?_;refine Yi (Ii i (by omega)) ?_;have ek:l.take k=l:=Aw (by omega);refine Xi ⟨i+1,n2⟩ ?_;exact⟨Dl x.length i (by omega),Z6,⟨Zr,Zr,⟨(show HO.cells [AV.slice (.id 61 9) ((yk y (HB l) (x.take i)).map Ag++[[vs x[i].path,vi x[i].ver.a,vi x[i].ver.b,vi x[i].ver.c,sl AF x[i].reqs,vs x[i].arch,vs x[i].ifc,vs x[i].cert,vb (yb y (HB (l.take k)) x[i])]]),AV.slice (.id 11 5) (([]:List (List AV))++ifs)]=.cells [.slice (.id 61 9) ((yk y (HB l) (x.take (i+1))).map Ag),.slice (.id 11 5) (([]:List (List AV))++ifs)] by rw[bJ n2,Ay,ek];rfl),rfl⟩,Zr,⟨(show HO.tok 9 (((yk y (HB l) (x.take i)).map Ag).length+([[vs x[i].path,vi x[i].ver.a,vi x[i].ver.b,vi x[i].ver.c,sl AF x[i].reqs,vs x[i].arch,vs x[i].ifc,vs x[i].cert,vb (yb y (HB (l.take k)) x[i])]]:List (List AV)).length)=.tok 9 (yk y (HB l) (x.take (i+1))).length by rw[bJ n2,Ae,Lm];rfl),rfl⟩,Tv⟩,Fh,Tv⟩
 have h2:¬((i:Int)<((x.map Ag).length:Int)):=h2;have n2:=JS h2;refine Yi (Nz rfl) ?_;refine Yi (Nz rfl) ?_;refine Yi (Nz rfl) ?_;have ei:x.take i=x:=Aw (by omega);exact .of_eq (show AV.agg [sl Ag (yk y (HB l) (x.take i)),.slice .none (([]:List (List AV))++ifs)]=EV (yk y (HB l) x) ifs by rw[ei];rfl)
theorem tN(x:List Rl)(ifs:List (List AV))(s:Sl)(hk:PC 47 [EV x ifs] (vi (AQ x)))(hf:∀z:Sl,PC 49 [EV x ifs,vs z.path,.agg (Ea z.ver)] (J9 (CK x z)))(mq:PC 52 [EV x ifs,sl Ad [s],vb true] (EV (yk true (Jb s) x) ifs)):PC 45 [.agg (Ic x ifs),.agg (Ad s),vb true] (H4 x ifs s true):=by
 refine Ps ⟨[3,4,8],[],[],[],[],[],[],[],[],[],[4,8]⟩ Tryz.func45 rfl (Nz rfl) ?_;refine Yi (Nz rfl) ?_;refine Xi .pure (Xi _ (Yi hk ?_));refine Yi (fun h1=>?_) (fun h1=>?_)
 ·have h1:((AQ x):Int)≠(0:Int):=h1;refine Yi (Nz rfl) ?_;refine Yi (Nz rfl) ?_;exact Gd (Ap h1) (by decide)
 have h1:((AQ x):Int)=(0:Int):=AN h1;refine Yi (Nz rfl) ?_;refine Yi (Nz rfl) ?_;refine BT (MZ (CK x s)) (fun h3=>?_) (fun h3=>?_)
 ·refine Br h3 (fun r h3=>?_);have Vl:=(hf s);rw[h3]at Vl;refine Xi .pure (Xi _ (Yi Vl ?_));refine Yi (Nz rfl) ?_;refine Xi ⟨[(2,vb true),(3,.ref 3 0),(4,.ref 4 0),(6,.ref 6 0),(8,.ref 8 0),(9,vb true)],[(3,.ro (Ic x ifs)),(4,.ro (Ad s)),(6,.cells [.v (.slice none 0 0),.v (.slice none 0 0)]),(8,.ro (Ag r))],Aa⟩ (Yi ⟨Z6,Z4,Fh,Tv⟩ ?_)
  refine Yi (fun h4=>?_) (fun h4=>?_)
  ·have h4:r.yanked=true:=h4;refine Yi (Nz rfl) ?_;refine Yi (Nz rfl) ?_;have e0:DZ x s true=(match CK x s with | none=>6 | some r=>if r.yanked=true then 8 else 0):=Aj (fun q=>q h1);rw[h3]at e0;exact Gd (e0.trans (Ap (by rw[h4]))) (by decide)
  have h4:r.yanked=false:=h4;refine Xi ⟨[(2,vb true),(3,.ref 3 0),(4,.ref 4 0),(6,.ref 6 0)],[(3,.ro (Ic x ifs)),(4,.ro (Ad s)),(6,.cells [.v (.slice none 0 0),.v (.slice none 0 0)])],Aa⟩ (Yi ⟨Z4,Z3,Fh,Tv⟩ ?_)
  refine Yi (Nz rfl) ?_;refine Yi (Nz rfl) ?_;refine Xi .pure (Xi _ (Yi mq ?_));refine Yi (Nz rfl) ?_;refine Yi (Nz rfl) ?_;have e0:DZ x s true=(match CK x s with | none=>6 | some r=>if r.yanked=true then 8 else 0):=Aj (fun q=>q h1);rw[h3]at e0;exact .of_eq (PA (e0.trans (Aj (by rw[h4];decide)))).symm
 have Vl:=(hf s);rw[h3]at Vl;refine Xi .pure (Xi _ (Yi Vl ?_));refine Yi (Nz rfl) ?_;refine Xi ⟨[(2,vb true),(3,.ref 3 0),(4,.ref 4 0),(6,.ref 6 0),(8,.ref 8 0),(9,vb false)],[(3,.ro (Ic x ifs)),(4,.ro (Ad s)),(6,.cells [.v (.slice none 0 0),.v (.slice none 0 0)]),(8,.ro [vs ⟨#[]⟩,vi 0,vi 0,vi 0,.v (.slice none 0 0),vs ⟨#[]⟩,vs ⟨#[]⟩,vs ⟨#[]⟩,vb false])],Aa⟩ (Yi ⟨Z6,Z4,Fh,Tv⟩ ?_)
 refine Yi (Nz rfl) ?_;refine Yi (Nz rfl) ?_;have e0:DZ x s true=(match CK x s with | none=>6 | some r=>if r.yanked=true then 8 else 0):=Aj (fun q=>q h1);rw[h3]at e0;exact Gd e0 (by decide)
theorem tM(x:List Rl)(ifs:List (List AV))(s:Sl)(hk:PC 47 [EV x ifs] (vi (AQ x)))(hf:∀z:Sl,PC 49 [EV x ifs,vs z.path,.agg (Ea z.ver)] (J9 (CK x z)))(mq:PC 52 [EV x ifs,sl Ad [s],vb false] (EV (yk false (Jb s) x) ifs)):PC 45 [.agg (Ic x ifs),.agg (Ad s),vb false] (H4 x ifs s false):=by
 refine Ps ⟨[3,4,8],[],[],[],[],[],[],[],[],[],[4,8]⟩ Tryz.func45 rfl (Nz rfl) ?_;refine Yi (Nz rfl) ?_;refine Xi .pure (Xi _ (Yi hk ?_));refine Yi (fun h1=>?_) (fun h1=>?_)
 ·have h1:((AQ x):Int)≠(0:Int):=h1;refine Yi (Nz rfl) ?_;refine Yi (Nz rfl) ?_;exact Gd (Ap h1) (by decide)
 have h1:((AQ x):Int)=(0:Int):=AN h1;refine Yi (Nz rfl) ?_;refine Yi (Nz rfl) ?_;refine BT (MZ (CK x s)) (fun h3=>?_) (fun h3=>?_)
 ·refine Br h3 (fun r h3=>?_);have Vl:=(hf s);rw[h3]at Vl;refine Xi .pure (Xi _ (Yi Vl ?_));refine Yi (Nz rfl) ?_;refine Xi ⟨[(2,vb false),(3,.ref 3 0),(4,.ref 4 0),(6,.ref 6 0),(8,.ref 8 0),(9,vb true)],[(3,.ro (Ic x ifs)),(4,.ro (Ad s)),(6,.cells [.v (.slice none 0 0),.v (.slice none 0 0)]),(8,.ro (Ag r))],Aa⟩ (Yi ⟨Z6,Z4,Fh,Tv⟩ ?_)
  refine Yi (fun h4=>?_) (fun h4=>?_)
  ·have h4:r.yanked=true:=h4;refine Xi ⟨[(2,vb false),(3,.ref 3 0),(4,.ref 4 0),(6,.ref 6 0)],[(3,.ro (Ic x ifs)),(4,.ro (Ad s)),(6,.cells [.v (.slice none 0 0),.v (.slice none 0 0)])],Aa⟩ (Yi ⟨Z4,Z3,Fh,Tv⟩ ?_)
   refine Yi (Nz rfl) ?_;refine Yi (Nz rfl) ?_;refine Xi .pure (Xi _ (Yi mq ?_));refine Yi (Nz rfl) ?_;refine Yi (Nz rfl) ?_;have e0:DZ x s false=(match CK x s with | none=>6 | some r=>if r.yanked=false then 8 else 0):=Aj (fun q=>q h1);rw[h3]at e0;exact .of_eq (PA (e0.trans (Aj (by rw[h4];decide)))).symm
  have h4:r.yanked=false:=h4;refine Yi (Nz rfl) ?_;refine Yi (Nz rfl) ?_;have e0:DZ x s false=(match CK x s with | none=>6 | some r=>if r.yanked=false then 8 else 0):=Aj (fun q=>q h1);rw[h3]at e0;exact Gd (e0.trans (Ap (by rw[h4]))) (by decide)
 have Vl:=(hf s);rw[h3]at Vl;refine Xi .pure (Xi _ (Yi Vl ?_));refine Yi (Nz rfl) ?_;refine Xi ⟨[(2,vb false),(3,.ref 3 0),(4,.ref 4 0),(6,.ref 6 0),(8,.ref 8 0),(9,vb false)],[(3,.ro (Ic x ifs)),(4,.ro (Ad s)),(6,.cells [.v (.slice none 0 0),.v (.slice none 0 0)]),(8,.ro [vs ⟨#[]⟩,vi 0,vi 0,vi 0,.v (.slice none 0 0),vs ⟨#[]⟩,vs ⟨#[]⟩,vs ⟨#[]⟩,vb false])],Aa⟩ (Yi ⟨Z6,Z4,Fh,Tv⟩ ?_)
 refine Yi (Nz rfl) ?_;refine Yi (Nz rfl) ?_;have e0:DZ x s false=(match CK x s with | none=>6 | some r=>if r.yanked=false then 8 else 0):=Aj (fun q=>q h1);rw[h3]at e0;exact Gd e0 (by decide)
theorem yV(x:List Rl)(ifs:List (List AV))(s:Sl)(wj:PC 45 [EV x ifs,.agg (Ad s),vb true] (H4 x ifs s true)):PC 20 [.agg (Ic x ifs),.agg (Ad s)] (H4 x ifs s true):=by
 refine Ps ⟨[2,3],[],[],[],[],[],[],[],[],[],[]⟩ Tryz.func20 rfl (Nz rfl) ?_;refine Yi (Nz rfl) ?_;refine Yi (Nz rfl) ?_;refine Xi .pure (Xi _ (Yi wj ?_));refine Yi (Nz rfl) ?_;refine Yi (Nz rfl) ?_;exact .refl _
theorem yW(x:List Rl)(ifs:List (List AV))(s:Sl)(wj:PC 45 [EV x ifs,.agg (Ad s),vb false] (H4 x ifs s false)):PC 21 [.agg (Ic x ifs),.agg (Ad s)] (H4 x ifs s false):=by
 refine Ps ⟨[2,3],[],[],[],[],[],[],[],[],[],[]⟩ Tryz.func21 rfl (Nz rfl) ?_;refine Yi (Nz rfl) ?_;refine Yi (Nz rfl) ?_;refine Xi .pure (Xi _ (Yi wj ?_));refine Yi (Nz rfl) ?_;refine Yi (Nz rfl) ?_;exact .refl _
theorem yX(x:List Rl)(ifs:List (List AV))(l:List Sl)(hl:Cp l)(hk:PC 47 [EV x ifs] (vi (AQ x)))(hi:PC 48 [sl Ad l] (vb (CO l)))(hf:∀z:Sl,PC 49 [EV x ifs,vs z.path,.agg (Ea z.ver)] (J9 (CK x z))):PC 23 [.agg (Ic x ifs),sl Ad l] (.tup [sl Ad (Hx x l),vi (EU x l)]):=by
 have hl:l.length≤1073741824:=hl;refine Ps ⟨[2],[],[],[],[],[],[],[],[],[],[3,6,8]⟩ Tryz.func23 rfl (Nz rfl) ?_;refine Yi (Nz rfl) ?_;refine Xi .pure (Xi _ (Yi hk ?_));refine Yi (fun h1=>?_) (fun h1=>?_)
 ·have h1:((AQ x):Int)≠(0:Int):=h1;exact(show G1 (.tup [.v (.slice none 0 0),vi 1]) (.tup [.slice .none [],vi 1])from .tup ⟨.nil,.refl _,trivial⟩).trans (.of_eq (QN (Qx h1)).symm)
 have h1:((AQ x):Int)=(0:Int):=AN h1;refine BT (Bt (CO l)) (fun h3=>?_) (fun h3=>?_)
 ·have h3:(CO l)=true:=h3;refine Xi .pure (Xi _ (Yi (cb h3 hi) ?_));refine Xi ⟨[(1,sl Ad l),(2,.ref 2 0)],[(2,.ro (Ic x ifs))],Aa⟩ (Yi ⟨Z2,Z1,Fh,Tv⟩ ?_)
  refine Xi {q:Nat // q≤l.length} (Xi (fun q=>⟨[(1,sl Ad l),(2,.ref 2 0),(6,.slice (.id 18 4) (((l.take q.1).filter (Ct x)).map Ad)),(7,vi q.1)],[(2,.ro (Ic x ifs)),(18,.tok 4 ((l.take q.1).filter (Ct x)).length)],Aa⟩) (Xi (fun q=>l.length-q.1) (Yi (Xi ⟨0,AD _⟩ ?_) ?_)))
  ·exact⟨Z4,Z2,Fh,Tv⟩
  intro⟨i,i1⟩;have i1:i≤l.length:=i1;have i2:((l.take i).filter (Ct x)).length≤i:=Bx (Bv ..) (by rw[AC];omega);refine Yi (fun h4=>?_) (fun h4=>?_)
  ·have h4:(i:Int)<((l.map Ad).length:Int):=h4;have n4:=JT h4;refine Yi (Nz rfl) ?_;refine Xi (Ad l[i]) (Yi (Ns n4) (Yi rfl ?_));refine Xi (Ad l[i]) (Yi (Ns n4) (Yi rfl ?_));refine Yi (Nz rfl) ?_;refine BT (MZ (CK x l[i])) (fun h5=>?_) (fun h5=>?_)
   ·refine Br h5 (fun r h5=>?_);have mv:=(hf l[i]);rw[h5]at mv;refine Xi _ (Yi mv ?_);refine Yi (Nz rfl) ?_;refine Yi (by kernel_rfl) ?_;refine Xi ⟨[(1,sl Ad l),(2,.ref 2 0),(6,.slice (.id 18 4) (((l.take i).filter (Ct x)).map Ad)),(7,vi i),(8,.ref 8 0),(9,vb true)],[(2,.ro (Ic x ifs)),(8,.cells (Ag r)),(18,.tok 4 ((l.take i).filter (Ct x)).length)],Aa⟩ (Yi ⟨Z6,Z3,Fh,Tv⟩ ?_)
    refine Yi (fun h6=>?_) (fun h6=>?_)
    ·have h6:r.yanked=true:=h6;refine Xi (Ad l[i]) (Yi (Ns n4) (Yi rfl ?_));refine Yi (Nz rfl) ?_;refine Yi (Zi rfl (by omega) (by decide)) ?_;refine Xi ⟨[(1,sl Ad l),(2,.ref 2 0),(6,.slice (.id 18 4) ((((l.take i).filter (Ct x)).map Ad)++[(Ad l[i])])),(7,vi i)],[(2,.ro (Ic x ifs)),(18,.tok 4 ((((l.take i).filter (Ct x)).map Ad).length+([(Ad l[i])]:List (List AV)).length))],Aa⟩ (Yi ⟨Z4,Z2,Fh,Tv⟩ ?_)
     refine Yi (Ii i (by omega)) ?_;have ni:=n4;have hy:Ct x l[i]=true:=by unfold Ct;rw[h5];exact h6
     refine Xi ⟨i+1,ni⟩ ?_;exact⟨Dl l.length i (by omega),⟨Zr,Zr,⟨(show AV.slice (.id 18 4) (((l.take i).filter (Ct x)).map Ad++[Ad l[i]])=.slice (.id 18 4) (((l.take (i+1)).filter (Ct x)).map Ad) by rw[DA ni,Cf,Ch,Ap hy,Gw,Ay];rfl),rfl⟩,Zr,Tv⟩,⟨Zr,⟨(show HO.tok 4 ((((l.take i).filter (Ct x)).map Ad).length+([Ad l[i]]:List (List AV)).length)=.tok 4 ((l.take (i+1)).filter (Ct x)).length by rw[DA ni,Cf,Ch,Ap hy,Gw,Ae,Lm];rfl),rfl⟩,Tv⟩,Fh,Tv⟩
    have h6:r.yanked=false:=h6;refine Xi ⟨[(1,sl Ad l),(2,.ref 2 0),(6,.slice (.id 18 4) (((l.take i).filter (Ct x)).map Ad)),(7,vi i)],[(2,.ro (Ic x ifs)),(18,.tok 4 ((l.take i).filter (Ct x)).length)],Aa⟩ (Yi ⟨Z4,Z2,Fh,Tv⟩ ?_)
    refine Yi (Ii i (by omega)) ?_;have ni:=n4;have hy:Ct x l[i]=false:=by unfold Ct;rw[h5];exact h6
    have ef:(l.take (i+1)).filter (Ct x)=(l.take i).filter (Ct x):=by rw[DA ni,Cf,Ch,Aj (by rw[hy];decide),Gw,BN]
    refine Xi ⟨i+1,ni⟩ ?_;exact⟨Dl l.length i (by omega),⟨Zr,Zr,⟨(show AV.slice (.id 18 4) (((l.take i).filter (Ct x)).map Ad)=.slice (.id 18 4) (((l.take (i+1)).filter (Ct x)).map Ad) by rw[ef]),rfl⟩,Zr,Tv⟩,⟨Zr,⟨(show HO.tok 4 ((l.take i).filter (Ct x)).length=.tok 4 ((l.take (i+1)).filter (Ct x)).length by rw[ef]),rfl⟩,Tv⟩,Fh,Tv⟩
   have mv:=(hf l[i]);rw[h5]at mv;refine Xi _ (Yi mv ?_);refine Yi (Nz rfl) ?_;refine Yi (by kernel_rfl) ?_;refine Xi ⟨[(1,sl Ad l),(2,.ref 2 0),(6,.slice (.id 18 4) (((l.take i).filter (Ct x)).map Ad)),(7,vi i),(8,.ref 8 0),(9,vb false)],[(2,.ro (Ic x ifs)),(8,.cells [vs ⟨#[]⟩,vi 0,vi 0,vi 0,.v (.slice none 0 0),vs ⟨#[]⟩,vs ⟨#[]⟩,vs ⟨#[]⟩,vb false]),(18,.tok 4 ((l.take i).filter (Ct x)).length)],Aa⟩ (Yi ⟨Z6,Z3,Fh,Tv⟩ ?_)
   refine Xi ⟨[(1,sl Ad l),(2,.ref 2 0),(6,.slice (.id 18 4) (((l.take i).filter (Ct x)).map Ad)),(7,vi i)],[(2,.ro (Ic x ifs)),(18,.tok 4 ((l.take i).filter (Ct x)).length)],Aa⟩ (Yi ⟨Z4,Z2,Fh,Tv⟩ ?_)
   refine Yi (Ii i (by omega)) ?_;have ni:=n4;have hy:Ct x l[i]=false:=by unfold Ct;rw[h5]
   have ef:(l.take (i+1)).filter (Ct x)=(l.take i).filter (Ct x):=by rw[DA ni,Cf,Ch,Aj (by rw[hy];decide),Gw,BN]
   refine Xi ⟨i+1,ni⟩ ?_;exact⟨Dl l.length i (by omega),⟨Zr,Zr,⟨(show AV.slice (.id 18 4) (((l.take i).filter (Ct x)).map Ad)=.slice (.id 18 4) (((l.take (i+1)).filter (Ct x)).map Ad) by rw[ef]),rfl⟩,Zr,Tv⟩,⟨Zr,⟨(show HO.tok 4 ((l.take i).filter (Ct x)).length=.tok 4 ((l.take (i+1)).filter (Ct x)).length by rw[ef]),rfl⟩,Tv⟩,Fh,Tv⟩
  have h4:¬((i:Int)<((l.map Ad).length:Int)):=h4;have n4:=JS h4;have el:l.take i=l:=Aw (by omega);exact .of_eq (show AV.tup [sl Ad ((l.take i).filter (Ct x)),vi 0]=.tup [sl Ad (Hx x l),vi (EU x l)] by rw[el,Y1 (Qy h1 h3)])
 have h3:(CO l)=false:=h3;refine Xi .pure (Xi _ (Yi (cb h3 hi) ?_));exact(show G1 (.tup [.v (.slice none 0 0),vi 1]) (.tup [.slice .none [],vi 1])from .tup ⟨.nil,.refl _,trivial⟩).trans (.of_eq (QN (Ao (fun q=>by have z:=(Mi q).2;rw[h3]at z;cases z))).symm)
theorem yY(x:List Rl)(ifs:List (List AV))(l:List Sl)(hk:PC 47 [EV x ifs] (vi (AQ x)))(hi:PC 48 [sl Ad l] (vb (CO l)))(mq:PC 52 [EV x ifs,sl Ad l,vb false] (EV (yk false (HB l) x) ifs)):PC 25 [.agg (Ic x ifs),sl Ad l] (Mj x ifs l):=by
 refine Ps ⟨[2],[],[],[],[],[],[],[],[],[],[3]⟩ Tryz.func25 rfl (Nz rfl) ?_;refine Yi (Nz rfl) ?_;refine Xi .pure (Xi _ (Yi hk ?_));refine Yi (fun h1=>?_) (fun h1=>?_)
 ·have h1:((AQ x):Int)≠(0:Int):=h1;refine Yi (Nz rfl) ?_;refine Yi (Nz rfl) ?_;exact Qg (Qx h1)
 have h1:((AQ x):Int)=(0:Int):=AN h1;refine BT (Bt (CO l)) (fun h3=>?_) (fun h3=>?_)
 ·have h3:(CO l)=true:=h3;refine Xi .pure (Xi _ (Yi (cb h3 hi) ?_));refine Xi ⟨[(1,sl Ad l),(2,.ref 2 0),(4,.ref 4 0)],[(2,.ro (Ic x ifs)),(4,.cells [.v (.slice none 0 0),.v (.slice none 0 0)])],Aa⟩ (Yi ⟨Z3,Z2,Fh,Tv⟩ ?_)
  refine Yi (Nz rfl) ?_;refine Xi .pure (Xi _ (Yi mq ?_));refine Yi (Nz rfl) ?_;refine Yi (Nz rfl) ?_;exact .of_eq (Ym (Qy h1 h3)).symm
 have h3:(CO l)=false:=h3;refine Xi .pure (Xi _ (Yi (cb h3 hi) ?_));refine Yi (Nz rfl) ?_;refine Yi (Nz rfl) ?_;exact Qg (Ao (fun q=>by have z:=(Mi q).2;rw[h3]at z;cases z))
theorem yP(a b:List Sl)(ha:Cp a):PC 19 [sl Ad a,sl Ad b] (vb (decide (a=b))):=by
 have rl:a.length≤1073741824:=ha;refine Ps ⟨[],[],[],[],[],[],[],[],[],[],[7,8]⟩ Tryz.func19 rfl (Nz rfl) ?_;refine Yi (fun h1=>?_) (fun h1=>?_)
 ·have h1:((a.map Ad).length:Int)≠((b.map Ad).length:Int):=h1;exact .of_eq (show vb false=vb (decide (a=b)) by rw[Ao (fun e=>absurd (Ac (fun z=>((z.map Ad).length:Int)) e) h1)])
 have h1:((a.map Ad).length:Int)=((b.map Ad).length:Int):=AN h1;have hl:a.length=b.length:=by have q:=h1;rw[Lm,Lm]at q;omega
 refine Xi {q:Nat // q≤a.length∧∀j (hj:j<a.length),j<q→a[j]=b[j]'(hl▸hj)} (Xi (fun q=>⟨[(0,sl Ad a),(1,sl Ad b),(12,vi (a.map Ad).length),(13,vi q.1)],[],Aa⟩) (Xi (fun q=>a.length-q.1) (Yi (Xi ⟨0,AD _,fun _ _ h=>absurd h (Gx _)⟩ ?_) ?_)))
 ·exact⟨Z4,Tv,Fh,Tv⟩
 intro⟨i,i1,i2⟩;have i1:i≤a.length:=i1;have i2:∀j (hj:j<a.length),j<i→a[j]=b[j]'(hl▸hj):=i2;refine Yi (fun h3=>?_) (fun h3=>?_)
 ·have h3:(i:Int)<((a.map Ad).length:Int):=h3;have n3:=JT h3;have cD:i<b.length:=by have q:=h3;rw[Lm]at q;omega
  refine Xi (Ad a[i]) (Yi (Ns n3) (Yi rfl ?_));refine Yi (Nz rfl) ?_;refine Xi (Ad b[i]) (Yi (Ns cD) (Yi rfl ?_));refine Yi (Nz rfl) ?_;refine Yi (fun h4=>?_) (fun h4=>?_)
  ·have h4:(a[i].path:ByteArray)=b[i].path∧(a[i].ver.a:Int)=b[i].ver.a∧(a[i].ver.b:Int)=b[i].ver.b∧(a[i].ver.c:Int)=b[i].ver.c∧True:=h4;refine Yi (by kernel_rfl) ?_;refine Xi ⟨[(0,sl Ad a),(1,sl Ad b),(12,vi (a.map Ad).length),(13,vi i)],[],Aa⟩ (Yi ⟨Z4,Tv,Fh,Tv⟩ ?_)
   refine Yi (Ii i (by omega)) ?_;refine Xi ⟨i+1,n3,fun j hj Je=>if e:j<i then i2 j hj e else by
     have e:j=i:=by omega
     subst e;exact YV h4⟩ ?_
   exact⟨Dl a.length i (by omega),Z4,Tv,Fh,Tv⟩
  have h4:¬((a[i].path:ByteArray)=b[i].path∧(a[i].ver.a:Int)=b[i].ver.a∧(a[i].ver.b:Int)=b[i].ver.b∧(a[i].ver.c:Int)=b[i].ver.c∧True):=h4;refine Yi (by kernel_rfl) ?_;refine Xi ⟨[],[],Aa⟩ (Yi ⟨Tv,Tv,Fh,Tv⟩ ?_)
  exact .of_eq (show vb false=vb (decide (a=b)) by rw[Ao (Xw (i:=i) (ha:=n3) (hb:=cD) (mS h4))])
 have h3:¬((i:Int)<((a.map Ad).length:Int)):=h3;have n3:=JS h3;exact .of_eq (show vb true=vb (decide (a=b)) by rw[Ar (Se hl fun j hj=>i2 j hj (by have q:=h3;rw[Lm]at q;omega))])
theorem sC(x:List Rl)(ifs:List (List AV))(s:Sl)(l:List Sl)(hl:Cp l)(sm:Bool)(NR:PC 10 [EV x ifs,.v (.slice none 0 0)] (vb sm))(M8:sm=true→PC 11 [EV x ifs,.agg (Ad s)] (H4 x ifs s true))(nX:sm=true→PC 20 [EV x ifs,.agg (Ad s)] (H4 x ifs s true))(Xj:sm=true→PC 12 [EV x ifs,.agg (Ad s)] (H4 x ifs s false))(gm:sm=true→PC 21 [EV x ifs,.agg (Ad s)] (H4 x ifs s false))(ZB:sm=true→∀z:List Rl,z=Fw x s true∨z=Fw x s false∨z=Rm x l→PC 13 [sl Ag z,sl Ag z] (vb true))(tZ:sm=true→PC 22 [EV x ifs,sl Ad l] (.tup [sl Ad (Hx x l),vi (EU x l)]))(h23:sm=true→PC 23 [EV x ifs,sl Ad l] (.tup [sl Ad (Hx x l),vi (EU x l)]))(nY:sm=true→PC 24 [EV x ifs,sl Ad l] (Mj x ifs l))(nZ:sm=true→PC 25 [EV x ifs,sl Ad l] (Mj x ifs l))(hF:Cp (Hx x l)):PC 6 [.agg (Ic x ifs),.agg (Ad s),sl Ad l] (vb true):=by
 have hl:l.length≤1073741824:=hl;refine Ps ⟨[3,4,11,13],[],[],[],[],[],[],[],[],[],[4,5,7,9,10,11,13,15]⟩ Tryz.func6 rfl (Nz rfl) ?_;refine Xi .pure (Xi _ (Yi yk9 ?_));refine Yi (Nz rfl) ?_;refine BT (Bt sm) (fun h1=>?_) (fun h1=>?_)
 ·have h1:sm=true:=h1;refine Xi .pure (Xi _ (Yi (cb h1 NR) ?_));refine Yi (fun h2=>?_) (fun h2=>?_)
  ·have h2:(100:Int)<(s.path.size:Int):=h2;refine Xi ⟨[],[],Aa⟩ (Yi ⟨Tv,Tv,Fh,Tv⟩ ?_)
   exact .refl _
  have h2:¬((100:Int)<(s.path.size:Int)):=h2;refine Yi (fun h4=>?_) (fun h4=>?_)
  ·have h4:(20:Int)<((l.map Ad).length:Int):=h4;have n4:20<l.length:=by have q:=h4;rw[Lm]at q;omega
   refine Xi ⟨[],[],Aa⟩ (Yi ⟨Tv,Tv,Fh,Tv⟩ ?_)
   exact .refl _
  have h4:¬((20:Int)<((l.map Ad).length:Int)):=h4;have n4:¬20<l.length:=by have q:=h4;rw[Lm]at q;omega
  refine Xi ⟨[(2,sl Ad l),(3,.ref 3 0),(4,.ref 4 0)],[(3,.ro (Ic x ifs)),(4,.ro (Ad s))],Aa⟩ (Yi ⟨Z3,Z2,Fh,Tv⟩ ?_)
  refine Yi (Nz rfl) ?_;refine Yi (Nz rfl) ?_;refine Xi .pure (Xi _ (Yi (M8 h1) ?_));refine Yi (Nz rfl) ?_;refine Yi (Nz rfl) ?_;refine Yi (Nz rfl) ?_;refine Xi .pure (Xi _ (Yi (nX h1) ?_));refine Yi (Nz rfl) ?_;refine Xi ⟨[(2,sl Ad l),(3,.ref 3 0),(4,.ref 4 0),(7,.ref 7 0),(8,vi (DZ x s true)),(9,.ref 9 0),(10,vi (DZ x s true))],[(3,.ro (Ic x ifs)),(4,.ro (Ad s)),(7,.cells [sl Ag (Fw x s true),.slice .none (if DZ x s true=0 then ifs else [])]),(9,.cells [sl Ag (Fw x s true),.slice .none (if DZ x s true=0 then ifs else [])])],Aa⟩ (Yi ⟨Z7,Z4,Fh,Tv⟩ ?_)
  refine Yi (Nz rfl) ?_;refine Yi (Nz rfl) ?_;refine Xi .pure (Xi _ (Yi (Xj h1) ?_));refine Yi (Nz rfl) ?_;refine Yi (Nz rfl) ?_;refine Yi (Nz rfl) ?_;refine Xi .pure (Xi _ (Yi (gm h1) ?_));refine Yi (Nz rfl) ?_;refine Xi ⟨[(2,sl Ad l),(3,.ref 3 0),(7,.ref 7 0),(8,vi (DZ x s true)),(9,.ref 9 0),(10,vi (DZ x s true)),(11,.ref 11 0),(12,vi (DZ x s false)),(13,.ref 13 0),(14,vi (DZ x s false))],[(3,.ro (Ic x ifs)),(7,.cells [sl Ag (Fw x s true),.slice .none (if DZ x s true=0 then ifs else [])]),(9,.cells [sl Ag (Fw x s true),.slice .none (if DZ x s true=0 then ifs else [])]),(11,.ro [sl Ag (Fw x s false),.slice .none (if DZ x s false=0 then ifs else [])]),(13,.ro [sl Ag (Fw x s false),.slice .none (if DZ x s false=0 then ifs else [])])],Aa⟩ (Yi ⟨Z10,Z5,Fh,Tv⟩ ?_)
  refine Yi (fun h6=>?_) (fun h6=>?_)
  ·have h6:((DZ x s true):Int)≠((DZ x s true):Int):=h6;refine Xi ⟨[],[],Aa⟩ (Yi ⟨Tv,Tv,Fh,Tv⟩ ?_)
   exact absurd rfl h6
  have h6:((DZ x s true):Int)=((DZ x s true):Int):=AN h6;refine Yi (fun h8=>?_) (fun h8=>?_)
  ·have h8:((DZ x s false):Int)≠((DZ x s false):Int):=h8;refine Xi ⟨[],[],Aa⟩ (Yi ⟨Tv,Tv,Fh,Tv⟩ ?_)
   exact absurd rfl h8
  have h8:((DZ x s false):Int)=((DZ x s false):Int):=AN h8;refine Xi .pure (Xi _ (Yi (ZB h1 _ (.inl rfl)) ?_));refine Xi .pure (Xi _ (Yi (ZB h1 _ (.inr (.inl rfl))) ?_));refine Xi ⟨[(2,sl Ad l),(3,.ref 3 0),(7,.ref 7 0),(9,.ref 9 0)],[(3,.ro (Ic x ifs)),(7,.cells [sl Ag (Fw x s true),.slice .none (if DZ x s true=0 then ifs else [])]),(9,.cells [sl Ag (Fw x s true),.slice .none (if DZ x s true=0 then ifs else [])])],Aa⟩ (Yi ⟨Z4,Z3,Fh,Tv⟩ ?_)
  refine Yi (Nz rfl) ?_;refine Xi .pure (Xi _ (Yi (tZ h1) ?_));refine Yi (Nz rfl) ?_;refine Xi .pure (Xi _ (Yi (h23 h1) ?_));refine Xi ⟨[(2,sl Ad l),(3,.ref 3 0),(7,.ref 7 0),(8,vi (EU x l)),(9,.ref 9 0),(10,vi (EU x l)),(15,sl Ad (Hx x l)),(16,sl Ad (Hx x l))],[(3,.ro (Ic x ifs)),(7,.cells [sl Ag (Fw x s true),.slice .none (if DZ x s true=0 then ifs else [])]),(9,.cells [sl Ag (Fw x s true),.slice .none (if DZ x s true=0 then ifs else [])])],Aa⟩ (Yi ⟨Z8,Z3,Fh,Tv⟩ ?_)
  refine Yi (Nz rfl) ?_;refine Xi .pure (Xi _ (Yi (nY h1) ?_));refine Yi (Nz rfl) ?_;refine Yi (Nz rfl) ?_;refine Xi .pure (Xi _ (Yi (nZ h1) ?_));refine Yi (Nz rfl) ?_;refine Xi ⟨[(7,.ref 7 0),(8,vi (EU x l)),(9,.ref 9 0),(10,vi (EU x l)),(12,vi (EU x l)),(14,vi (EU x l)),(15,sl Ad (Hx x l)),(16,sl Ad (Hx x l))],[(7,.cells [sl Ag (Rm x l),.slice .none (if EU x l=0 then ifs else [])]),(9,.cells [sl Ag (Rm x l),.slice .none (if EU x l=0 then ifs else [])])],Aa⟩ (Yi ⟨Z8,Z2,Fh,Tv⟩ ?_)
  refine Xi .pure (Xi _ (Yi (cb (Ar rfl) (yP (Hx x l) (Hx x l) hF)) ?_));refine Yi (fun NR=>?_) (fun NR=>?_)
  ·have NR:((EU x l):Int)=((EU x l):Int):=NR;refine Yi (fun _=>?_) (fun hf=>absurd NR hf);refine Xi .pure (Xi _ (Yi (ZB h1 _ (.inr (.inr rfl))) ?_));exact .refl _
  have NR:¬(((EU x l):Int)=((EU x l):Int)):=NR;exact absurd rfl NR
 have h1:sm=false:=h1;refine Xi .pure (Xi _ (Yi (cb h1 NR) ?_));refine Xi ⟨[],[],Aa⟩ (Yi ⟨Tv,Tv,Fh,Tv⟩ ?_)
 exact .refl _
theorem fM{x:List Rl}{l:List Sl}(hl:Cp l):Cp (Hx x l):=by
 unfold Hx;split
 ·exact Bx (Bv ..) hl
 ·exact AD _
theorem kn{x z:List Rl}{ifs:List (List AV)}{s:Sl}{l:List Sl}(h:eK x ifs)(hz:z=Fw x s true∨z=Fw x s false∨z=Rm x l):PC 13 [sl Ag z,sl Ag z] (vb true):=by
 have key:Cp z∧∀r∈z,Cp r.reqs∧∀q∈r.reqs,Cp q.set:=by
  have one (y:Bool) (p:Sl→Bool):Cp (yk y p x)∧∀r∈yk y p x,Cp r.reqs∧∀q∈r.reqs,Cp q.set :=
   ⟨by show _≤_;rw[Ok];exact h.lim.ix,pI fun r hr=>have q:Cp r.reqs∧∀q∈r.reqs,Cp q.set:=⟨(h.lim.rel r hr).1,fun q hq=>(((h.lim.rel r hr).2).2 q hq).1⟩;⟨q,q⟩⟩
  have nil:Cp ([]:List Rl)∧∀r∈([]:List Rl),Cp r.reqs∧∀q∈r.reqs,Cp q.set:=⟨AD _,Da _⟩;rcases hz with rfl | rfl | rfl
  ·unfold Fw;split
   ·exact one _ _
   ·exact nil
  ·unfold Fw;split
   ·exact one _ _
   ·exact nil
  ·unfold Rm;split
   ·exact one _ _
   ·exact nil
 have q:=o15 z z key.1 key.2;rw[Ar rfl]at q;exact q
theorem xC(x:List Rl)(ifs:List (List AV))(s:Sl)(l:List Sl)(h:eK x ifs)(hl:Cp l):PC 6 [EV x ifs,.agg (Ad s),sl Ad l] (vb true):=by
 have fw (q:Gp x 16=true):Lv x:=⟨ar q,h.lim.x⟩;have Mb:=zd x ifs h.lim.x;have hf (z:Sl):PC 49 [EV x ifs,vs z.path,.agg (Ea z.ver)] (J9 (CK x z)):=c83 x ifs z.path z.ver h.lim.x h.lim.ix;have hg (z:Sl):PC 15 [EV x ifs,vs z.path,.agg (Ea z.ver)] (J9 (CK x z)):=y9 x ifs z.path z.ver (h.lim.c84 ifs) h.lim.x;have mq (m:List Sl) (hm:Cp m) (y:Bool):=yZ x ifs m y hm h.lim.ix h.fi h.si;have h1 (y:Bool):PC 52 [EV x ifs,sl Ad [s],vb y] (EV (yk y (Jb s) x) ifs):=by
  have q:=mq [s] (show 1≤1073741824 by decide) y;rw[pJ]at q;exact q
 refine sC x ifs s l hl _ (yQ h.lim ifs) (fun q=>(tO ifs s (fw q) (Oe q) h.fi h.si).1) (fun _=>yV x ifs s (tN x ifs s Mb hf (h1 true)))
  (fun q=>(tO ifs s (fw q) (Oe q) h.fi h.si).2) (fun _=>yW x ifs s (tM x ifs s Mb hf (h1 false))) (fun _ z hz=>kn h hz)
  (fun q=>tw x ifs l hl (pD x ifs l hl (jG SH x ifs h.lim.x)) hg) (fun _=>yX x ifs l hl Mb (zf l hl) hf) (fun q=>yS ifs l hl (fw q) (Oe q) (uw ifs h.fi h.si)) (fun _=>yY x ifs l Mb (zf l hl) (mq l hl false)) (fM hl)
end Go.Eng
