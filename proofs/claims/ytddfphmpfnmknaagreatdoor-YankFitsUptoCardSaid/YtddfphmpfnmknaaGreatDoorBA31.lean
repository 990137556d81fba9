/- Lemmas for the claims of this seat, without a condition: part 31 (J1, J2, V17). -/
import Derived.Test.YtddfphmpfnmknaaGreatDoorBA30
import Derived.Test.YtddfphmpfnmknaaGreatDoorCards
import Derived.Test.YtddfphmpfnmknaaGreatDoorTie
import Derived.ProofKit
import Derived.OpenShut
import Derived.Deep.DeepHandedRow
import Derived.Lib.LaidTab
namespace Go.Proofs.YtddfphmpfnmknaaGreatDoor.joins
open Go Go.Eng Go.Proofs Go.ChangeShapes Go.WideShapes Go.ChangeAt Go.RowKit
section
variable {H:Type}{enc:TypeId×Value→H}{w:World}
theorem all_le{d:DataW H}{l:List (DataW H)}(h:d∈l):Rows.uptoBulk d≤Rows.uptoBulkAll l:=by
 induction l with
 |nil=>cases h
 |cons x r ih =>
  simp only[Rows.uptoBulkAll]
  cases Au.1 h with
  |inl e=>subst e;omega
  |inr e=>have:=ih e;omega
theorem one_le(d:DataW H):1≤Rows.uptoBulk d:=by
 cases d with
 |lit l=>cases l<;>simp[Rows.uptoBulk]
 |nil=>simp[Rows.uptoBulk]
 |ptr d=>simp[Rows.uptoBulk]
 |slice ku spare=>simp[Rows.uptoBulk]
 |agg parts=>simp[Rows.uptoBulk]
 |iface t d=>simp[Rows.uptoBulk]
 |map entries=>simp[Rows.uptoBulk]
 |held h=>simp[Rows.uptoBulk]
theorem len_le(l:List (DataW H)):l.length≤Rows.uptoBulkAll l:=by
 induction l with
 |nil=>simp[Rows.uptoBulkAll]
 |cons x r ih=>have:=one_le x;simp only[Rows.uptoBulkAll,Ax];omega
theorem bulk_ok:U4 (H:=H) Rows.uptoBulk where
 slice es sp:=by
  have h1:=len_le es
  refine⟨by simp only[Rows.uptoBulk];omega,fun d hd=>?_⟩
  have:=all_le hd
  simp only[Rows.uptoBulk];omega
 agg ps d hd:=by
  have:=all_le hd
  simp only[Rows.uptoBulk];omega
 str b:=by simp only[Rows.uptoBulk];omega
theorem app_all(l r:List (DataW H)):Rows.uptoBulkAll (l++r)=Rows.uptoBulkAll l+Rows.uptoBulkAll r:=by
 induction l with
 |nil=>simp[Rows.uptoBulkAll]
 |cons x l ih=>simp only[It,Rows.uptoBulkAll,ih];omega
abbrev NB:Nat:=1048576
abbrev Op(enc:TypeId×Value→H)(w:World)(t:TypeId){α:Type}(e:α→List AV)(ok:α→Prop):Prop:=J8 enc Tryz.prog w Rows.uptoBulk NB t e ok
theorem oI:Op enc w 3 (fun n:Int=>[vi n]) (fun _=>True):=(bP Tryz.underlying3).to id (fun _ _=>⟨rfl,trivial⟩)
theorem oB:Op enc w 4 (fun b:Bool=>[vb b]) (fun _=>True):=YL Tryz.underlying4
theorem oS:Op enc w 9 (fun s:ByteArray=>[vs s]) (fun s=>s.size≤NB):=VN bulk_ok Tryz.underlying9
theorem oVer:Op enc w 27 FW (fun _=>True) :=
 (FK bulk_ok Tryz.underlying27 (L:=3) (by kernel_rfl) (Ce rfl (n:=1) (by kernel_rfl) oI (Ce rfl (n:=1) (by kernel_rfl) oI (Ce rfl (n:=1) (by kernel_rfl) oI GQ)))).to
  (fun p=>(⟨p.1,p.2.1,p.2.2.1⟩:Ver)) (fun _ _=>⟨rfl,trivial⟩)
theorem oSpan:Op enc w 67 Aq (fun _=>True) :=
 (FK bulk_ok Tryz.underlying67 (L:=2) (by kernel_rfl) (Ce rfl (n:=1) (by kernel_rfl) oI (Ce rfl (n:=1) (by kernel_rfl) oI GQ))).to
  (fun p=>(p.1,p.2.1)) (fun _ _=>⟨rfl,trivial⟩)
theorem oSet:Op enc w 69 (fun l:Bi=>[sl Aq l]) (fun l=>l.length≤NB) :=
 (Io bulk_ok Tryz.underlying69 (m:=1) (by kernel_rfl) (fun _=>rfl) oSpan).to id (fun _ h=>⟨rfl,h.1⟩)
abbrev OkRq(q:Rq):Prop:=q.path.size≤NB∧q.set.length≤NB
theorem oRq:Op enc w 71 AN OkRq :=
 (FK bulk_ok Tryz.underlying71 (L:=2) (by kernel_rfl) (Ce rfl (n:=1) (by kernel_rfl) oS (Ce rfl (n:=1) (by kernel_rfl) oSet GQ))).to
  (fun p=>(⟨p.1,p.2.1⟩:Rq)) (fun _ h=>⟨rfl,h.1,h.2.1⟩)
abbrev OkRqs(l:List Rq):Prop:=l.length≤NB∧∀q∈l,OkRq q
theorem oRqs:Op enc w 39 (fun l:List Rq=>[sl AN l]) OkRqs :=
 Io bulk_ok Tryz.underlying39 (m:=1) (by kernel_rfl) (fun _=>rfl) oRq
abbrev OkRl(r:Rl):Prop:=r.path.size≤NB∧OkRqs r.reqs
theorem oRl:Op enc w 41 Ah OkRl :=
 (FK bulk_ok Tryz.underlying41 (L:=9) (by kernel_rfl) (Ce rfl (n:=1) (by kernel_rfl) oS (Ce rfl (n:=3) (by kernel_rfl) oVer (Ce rfl (n:=1) (by kernel_rfl) oRqs
  (Ce rfl (n:=1) (by kernel_rfl) oS (Ce rfl (n:=1) (by kernel_rfl) oS (Ce rfl (n:=1) (by kernel_rfl) oS (Ce rfl (n:=1) (by kernel_rfl) oB GQ)))))))).to
  (fun p=>(⟨p.1,p.2.1,p.2.2.1,p.2.2.2.1,p.2.2.2.2.1,p.2.2.2.2.2.1,p.2.2.2.2.2.2.1⟩:Rl)) (fun _ h=>⟨rfl,h.1,h.2.2.1⟩)
theorem oRls:Op enc w 22 (fun l:List Rl=>[sl Ah l]) (fun l=>l.length≤NB∧∀r∈l,OkRl r) :=
 Io bulk_ok Tryz.underlying22 (m:=8) (by kernel_rfl) (fun _=>rfl) oRl
theorem oIfc:Op enc w 132 (fun s:ByteArray=>[vs s,.junk,.junk,.junk,.junk]) (fun _=>True) :=
 (FK bulk_ok Tryz.underlying132 (L:=5) (by kernel_rfl) (Ce rfl (n:=1) (by kernel_rfl) oS (Ce rfl (n:=1) (by kernel_rfl) (Mp Tryz.underlying127) (Ce rfl (n:=1) (by kernel_rfl) (Mp Tryz.underlying128)
  (Ce rfl (n:=1) (by kernel_rfl) (Mp Tryz.underlying129) (Ce rfl (n:=1) (by kernel_rfl) (Mp Tryz.underlying130) GQ)))))).to (fun p=>p.1) (fun _ _=>⟨rfl,trivial⟩)
theorem oIfs:Op enc w 23 (fun l:List ByteArray=>[sl (fun s=>[vs s,.junk,.junk,.junk,.junk]) l]) (fun l=>l.length≤NB) :=
 (Io bulk_ok Tryz.underlying23 (m:=4) (by kernel_rfl) (fun _=>rfl) oIfc).to id (fun _ h=>⟨rfl,h.1⟩)
theorem oIx:Op enc w 25 (fun p:List Rl×List (List AV)=>[sl Ah p.1,.slice .none p.2]) (fun p=>(p.1.length≤NB∧∀r∈p.1,OkRl r)∧p.2.length≤NB∧∀c∈p.2,c.length=5) :=
 (FK bulk_ok Tryz.underlying25 (L:=2) (by kernel_rfl) (Ce rfl (n:=1) (by kernel_rfl) oRls (Ce rfl (n:=1) (by kernel_rfl) oIfs GQ))).to
  (fun p=>(p.1,p.2.1.map (fun s=>[vs s,.junk,.junk,.junk,.junk]))) (fun _ h=>⟨rfl,h.1,by rw[A7];exact h.2.1,fun c hc=>by obtain⟨s,_,rfl⟩:=Al.1 hc;rfl⟩)
theorem oSl:Op enc w 29 Ae (fun y=>y.path.size≤NB) :=
 (FK bulk_ok Tryz.underlying29 (L:=4) (by kernel_rfl) (Ce rfl (n:=1) (by kernel_rfl) oS (Ce rfl (n:=3) (by kernel_rfl) oVer GQ))).to
  (fun p=>(⟨p.1,p.2.1⟩:Sl)) (fun _ h=>⟨rfl,h.1⟩)
theorem oSls:Op enc w 45 (fun l:List Sl=>[sl Ae l]) (fun l=>l.length≤NB∧∀y∈l,y.path.size≤NB) :=
 Io bulk_ok Tryz.underlying45 (m:=3) (by kernel_rfl) (fun _=>rfl) oSl
theorem few_of{n:Nat}(h:n≤NB):n≤1073741824:=Br h (by decide)
theorem lim_of{x:List Rl}{roots:List Rq}(h:x.length≤NB∧∀r∈x,OkRl r)(k:OkRqs roots):ib x roots where
 ix:=few_of h.1
 rs:=few_of k.1
 rel r hr:=⟨few_of (h.2 r hr).2.1,few_of (h.2 r hr).1,fun q hq=>⟨few_of ((h.2 r hr).2.2 q hq).2,few_of ((h.2 r hr).2.2 q hq).1⟩⟩
 rq q hq:=⟨few_of (k.2 q hq).2,few_of (k.2 q hq).1⟩
theorem lim0_of{x:List Rl}(h:x.length≤NB∧∀r∈x,OkRl r):ib x []:=lim_of h ⟨AO _,fun q hq=>by cases hq⟩
theorem lim43_of{x:List Rl}{ifs:List (List AV)}(h:(x.length≤NB∧∀r∈x,OkRl r)∧ifs.length≤NB∧∀c∈ifs,c.length=5):kp x ifs:=⟨lim0_of h.1,few_of h.2.1,h.2.2⟩
end
theorem ok_agg{P:Program}{W:World}{base:Nat}{t:TypeId}{v:Value}{fs:Array Field}(hu:P.underlying t=some (.struct fs))(h:Value.okWide P W .any base t v):∃cs,v=.agg cs:=by
 unfold Value.okWide at h
 rw[hu]at h
 obtain⟨cs,e,_⟩:=h
 exact⟨cs,e⟩
theorem ok_slice{P:Program}{W:World}{base:Nat}{t e:TypeId}{v:Value}(hu:P.underlying t=some (.slice e))(h:Value.okWide P W .any base t v):v.oneCell'=true:=by
 unfold Value.okWide at h
 rw[hu]at h
 unfold Cell.okWide Cell.ok at h
 rw[hu]at h
 cases v<;>first | rfl | simp at h
theorem ok_int{P:Program}{W:World}{base:Nat}{t:TypeId}{k:IntKind}{v:Value}(hu:P.underlying t=some (.int k))(h:Value.okWide P W .any base t v):v.oneCell'=true:=by
 unfold Value.okWide at h
 rw[hu]at h
 unfold Cell.okWide Cell.ok at h
 rw[hu]at h
 cases v<;>first | rfl | simp at h
theorem int_of_shape{P:Program}{w:World}{g:Nat}{t:TypeId}{k:IntKind}{zero:Array Value}(h:w.ShapedOpen P)(hg:g<P.globals.size)
  (h0:((begin P (fun _ _=>0) default).world.heap[g]?).bind Obj.row?=some (zero,t)) (hz:zero.size=1)
  (hb:P.buildable t=true) (hc:P.cellTypes P.depth t=some [t]) (hu:P.underlying t=some (.int k)):∃p,w.cell? ⟨g,0,none⟩=some (.int k p):=by
 obtain⟨cs,hh,hs,hr⟩:=h.1 g zero t hg h0
 obtain⟨ts,xv,_,GE⟩:=hr hb
 rw[hc]at xv
 cases xv
 have h1:0<cs.size:=by omega
 obtain⟨u,eZ,Gk⟩:=GE 0 cs[0] (by simp[h1])
 have:u=t:=by simpa using eZ.symm
 subst this
 have Du:w.cell? ⟨g,0,none⟩=some cs[0]:=by simp[World.cell?,hh,h1]
 rw[Du]
 unfold Cell.ok at Gk
 rw[hu]at Gk
 cases hv:cs[0]<;>rw[hv]at Gk<;>simp at Gk
 obtain⟨rfl,_⟩:=Gk
 exact⟨_,rfl⟩
theorem maxLen_cell{W:World}(h:W.ShapedOpen Tryz.prog):∃m,W.cell? ⟨0,0,none⟩=some (.int .i64 m) :=
 int_of_shape (t:=3) (zero:=#[.int .i64 0]) h (A8 (by kernel_rfl)) (by kernel_rfl) rfl (by kernel_rfl) (by kernel_rfl) Tryz.underlying3
def Still(W W' : World):Prop:=W'.os=W.os∧W'.output=W.output∧W.heap.size≤W'.heap.size∧∀b,b<W.heap.size→W'.heap[b]?=W.heap[b]?
theorem run_true{f:Nat}{args:List AV}{vals:Array Value}{W:World}(hc:PC f args (vb true))(hM:∃m,W.cell? ⟨0,0,none⟩=some (.int .i64 m))(hs:vals.size=args.length)
  (hr:∀(i:Nat) (av:AV) (x:Value),args[i]?=some av→vals[i]?=some x→BC (ic W) W E8 av x):Calls Tryz.prog f vals W fun e W'=>e=.returned (.bool true)∧Still W W':=by
 refine(hc.2 (ic W) W vals hs (fun i av x q1 q2=>(hr i av x q1 q2).up _) (qo hM (fun _ h=>by cases h))).mono fun e W' ⟨v,r,h',g',e1,e2,e3,e4,_⟩=>?_
 subst e1
 obtain⟨rfl,rfl⟩:=e2
 obtain rfl:=e3.v_eq
 exact⟨rfl,e4.os,e4.output,e4.size,fun b hb=>e4.frame b hb (fun r h=>h.elim)⟩
theorem Still.kept{W W' : World}(h:Still W W')(xC:MemPlace→Prop):W.keptBut W' xC:=by
 refine⟨h.1,h.2.1,fun i hi=>?_⟩
 rw[h.2.2.2 i hi]
 cases hh:W.heap[i]? with
 |none=>rfl
 |some o=>cases o<;>simp
theorem Still.same{W W' : World}(h:Still W W'){p:MemPlace}(hp:p.block<W.heap.size):W.sameAt W' p:=by
 cases p with
 |cell b off =>
  show W'.cell? ⟨b,off,none⟩=W.cell? ⟨b,off,none⟩
  unfold World.cell?
  rw[h.2.2.2 b hp]
 |map b=>exact h.2.2.2 b hp
theorem kids:Kids Tryz.prog (· < Tryz.prog.types.size):=kids_rows (by kernel_rfl) (by kernel_rfl)
theorem full:∀t e,t<Tryz.prog.types.size→Tryz.prog.underlying t=some (.slice e)→0<Tryz.prog.cellsOf e:=slices_full_of Tryz.prog (by kernel_rfl)
theorem carry{H:Type}{enc:TypeId×Value→H}{W W' : World}(h:Still W W'):∀{ts:List TypeId} {vs:List Value} {ds:List (DataW H)} {ps:List MemPlace},DataW.TrodAll enc Tryz.prog W 0 (fun _=>true) true ts vs ds ps→DataW.TrodAll enc Tryz.prog W' 0 (fun _=>true) true ts vs ds ps
 | [],[],[],_,e=>e
 |t::ts,v::vs,d::ds,ps,k=>by
  have Ds:=k.lt
  obtain⟨p,q,⟨n,h1⟩,h2,rfl⟩:=k
  exact⟨p,q,⟨n,DataW.trod_carry n _ _ _ h1 (fun x hx=>h.same (Ds x (Bd _ hx)))⟩,carry h h2,rfl⟩
 | [],[],_::_,_,k=>k.elim
 | [],_::_,_,_,k=>k.elim
 |_::_,[],_,_,k=>k.elim
 |_::_,_::_,[],_,k=>k.elim
theorem post_true{H:Type}{enc:TypeId×Value→H}{W W' : World}{f:Func}{s:ChangeSpec}{args:Array Value}{ds:List (DataW H)}{before:List MemPlace}(I7:Still W W')(hv:s.vars=[])
  (hW:DataW.Whole enc Tryz.prog f.params.toList s.vars false W args.toList ds [] before) (hr:f.resultTypes=#[4]) (hT:∀t∈f.params.toList,t<Tryz.prog.types.size) (hs:s.fn H ds={ results:=[.lit (.bool true)],args:=ds }) :
  s.post enc Tryz.prog f false true false false W args (.bool true) W':=by
 have wP:=hW
 obtain⟨p,q,hA,hV,rfl,hz,_⟩:=hW
 rw[hv]at hV
 have hq:q=[]:=hV
 subst hq
 have Ds:=wP.lt
 have jn:s.fn H (ds++[])={ results:=[.lit (.bool true)],args:=ds }:=by rw[BT];exact hs
 refine⟨ds,[],p++[],[],p,[],wP,?_,?_,?_,I7.kept _,fun h=>by cases h⟩
 ·rw[jn,hr]
  exact⟨[],[],⟨1,by rw[show(Value.bool true).cells.toList=[.bool true]from rfl,DataW.trod_step];unfold DataW.trodStep;rw[Tryz.underlying4]⟩,rfl,rfl⟩
 ·rw[jn]
  exact(carry I7 hA).respare kids full hT (fun x hx=>by simpa using Ds x (Bd _ hx))
 ·rw[jn,hv];rfl
end Go.Proofs.YtddfphmpfnmknaaGreatDoor.joins
namespace Go.Proofs.YtddfphmpfnmknaaGreatDoor.joins
open Go Go.Eng Go.Proofs Go.ChangeShapes Go.WideShapes Go.ChangeAt Go.RowKit
theorem own:ownKnob Tryz.prog.godebug=none:=by kernel_rfl
def flatD:Nat→DataW Unit→List Value
 |0,_=>[]
 |n+1,.agg l=>l.flatMap (flatD n)
 |_+1,.lit (.int k i)=>[.int k i]
 |_+1,_=>[]
def layIn(d:DataW Unit):Obj→Obj
 |.cells _ t frozen=>.cells (flatD 4 d).toArray t frozen
 |o=>o
noncomputable def laidWorld(os:Os):World :=
 { World.holding Tryz.prog os ⟨#[],#[],[]⟩with heap:=((World.holding Tryz.prog os ⟨#[],#[],[]⟩).heap.modify 1 (layIn Rows.laid_unicode_utf8_first)).modify 2 (layIn Rows.laid_unicode_utf8_acceptRanges) }
abbrev nilV:Value:=.slice none 0 0
theorem arr1{args:Array Value}{a:Value}(h:args.toList=[a]):args=#[a]:=by
 cases args;simp_all
theorem arr2{args:Array Value}{a b:Value}(h:args.toList=[a,b]):args=#[a,b]:=by
 cases args;simp_all
theorem arr3{args:Array Value}{a b c:Value}(h:args.toList=[a,b,c]):args=#[a,b,c]:=by
 cases args;simp_all
theorem arr4{args:Array Value}{a b c d:Value}(h:args.toList=[a,b,c,d]):args=#[a,b,c,d]:=by
 cases args;simp_all
theorem arr5{args:Array Value}{a b c d e:Value}(h:args.toList=[a,b,c,d,e]):args=#[a,b,c,d,e]:=by
 cases args;simp_all
theorem looksOff:false=Tryz.pinned.checked.prog.looks []:=by kernel_rfl
theorem noStand:∀t∈([25,29,39,45,62]:List Nat),Tryz.pinned.checked.prog.wantsStandIn t=false:=by
 intro t ht
 simp only[Au,Ld,or_false]at ht
 rcases ht with rfl | rfl | rfl | rfl | rfl<;>exact(show Tryz.prog.wantsStandIn _=false by kernel_rfl)
end Go.Proofs.YtddfphmpfnmknaaGreatDoor.joins
namespace Go.Eng
open Go.Proofs
theorem nJ(v:Ver)(h:B8 v=true):PC 16 [.agg (FW v)] (vi (plc v)):=by
 have h1:=h;unfold B8 at h1;simp only[Af]at h1;have a2:okPart v.b:=A8 h1.1.2;have a3:okPart v.c:=A8 h1.2;unfold okPart at a2 a3;refine Ps ⟨[1],[],[],[],[],[],[],[],[],[],[]⟩ Tryz.func16 rfl (Nz rfl) ?_;refine Yi (by show BM ((1000:Int)*(v.b:Int));unfold BM;omega) ?_;refine Yi (by show BM ((1000*v.b:Int)+(v.c:Int));unfold BM;omega) ?_;exact .of_eq (show vi (1000*v.b+v.c)=vi (plc v) by unfold plc;rw[Ao h];rfl)
set_option maxHeartbeats 4000000 in
theorem qt(x:List Rl)(ifs:List (List AV))(s:Sl)(hl:CU x)(sm:Bool)(hF:cW x s)(RV:PC 10 [Hr x ifs,.v (.slice none 0 0)] (vb sm))(dX:sm=true→PC 14 [Hr x ifs,.agg (Ae s)] (.tup [.agg (Ae (Cf x s)),vi (Ip x s)]))(pM:PC 15 [Hr x ifs,vs (Cf x s).path,.agg (FW (Cf x s).ver)] (UJ (DV x (Cf x s)))):PC 4 [.agg (Ic x ifs),.agg (Ae s)] (vb true):=by
 have hl:x.length≤1073741824:=hl;refine Ps ⟨[2,3,5,7,12],[],[],[],[],[],[],[],[],[],[4,5,7,8,9,10,11,17,18,19]⟩ Tryz.func4 rfl (Nz rfl) ?_;refine Xi .pure (Xi _ (Yi yk9 ?_));refine Yi (Nz rfl) ?_;refine Dj (Bt sm) (fun h1=>?_) (fun h1=>?_)
 ·have h1:sm=true:=h1;refine Xi .pure (Xi _ (Yi (cb h1 RV) ?_));refine Yi (fun h2=>?_) (fun h2=>?_)
  ·have h2:(100:Int)<(s.path.size:Int):=h2;refine Xi ⟨[],[],Aa⟩ (Yi ⟨Tv,Tv,Fh,Tv⟩ ?_)
   exact .refl _
  have h2:¬((100:Int)<(s.path.size:Int)):=h2;refine Xi ⟨[(2,.ref 2 0),(3,.ref 3 0)],[(2,.ro (Ic x ifs)),(3,.ro (Ae s))],Aa⟩ (Yi ⟨Z2,Z2,Fh,Tv⟩ ?_)
  refine Yi (Nz rfl) ?_;refine Yi (Nz rfl) ?_;refine Xi .pure (Xi _ (Yi (dX h1) ?_));refine Yi (Nz rfl) ?_;refine Yi (fun h4=>?_) (fun h4=>?_)
  ·have h4:((Ip x s):Int)≠(0:Int):=h4;refine Xi ⟨[(5,.ref 5 0)],[(5,.ro (Ae (Cf x s)))],Aa⟩ (Yi ⟨Z1,Z1,Fh,Tv⟩ ?_)
   refine Yi (Nz rfl) ?_;refine Yi (fun h5=>?_) (fun h5=>?_)
   ·have h5:((Cf x s).path:ByteArray)=⟨#[]⟩∧((Cf x s).ver.a:Int)=0∧((Cf x s).ver.b:Int)=0∧((Cf x s).ver.c:Int)=0∧True:=h5;exact .refl _
   have h5:¬(((Cf x s).path:ByteArray)=⟨#[]⟩∧((Cf x s).ver.a:Int)=0∧((Cf x s).ver.b:Int)=0∧((Cf x s).ver.c:Int)=0∧True):=h5;exact absurd (show((Cf x s).path:ByteArray)=⟨#[]⟩∧((Cf x s).ver.a:Int)=0∧((Cf x s).ver.b:Int)=0∧((Cf x s).ver.c:Int)=0∧True by rw[hF.no h4];exact⟨rfl,rfl,rfl,rfl,trivial⟩) h5
  have h4:((Ip x s):Int)=(0:Int):=AS h4;refine Xi ⟨[(2,.ref 2 0),(3,.ref 3 0),(5,.ref 5 0)],[(2,.ro (Ic x ifs)),(3,.ro (Ae s)),(5,.ro (Ae (Cf x s)))],Aa⟩ (Yi ⟨Z3,Z3,Fh,Tv⟩ ?_)
  refine Yi (Nz rfl) ?_;refine Yi (Nz rfl) ?_;refine Dj (UK (DV x (Cf x s))) (fun h8=>?_) (fun h8=>?_)
  ·refine B4 h8 (fun r h8=>?_);have pF:=pM;rw[h8]at pF;refine Xi .pure (Xi _ (Yi pF ?_));refine Yi (Nz rfl) ?_;refine Xi ⟨[(2,.ref 2 0),(3,.ref 3 0),(5,.ref 5 0),(7,.ref 7 0),(8,vb true)],[(2,.ro (Ic x ifs)),(3,.ro (Ae s)),(5,.ro (Ae (Cf x s))),(7,.ro (Ah r))],Aa⟩ (Yi ⟨Z5,Z4,Fh,Tv⟩ ?_)
   refine Yi (fun h9=>?_) (fun h9=>?_)
   ·have h9:r.yanked=true:=h9;refine Xi ⟨[],[],Aa⟩ (Yi ⟨Tv,Tv,Fh,Tv⟩ ?_)
    refine B4 (hF.src h4) (fun r0 hr=>?_);have er:r=r0:=B2 (h8.symm.trans hr.1);subst er;exact absurd (h9.symm.trans hr.2.1) (by decide)
   have h9:r.yanked=false:=h9;refine Yi (fun Yq=>?_) (fun Yq=>?_)
   ·have Yq:((Cf x s).path:ByteArray)≠s.path:=Yq;refine Xi ⟨[],[],Aa⟩ (Yi ⟨Tv,Tv,Fh,Tv⟩ ?_)
    refine B4 (hF.src h4) (fun r0 hr=>?_);have er:r=r0:=B2 (h8.symm.trans hr.1);subst er;exact absurd hr.2.2.1 Yq
   have Yq:((Cf x s).path:ByteArray)=s.path:=AS Yq;refine Yi (Nz rfl) ?_;refine Yi (Nz rfl) ?_;refine Yi (fun dX=>?_) (fun dX=>?_)
   ·have dX:((Cf x s).path:ByteArray)=s.path∧((Cf x s).ver.a:Int)=s.ver.a∧((Cf x s).ver.b:Int)=s.ver.b∧((Cf x s).ver.c:Int)=s.ver.c∧True:=dX;refine Xi ⟨[],[],Aa⟩ (Yi ⟨Tv,Tv,Fh,Tv⟩ ?_)
    refine B4 (hF.src h4) (fun r0 hr=>?_);have er:r=r0:=B2 (h8.symm.trans hr.1);subst er;exact absurd (gG dX) hr.2.2.2
   have dX:¬(((Cf x s).path:ByteArray)=s.path∧((Cf x s).ver.a:Int)=s.ver.a∧((Cf x s).ver.b:Int)=s.ver.b∧((Cf x s).ver.c:Int)=s.ver.c∧True):=dX;refine Xi ⟨[(2,.ref 2 0),(3,.ref 3 0),(5,.ref 5 0)],[(2,.ro (Ic x ifs)),(3,.ro (Ae s)),(5,.ro (Ae (Cf x s)))],Aa⟩ (Yi ⟨Z3,Z3,Fh,Tv⟩ ?_)
   refine Yi (Nz rfl) ?_;refine Xi _ (Yi (nJ s.ver (hF.val h4).2.1) ?_);refine Yi (Nz rfl) ?_;refine Xi _ (Yi (nJ (Cf x s).ver (hF.val h4).2.2) ?_);refine Yi (by kernel_rfl) ?_;refine Xi {q:Nat // q≤x.length} (Xi (fun q=>⟨[(3,.ref 3 0),(5,.ref 5 0),(9,vi (plc s.ver)),(10,vi (plc (Cf x s).ver)),(70,sl Ah x),(71,vi (x.map Ah).length),(72,vi q.1)],[(3,.ro (Ae s)),(5,.ro (Ae (Cf x s)))],Aa⟩) (Xi (fun q=>x.length-q.1) (Yi (Xi ⟨0,AO _⟩ ?_) ?_)))
   ·exact⟨Z7,Z2,Fh,Tv⟩
   intro⟨i,i1⟩;have i1:i≤x.length:=i1;refine Yi (fun md=>?_) (fun md=>?_)
   ·have md:(i:Int)<((x.map Ah).length:Int):=md;have n16:=MB md;refine Xi (Ah x[i]) (Yi (Wj n16) (Yi rfl ?_));refine Yi (Nz rfl) ?_;refine Yi (Nz rfl) ?_;refine Yi (Nz rfl) ?_;refine Xi .pure (Xi _ (Yi (nJ x[i].ver (((Cc (hF.val h4).1).1 _ (At n16)).val)) ?_));refine Yi (fun cJ=>?_) (fun cJ=>?_)
    ·have cJ:(x[i].path:ByteArray)≠s.path:=cJ;refine Xi ⟨[(3,.ref 3 0),(5,.ref 5 0),(9,vi (plc s.ver)),(10,vi (plc (Cf x s).ver)),(70,sl Ah x),(71,vi (x.map Ah).length),(72,vi i)],[(3,.ro (Ae s)),(5,.ro (Ae (Cf x s)))],Aa⟩ (Yi ⟨Z7,Z2,Fh,Tv⟩ ?_)
     refine Yi (Ii i (by omega)) ?_;refine Xi ⟨i+1,n16⟩ ?_;exact⟨Dl x.length i (by omega),Z7,Z2,Fh,Tv⟩
    have cJ:(x[i].path:ByteArray)=s.path:=AS cJ;refine Yi (fun Wd=>?_) (fun Wd=>?_)
    ·have Wd:x[i].yanked=true:=Wd;refine Xi ⟨[(3,.ref 3 0),(5,.ref 5 0),(9,vi (plc s.ver)),(10,vi (plc (Cf x s).ver)),(70,sl Ah x),(71,vi (x.map Ah).length),(72,vi i)],[(3,.ro (Ae s)),(5,.ro (Ae (Cf x s)))],Aa⟩ (Yi ⟨Z7,Z2,Fh,Tv⟩ ?_)
     refine Yi (Ii i (by omega)) ?_;refine Xi ⟨i+1,n16⟩ ?_;exact⟨Dl x.length i (by omega),Z7,Z2,Fh,Tv⟩
    have Wd:x[i].yanked=false:=Wd;refine Xi ⟨[(3,.ref 3 0),(5,.ref 5 0),(9,vi (plc s.ver)),(10,vi (plc (Cf x s).ver)),(12,.ref 12 0),(13,vi (plc x[i].ver)),(70,sl Ah x),(71,vi (x.map Ah).length),(72,vi i)],[(3,.ro (Ae s)),(5,.ro (Ae (Cf x s))),(12,.ro (Ah x[i]))],Aa⟩ (Yi ⟨Z9,Z3,Fh,Tv⟩ ?_)
    refine Yi (fun ky=>?_) (fun ky=>?_)
    ·have ky:((plc s.ver):Int)<((plc (Cf x s).ver):Int):=ky;refine Yi (fun kz=>?_) (fun kz=>?_)
     ·have kz:((plc s.ver):Int)<((plc x[i].ver):Int):=kz;refine Yi (fun dY=>?_) (fun dY=>?_)
      ·have dY:((plc x[i].ver):Int)<((plc (Cf x s).ver):Int):=dY;refine Yi (fun dZ=>?_) (fun dZ=>?_)
       ·have dZ:(x[i].ver.b:Int)=(s.ver.b:Int):=dZ;refine Xi ⟨[],[],Aa⟩ (Yi ⟨Tv,Tv,Fh,Tv⟩ ?_)
        exact absurd (show Mx s (Cf x s) x[i] by unfold Mx;omega) (hF.all h4 x[i] (At n16) cJ Wd)
       have dZ:¬((x[i].ver.b:Int)=(s.ver.b:Int)):=dZ;refine Yi (fun Pe=>?_) (fun Pe=>?_)
       ·have Pe:((Cf x s).ver.b:Int)≠(s.ver.b:Int):=Pe;refine Xi ⟨[],[],Aa⟩ (Yi ⟨Tv,Tv,Fh,Tv⟩ ?_)
        exact absurd (show Mx s (Cf x s) x[i] by unfold Mx;omega) (hF.all h4 x[i] (At n16) cJ Wd)
       have Pe:((Cf x s).ver.b:Int)=(s.ver.b:Int):=AS Pe;refine Yi (fun ph=>?_) (fun ph=>?_)
       ·have ph:((plc (Cf x s).ver):Int)<((plc s.ver):Int):=ph;refine Yi (fun _=>?_) (fun hf=>absurd kz hf);refine Xi ⟨[],[],Aa⟩ (Yi ⟨Tv,Tv,Fh,Tv⟩ ?_)
        exact absurd (show Mx s (Cf x s) x[i] by unfold Mx;omega) (hF.all h4 x[i] (At n16) cJ Wd)
       have ph:¬(((plc (Cf x s).ver):Int)<((plc s.ver):Int)):=ph;refine Xi ⟨[(3,.ref 3 0),(5,.ref 5 0),(9,vi (plc s.ver)),(10,vi (plc (Cf x s).ver)),(70,sl Ah x),(71,vi (x.map Ah).length),(72,vi i)],[(3,.ro (Ae s)),(5,.ro (Ae (Cf x s)))],Aa⟩ (Yi ⟨Z7,Z2,Fh,Tv⟩ ?_)
       refine Yi (Ii i (by omega)) ?_;refine Xi ⟨i+1,n16⟩ ?_;exact⟨Dl x.length i (by omega),Z7,Z2,Fh,Tv⟩
      have dY:¬(((plc x[i].ver):Int)<((plc (Cf x s).ver):Int)):=dY;refine Yi (fun d4=>?_) (fun d4=>?_)
      ·have d4:((plc (Cf x s).ver):Int)<((plc s.ver):Int):=d4;refine Yi (fun _=>?_) (fun hf=>absurd kz hf);refine Xi ⟨[],[],Aa⟩ (Yi ⟨Tv,Tv,Fh,Tv⟩ ?_)
       exact absurd (show Mx s (Cf x s) x[i] by unfold Mx;omega) (hF.all h4 x[i] (At n16) cJ Wd)
      have d4:¬(((plc (Cf x s).ver):Int)<((plc s.ver):Int)):=d4;refine Xi ⟨[(3,.ref 3 0),(5,.ref 5 0),(9,vi (plc s.ver)),(10,vi (plc (Cf x s).ver)),(70,sl Ah x),(71,vi (x.map Ah).length),(72,vi i)],[(3,.ro (Ae s)),(5,.ro (Ae (Cf x s)))],Aa⟩ (Yi ⟨Z7,Z2,Fh,Tv⟩ ?_)
      refine Yi (Ii i (by omega)) ?_;refine Xi ⟨i+1,n16⟩ ?_;exact⟨Dl x.length i (by omega),Z7,Z2,Fh,Tv⟩
     have kz:¬(((plc s.ver):Int)<((plc x[i].ver):Int)):=kz;refine Yi (fun Yr=>?_) (fun Yr=>?_)
     ·have Yr:((plc (Cf x s).ver):Int)<((plc s.ver):Int):=Yr;refine Yi (fun hf=>absurd hf kz) (fun _=>?_);refine Yi (fun pj=>?_) (fun pj=>?_)
      ·have pj:((plc (Cf x s).ver):Int)<((plc x[i].ver):Int):=pj;refine Yi (fun pk=>?_) (fun pk=>?_)
       ·have pk:((plc x[i].ver):Int)<((plc s.ver):Int):=pk;refine Xi ⟨[],[],Aa⟩ (Yi ⟨Tv,Tv,Fh,Tv⟩ ?_)
        exact absurd (show Mx s (Cf x s) x[i] by unfold Mx;omega) (hF.all h4 x[i] (At n16) cJ Wd)
       have pk:¬(((plc x[i].ver):Int)<((plc s.ver):Int)):=pk;refine Xi ⟨[(3,.ref 3 0),(5,.ref 5 0),(9,vi (plc s.ver)),(10,vi (plc (Cf x s).ver)),(70,sl Ah x),(71,vi (x.map Ah).length),(72,vi i)],[(3,.ro (Ae s)),(5,.ro (Ae (Cf x s)))],Aa⟩ (Yi ⟨Z7,Z2,Fh,Tv⟩ ?_)
       refine Yi (Ii i (by omega)) ?_;refine Xi ⟨i+1,n16⟩ ?_;exact⟨Dl x.length i (by omega),Z7,Z2,Fh,Tv⟩
      have pj:¬(((plc (Cf x s).ver):Int)<((plc x[i].ver):Int)):=pj;refine Xi ⟨[(3,.ref 3 0),(5,.ref 5 0),(9,vi (plc s.ver)),(10,vi (plc (Cf x s).ver)),(70,sl Ah x),(71,vi (x.map Ah).length),(72,vi i)],[(3,.ro (Ae s)),(5,.ro (Ae (Cf x s)))],Aa⟩ (Yi ⟨Z7,Z2,Fh,Tv⟩ ?_)
      refine Yi (Ii i (by omega)) ?_;refine Xi ⟨i+1,n16⟩ ?_;exact⟨Dl x.length i (by omega),Z7,Z2,Fh,Tv⟩
     have Yr:¬(((plc (Cf x s).ver):Int)<((plc s.ver):Int)):=Yr;refine Xi ⟨[(3,.ref 3 0),(5,.ref 5 0),(9,vi (plc s.ver)),(10,vi (plc (Cf x s).ver)),(70,sl Ah x),(71,vi (x.map Ah).length),(72,vi i)],[(3,.ro (Ae s)),(5,.ro (Ae (Cf x s)))],Aa⟩ (Yi ⟨Z7,Z2,Fh,Tv⟩ ?_)
     refine Yi (Ii i (by omega)) ?_;refine Xi ⟨i+1,n16⟩ ?_;exact⟨Dl x.length i (by omega),Z7,Z2,Fh,Tv⟩
    have ky:¬(((plc s.ver):Int)<((plc (Cf x s).ver):Int)):=ky;refine Yi (fun aV=>?_) (fun aV=>?_)
    ·have aV:((plc (Cf x s).ver):Int)<((plc s.ver):Int):=aV;refine Yi (fun pm=>?_) (fun pm=>?_)
     ·have pm:((plc s.ver):Int)<((plc x[i].ver):Int):=pm;refine Xi ⟨[],[],Aa⟩ (Yi ⟨Tv,Tv,Fh,Tv⟩ ?_)
      exact absurd (show Mx s (Cf x s) x[i] by unfold Mx;omega) (hF.all h4 x[i] (At n16) cJ Wd)
     have pm:¬(((plc s.ver):Int)<((plc x[i].ver):Int)):=pm;refine Yi (fun pn=>?_) (fun pn=>?_)
     ·have pn:((plc (Cf x s).ver):Int)<((plc x[i].ver):Int):=pn;refine Yi (fun kD=>?_) (fun kD=>?_)
      ·have kD:((plc x[i].ver):Int)<((plc s.ver):Int):=kD;refine Xi ⟨[],[],Aa⟩ (Yi ⟨Tv,Tv,Fh,Tv⟩ ?_)
       exact absurd (show Mx s (Cf x s) x[i] by unfold Mx;omega) (hF.all h4 x[i] (At n16) cJ Wd)
      have kD:¬(((plc x[i].ver):Int)<((plc s.ver):Int)):=kD;refine Xi ⟨[(3,.ref 3 0),(5,.ref 5 0),(9,vi (plc s.ver)),(10,vi (plc (Cf x s).ver)),(70,sl Ah x),(71,vi (x.map Ah).length),(72,vi i)],[(3,.ro (Ae s)),(5,.ro (Ae (Cf x s)))],Aa⟩ (Yi ⟨Z7,Z2,Fh,Tv⟩ ?_)
      refine Yi (Ii i (by omega)) ?_;refine Xi ⟨i+1,n16⟩ ?_;exact⟨Dl x.length i (by omega),Z7,Z2,Fh,Tv⟩
     have pn:¬(((plc (Cf x s).ver):Int)<((plc x[i].ver):Int)):=pn;refine Xi ⟨[(3,.ref 3 0),(5,.ref 5 0),(9,vi (plc s.ver)),(10,vi (plc (Cf x s).ver)),(70,sl Ah x),(71,vi (x.map Ah).length),(72,vi i)],[(3,.ro (Ae s)),(5,.ro (Ae (Cf x s)))],Aa⟩ (Yi ⟨Z7,Z2,Fh,Tv⟩ ?_)
     refine Yi (Ii i (by omega)) ?_;refine Xi ⟨i+1,n16⟩ ?_;exact⟨Dl x.length i (by omega),Z7,Z2,Fh,Tv⟩
    have aV:¬(((plc (Cf x s).ver):Int)<((plc s.ver):Int)):=aV;refine Xi ⟨[(3,.ref 3 0),(5,.ref 5 0),(9,vi (plc s.ver)),(10,vi (plc (Cf x s).ver)),(70,sl Ah x),(71,vi (x.map Ah).length),(72,vi i)],[(3,.ro (Ae s)),(5,.ro (Ae (Cf x s)))],Aa⟩ (Yi ⟨Z7,Z2,Fh,Tv⟩ ?_)
    refine Yi (Ii i (by omega)) ?_;refine Xi ⟨i+1,n16⟩ ?_;exact⟨Dl x.length i (by omega),Z7,Z2,Fh,Tv⟩
   have md:¬((i:Int)<((x.map Ah).length:Int)):=md;have n16:=MA md;exact .refl _
  have pF:=pM;rw[h8]at pF;refine Xi .pure (Xi _ (Yi pF ?_));refine Yi (Nz rfl) ?_;refine Xi ⟨[(2,.ref 2 0),(3,.ref 3 0),(5,.ref 5 0),(7,.ref 7 0),(8,vb false)],[(2,.ro (Ic x ifs)),(3,.ro (Ae s)),(5,.ro (Ae (Cf x s))),(7,.ro [vs ⟨#[]⟩,vi 0,vi 0,vi 0,.v (.slice none 0 0),vs ⟨#[]⟩,vs ⟨#[]⟩,vs ⟨#[]⟩,vb false])],Aa⟩ (Yi ⟨Z5,Z4,Fh,Tv⟩ ?_)
  refine Xi ⟨[],[],Aa⟩ (Yi ⟨Tv,Tv,Fh,Tv⟩ ?_)
  refine B4 (hF.src h4) (fun r hr=>?_);rw[hr.1]at h8;cases h8
 have h1:sm=false:=h1;refine Xi .pure (Xi _ (Yi (cb h1 RV) ?_));refine Xi ⟨[],[],Aa⟩ (Yi ⟨Tv,Tv,Fh,Tv⟩ ?_)
 exact .refl _
theorem uO(x:List Rl)(ifs:List (List AV))(s:Sl)(h:kp x ifs):PC 4 [Hr x ifs,.agg (Ae s)] (vb true) :=
 qt x ifs s h.lim.ix _ (iU x s) (wk h.lim ifs) (fun q=>nC ifs s ⟨Y2 q,h.lim.x⟩) (wx x ifs _ _ (h.lim.c84 ifs) h.lim.x)
end Go.Eng
