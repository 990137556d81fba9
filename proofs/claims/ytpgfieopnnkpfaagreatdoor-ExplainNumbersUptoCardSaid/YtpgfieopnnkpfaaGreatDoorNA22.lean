/- Lemmas for the claims of this seat, without a condition: part 22 (J1, LayItoa, E1, E2, E3, E4). -/
import Derived.Test.YtpgfieopnnkpfaaGreatDoorNA21
import Derived.Test.YtpgfieopnnkpfaaGreatDoorNA03
import Derived.Test.YtpgfieopnnkpfaaGreatDoorCards
import Derived.Test.YtpgfieopnnkpfaaGreatDoorTie
import Derived.ProofKit
import Derived.OpenShut
import Derived.Deep.DeepHandedRow
import Derived.Lib.LaidTab
import Derived.Stop.LaidErr
import Derived.Shelf.Strconv.Itoa3
import Derived.Room.Shelf.Join48
import Derived.Shelf.Strings.Prefix
import Derived.Ground.NamesProg
import Derived.Lib.AppendIntMem
namespace Go.Proofs.YtpgfieopnnkpfaaGreatDoor.joins
open Go Go.Eng Go.Proofs Go.ChangeShapes Go.WideShapes Go.ChangeAt Go.RowKit

section
variable {H:Type} {enc:TypeId × Value→H} {w:World}
theorem all_le {d:DataW H} {l:List (DataW H)} (h:d ∈ l):Rows.uptoBulk d≤Rows.uptoBulkAll l:=by
 induction l with
 | nil=>cases h
 | cons x r ih =>
  simp only [Rows.uptoBulkAll]
  cases List.mem_cons.1 h with
  | inl e=>subst e; omega
  | inr e=>have:=ih e; omega
theorem one_le (d:DataW H):1≤Rows.uptoBulk d:=by
 cases d with
 | lit l=>cases l <;> simp [Rows.uptoBulk]
 | nil=>simp [Rows.uptoBulk]
 | ptr d=>simp [Rows.uptoBulk]
 | slice elems spare=>simp [Rows.uptoBulk]
 | agg parts=>simp [Rows.uptoBulk]
 | iface t d=>simp [Rows.uptoBulk]
 | map entries=>simp [Rows.uptoBulk]
 | held h=>simp [Rows.uptoBulk]
theorem len_le (l:List (DataW H)):l.length≤Rows.uptoBulkAll l:=by
 induction l with
 | nil=>simp [Rows.uptoBulkAll]
 | cons x r ih=>have:=one_le x; simp only [Rows.uptoBulkAll,List.length_cons]; omega
theorem bulk_ok:BulkOk (H:=H) Rows.uptoBulk where
 slice es sp:=by
  have h1:=len_le es
  refine ⟨by simp only [Rows.uptoBulk]; omega,fun d hd=>?_⟩
  have:=all_le hd
  simp only [Rows.uptoBulk]; omega
 agg ps d hd:=by
  have:=all_le hd
  simp only [Rows.uptoBulk]; omega
 str b:=by simp only [Rows.uptoBulk]; omega
theorem app_all (l r:List (DataW H)):Rows.uptoBulkAll (l++r)=Rows.uptoBulkAll l+Rows.uptoBulkAll r:=by
 induction l with
 | nil=>simp [Rows.uptoBulkAll]
 | cons x l ih=>simp only [List.cons_append,Rows.uptoBulkAll,ih]; omega

abbrev NB:Nat:=1048576
abbrev Op (enc:TypeId × Value→H) (w:World) (t:TypeId) {α:Type} (e:α→List AV) (ok:α→Prop):Prop:=Opens enc Tryz.prog w Rows.uptoBulk NB t e ok
theorem oI:Op enc w 3 (fun n:Int=>[vi n]) (fun _=>True):=(opens_int Tryz.underlying3).to id (fun _ _=>⟨rfl,trivial⟩)
theorem oB:Op enc w 4 (fun b:Bool=>[vb b]) (fun _=>True):=opens_bool Tryz.underlying4
theorem oS:Op enc w 9 (fun s:ByteArray=>[vs s]) (fun s=>s.size≤NB):=opens_string bulk_ok Tryz.underlying9
theorem oVer:Op enc w 83 encVer (fun _=>True) :=
 (opens_struct bulk_ok Tryz.underlying83 (L:=3) (by kernel_rfl) (opensF_cons rfl (n:=1) (by kernel_rfl) oI (opensF_cons rfl (n:=1) (by kernel_rfl) oI (opensF_cons rfl (n:=1) (by kernel_rfl) oI opensF_nil)))).to
  (fun p=>(⟨p.1,p.2.1,p.2.2.1⟩ : Ver)) (fun _ _=>⟨rfl,trivial⟩)
theorem oSpan:Op enc w 85 encSpan (fun _=>True) :=
 (opens_struct bulk_ok Tryz.underlying85 (L:=2) (by kernel_rfl) (opensF_cons rfl (n:=1) (by kernel_rfl) oI (opensF_cons rfl (n:=1) (by kernel_rfl) oI opensF_nil))).to
  (fun p=>(p.1,p.2.1)) (fun _ _=>⟨rfl,trivial⟩)
theorem oSet:Op enc w 27 (fun l:SpanL=>[sl encSpan l]) (fun l=>l.length≤NB) :=
 (opens_slice bulk_ok Tryz.underlying27 (m:=1) (by kernel_rfl) (fun _=>rfl) oSpan).to id (fun _ h=>⟨rfl,h.1⟩)
abbrev OkRq (q:Rq):Prop:=q.path.size≤NB∧q.set.length≤NB
theorem oRq:Op enc w 87 encRq OkRq :=
 (opens_struct bulk_ok Tryz.underlying87 (L:=2) (by kernel_rfl) (opensF_cons rfl (n:=1) (by kernel_rfl) oS (opensF_cons rfl (n:=1) (by kernel_rfl) oSet opensF_nil))).to
  (fun p=>(⟨p.1,p.2.1⟩ : Rq)) (fun _ h=>⟨rfl,h.1,h.2.1⟩)
abbrev OkRqs (l:List Rq):Prop:=l.length≤NB∧∀ q ∈ l,OkRq q
theorem oRqs:Op enc w 43 (fun l:List Rq=>[sl encRq l]) OkRqs :=
 opens_slice bulk_ok Tryz.underlying43 (m:=1) (by kernel_rfl) (fun _=>rfl) oRq
abbrev OkRl (r:Rl):Prop:=r.path.size≤NB∧OkRqs r.reqs
theorem oRl:Op enc w 89 encRl OkRl :=
 (opens_struct bulk_ok Tryz.underlying89 (L:=9) (by kernel_rfl) (opensF_cons rfl (n:=1) (by kernel_rfl) oS (opensF_cons rfl (n:=3) (by kernel_rfl) oVer (opensF_cons rfl (n:=1) (by kernel_rfl) oRqs
  (opensF_cons rfl (n:=1) (by kernel_rfl) oS (opensF_cons rfl (n:=1) (by kernel_rfl) oS (opensF_cons rfl (n:=1) (by kernel_rfl) oS (opensF_cons rfl (n:=1) (by kernel_rfl) oB opensF_nil)))))))).to
  (fun p=>(⟨p.1,p.2.1,p.2.2.1,p.2.2.2.1,p.2.2.2.2.1,p.2.2.2.2.2.1,p.2.2.2.2.2.2.1⟩ : Rl)) (fun _ h=>⟨rfl,h.1,h.2.2.1⟩)
theorem oRls:Op enc w 39 (fun l:List Rl=>[sl encRl l]) (fun l=>l.length≤NB∧∀ r ∈ l,OkRl r) :=
 opens_slice bulk_ok Tryz.underlying39 (m:=8) (by kernel_rfl) (fun _=>rfl) oRl
theorem oIfc:Op enc w 357 (fun s:ByteArray=>[vs s,.junk,.junk,.junk,.junk]) (fun _=>True) :=
 (opens_struct bulk_ok Tryz.underlying357 (L:=5) (by kernel_rfl) (opensF_cons rfl (n:=1) (by kernel_rfl) oS (opensF_cons rfl (n:=1) (by kernel_rfl) (opens_any Tryz.underlying352) (opensF_cons rfl (n:=1) (by kernel_rfl) (opens_any Tryz.underlying353)
  (opensF_cons rfl (n:=1) (by kernel_rfl) (opens_any Tryz.underlying354) (opensF_cons rfl (n:=1) (by kernel_rfl) (opens_any Tryz.underlying355) opensF_nil)))))).to (fun p=>p.1) (fun _ _=>⟨rfl,trivial⟩)
theorem oIfs:Op enc w 40 (fun l:List ByteArray=>[sl (fun s=>[vs s,.junk,.junk,.junk,.junk]) l]) (fun _=>True) :=
 (opens_slice bulk_ok Tryz.underlying40 (m:=4) (by kernel_rfl) (fun _=>rfl) oIfc).to id (fun _ _=>⟨rfl,trivial⟩)
theorem oIx:Op enc w 42 (fun p:List Rl × List (List AV)=>[sl encRl p.1,.slice .none p.2]) (fun p=>p.1.length≤NB∧∀ r ∈ p.1,OkRl r) :=
 (opens_struct bulk_ok Tryz.underlying42 (L:=2) (by kernel_rfl) (opensF_cons rfl (n:=1) (by kernel_rfl) oRls (opensF_cons rfl (n:=1) (by kernel_rfl) oIfs opensF_nil))).to
  (fun p=>(p.1,p.2.1.map (fun s=>[vs s,.junk,.junk,.junk,.junk]))) (fun _ h=>⟨rfl,h.1⟩)
theorem oSl:Op enc w 126 encSl (fun y=>y.path.size≤NB) :=
 (opens_struct bulk_ok Tryz.underlying126 (L:=4) (by kernel_rfl) (opensF_cons rfl (n:=1) (by kernel_rfl) oS (opensF_cons rfl (n:=3) (by kernel_rfl) oVer opensF_nil))).to
  (fun p=>(⟨p.1,p.2.1⟩ : Sl)) (fun _ h=>⟨rfl,h.1⟩)
theorem oSls:Op enc w 63 (fun l:List Sl=>[sl encSl l]) (fun l=>l.length≤NB∧∀ y ∈ l,y.path.size≤NB) :=
 opens_slice bulk_ok Tryz.underlying63 (m:=3) (by kernel_rfl) (fun _=>rfl) oSl
theorem oNf:Op enc w 73 encNf (fun i=>i.path.size≤NB) :=
 (opens_struct bulk_ok Tryz.underlying73 (L:=6) (by kernel_rfl) (opensF_cons rfl (n:=1) (by kernel_rfl) oI (opensF_cons rfl (n:=1) (by kernel_rfl) oS (opensF_cons rfl (n:=1) (by kernel_rfl) oI
  (opensF_cons rfl (n:=1) (by kernel_rfl) oI (opensF_cons rfl (n:=1) (by kernel_rfl) oI (opensF_cons rfl (n:=1) (by kernel_rfl) oI opensF_nil))))))).to
  (fun p=>(⟨p.1,p.2.1,p.2.2.1,p.2.2.2.1,p.2.2.2.2.1,p.2.2.2.2.2.1⟩ : Nf)) (fun _ h=>⟨rfl,h.2.1⟩)
theorem oNfs:Op enc w 32 (fun l:List Nf=>[sl encNf l]) (fun l=>l.length≤NB∧∀ i ∈ l,i.path.size≤NB) :=
 opens_slice bulk_ok Tryz.underlying32 (m:=5) (by kernel_rfl) (fun _=>rfl) oNf
theorem oSk:Op enc w 122 encSk (fun y=>y.path.size≤NB) :=
 (opens_struct bulk_ok Tryz.underlying122 (L:=3) (by kernel_rfl) (opensF_cons rfl (n:=1) (by kernel_rfl) oS (opensF_cons rfl (n:=1) (by kernel_rfl) oI (opensF_cons rfl (n:=1) (by kernel_rfl) oI opensF_nil)))).to
  (fun p=>(⟨p.1,p.2.1,p.2.2.1⟩ : Sk)) (fun _ h=>⟨rfl,h.1⟩)
theorem oSks:Op enc w 64 (fun l:List Sk=>[sl encSk l]) (fun l=>l.length≤NB∧∀ y ∈ l,y.path.size≤NB) :=
 opens_slice bulk_ok Tryz.underlying64 (m:=2) (by kernel_rfl) (fun _=>rfl) oSk
abbrev OkTm (t:Tm):Prop:=t.path.size≤NB∧t.set.length≤NB
theorem oTm:Op enc w 29 encTm OkTm :=
 (opens_struct bulk_ok Tryz.underlying29 (L:=3) (by kernel_rfl) (opensF_cons rfl (n:=1) (by kernel_rfl) oS (opensF_cons rfl (n:=1) (by kernel_rfl) oB (opensF_cons rfl (n:=1) (by kernel_rfl) oSet opensF_nil)))).to
  (fun p=>(⟨p.1,p.2.1,p.2.2.1⟩ : Tm)) (fun _ h=>⟨rfl,h.1,h.2.2.1⟩)
theorem oTms:Op enc w 23 (fun l:List Tm=>[sl encTm l]) (fun l=>l.length≤NB∧∀ t ∈ l,OkTm t) :=
 opens_slice bulk_ok Tryz.underlying23 (m:=2) (by kernel_rfl) (fun _=>rfl) oTm
abbrev OkAn (a:An):Prop:=a.sel.length≤NB∧a.infs.length≤NB∧a.skips.length≤NB
theorem oAn:Op enc w 66 encAn OkAn :=
 (opens_struct bulk_ok Tryz.underlying66 (L:=4) (by kernel_rfl) (opensF_cons rfl (n:=1) (by kernel_rfl) oB (opensF_cons rfl (n:=1) (by kernel_rfl) oSls (opensF_cons rfl (n:=1) (by kernel_rfl) oNfs
  (opensF_cons rfl (n:=1) (by kernel_rfl) oSks opensF_nil))))).to
  (fun p=>(⟨p.1,p.2.1,p.2.2.1,p.2.2.2.1⟩ : An)) (fun _ h=>⟨rfl,h.2.1.1,h.2.2.1.1,h.2.2.2.1.1⟩)
theorem few_of {n:Nat} (h:n≤NB):n≤1073741824:=Nat.le_trans h (by decide)
theorem lim_of {x:List Rl} {roots:List Rq} (h:x.length≤NB∧∀ r ∈ x,OkRl r) (k:OkRqs roots):Lim x roots where
 ix:=few_of h.1
 rs:=few_of k.1
 rel r hr:=⟨few_of (h.2 r hr).2.1,few_of (h.2 r hr).1,fun q hq=>⟨few_of ((h.2 r hr).2.2 q hq).2,few_of ((h.2 r hr).2.2 q hq).1⟩⟩
 rq q hq:=⟨few_of (k.2 q hq).2,few_of (k.2 q hq).1⟩
end

theorem ok_agg {P:Program} {W:World} {base:Nat} {t:TypeId} {v:Value} {fs:Array Field} (hu:P.underlying t=some (.struct fs)) (h:Value.okWide P W .any base t v):∃ cs,v=.agg cs:=by
 unfold Value.okWide at h
 rw [hu] at h
 obtain ⟨cs,e,_⟩:=h
 exact ⟨cs,e⟩
theorem ok_slice {P:Program} {W:World} {base:Nat} {t e:TypeId} {v:Value} (hu:P.underlying t=some (.slice e)) (h:Value.okWide P W .any base t v):v.oneCell'=true:=by
 unfold Value.okWide at h
 rw [hu] at h
 unfold Cell.okWide Cell.ok at h
 rw [hu] at h
 cases v <;> first | rfl | simp at h
theorem ok_int {P:Program} {W:World} {base:Nat} {t:TypeId} {k:IntKind} {v:Value} (hu:P.underlying t=some (.int k)) (h:Value.okWide P W .any base t v):v.oneCell'=true:=by
 unfold Value.okWide at h
 rw [hu] at h
 unfold Cell.okWide Cell.ok at h
 rw [hu] at h
 cases v <;> first | rfl | simp at h
theorem int_of_shape {P:Program} {w:World} {g:Nat} {t:TypeId} {k:IntKind} {zero:Array Value} (h:w.ShapedOpen P) (hg:g<P.globals.size)
  (h0:((begin P (fun _ _=>0) default).world.heap[g]?).bind Obj.row?=some (zero,t)) (hz:zero.size=1)
  (hb:P.buildable t=true) (hc:P.cellTypes P.depth t=some [t]) (hu:P.underlying t=some (.int k)):∃ p,w.cell? ⟨g,0,none⟩=some (.int k p):=by
 obtain ⟨cs,hh,hs,hr⟩:=h.1 g zero t hg h0
 obtain ⟨ts,hts,_,hall⟩:=hr hb
 rw [hc] at hts
 cases hts
 have h1:0<cs.size:=by omega
 obtain ⟨u,hu',hok⟩:=hall 0 cs[0] (by simp [h1])
 have:u=t:=by simpa using hu'.symm
 subst this
 have hcell:w.cell? ⟨g,0,none⟩=some cs[0]:=by simp [World.cell?,hh,h1]
 rw [hcell]
 unfold Cell.ok at hok
 rw [hu] at hok
 cases hv:cs[0] <;> rw [hv] at hok <;> simp at hok
 obtain ⟨rfl,_⟩:=hok
 exact ⟨_,rfl⟩
theorem maxLen_cell {W:World} (h:W.ShapedOpen Tryz.prog):∃ m,W.cell? ⟨0,0,none⟩=some (.int .i64 m) :=
 int_of_shape (t:=3) (zero:=#[.int .i64 0]) h (of_decide_eq_true (by kernel_rfl)) (by kernel_rfl) rfl (by kernel_rfl) (by kernel_rfl) Tryz.underlying3

def Start (W:World):Prop:=(∃ m,W.cell? ⟨0,0,none⟩=some (.int .i64 m))∧∀ x ∈ gTab,x.1<W.heap.size∧W.cell? ⟨x.1,x.2.1,none⟩=x.2.2
theorem start_of {W : World} {r : List (String × DataW Unit)} {a b : String × DataW Unit} (h : W.ShapedOpen Tryz.prog) (hl : laidMet Tryz.prog (a :: b :: ("internal/strconv.uint64pow10", Rows.laid_internal_strconv_uint64pow10) :: r) W) : Start W := by
 refine ⟨maxLen_cell h,?_⟩
 have ht : Go.Lib.TabIs Tryz.prog W "internal/strconv.uint64pow10" .u64 ((List.range 20).map fun i => ((10 ^ i : Nat) : Int)) :=
  Go.Lib.tabIs_of_head (g:=3) (t:=296) (e:=239) (n:=20) (by kernel_rfl) (by kernel_rfl) (by kernel_rfl) (by kernel_rfl) (by kernel_rfl) (by kernel_rfl) hl.tail.tail
 have hc := fun i => World.var?_cell (P := Tryz.prog) (n := "internal/strconv.uint64pow10") (g := 3) (by kernel_rfl) ht i
 have h0:3<W.heap.size:=cell_lt (v:=.int .u64 1) ((hc 0).trans rfl)
 intro x hx
 rcases List.mem_cons.1 hx with rfl | hx
 ·exact ⟨h0,(hc 20).trans rfl⟩
 ·obtain ⟨i,hi,rfl⟩:=List.mem_map.1 hx
  have hi:=List.mem_range.1 hi
  refine ⟨h0,(hc i).trans ?_⟩
  simp [hi]

def Still (W W' : World):Prop:=W'.os=W.os∧W'.output=W.output∧W.heap.size≤W'.heap.size∧∀ b,b<W.heap.size→W'.heap[b]?=W.heap[b]?
theorem run_true {f:Nat} {args:List AV} {vals:Array Value} {W:World} (hc:PC f args (vb true)) (hM:Start W) (hs:vals.size=args.length)
  (hr:∀ (i:Nat) (av:AV) (x:Value),args[i]?=some av→vals[i]?=some x→Rep (g00 W) W NoU av x):Calls Tryz.prog f vals W fun e W'=>e=.returned (.bool true)∧Still W W':=by
 refine (hc.2 (g00 W) W vals hs (fun i av x q1 q2=>(hr i av x q1 q2).up _) (inv00 hM.1 hM.2)).mono fun e W' ⟨v,r,h',g',e1,e2,e3,e4,_⟩=>?_
 subst e1
 obtain ⟨rfl,rfl⟩:=e2
 obtain rfl:=e3.v_eq
 exact ⟨rfl,e4.os,e4.output,e4.size,fun b hb=>e4.frame b hb (fun r h=>h.elim)⟩
theorem Still.kept {W W' : World} (h:Still W W') (may:MemPlace→Prop):W.keptBut W' may:=by
 refine ⟨h.1,h.2.1,fun i hi=>?_⟩
 rw [h.2.2.2 i hi]
 cases hh:W.heap[i]? with
 | none=>rfl
 | some o=>cases o <;> simp
theorem Still.same {W W' : World} (h:Still W W') {p:MemPlace} (hp:p.block<W.heap.size):W.sameAt W' p:=by
 cases p with
 | cell b off =>
  show W'.cell? ⟨b,off,none⟩=W.cell? ⟨b,off,none⟩
  unfold World.cell?
  rw [h.2.2.2 b hp]
 | map b=>exact h.2.2.2 b hp
theorem kids:Kids Tryz.prog (· < Tryz.prog.types.size):=kids_rows (by kernel_rfl) (by kernel_rfl)
theorem full:∀ t e,t<Tryz.prog.types.size→Tryz.prog.underlying t=some (.slice e)→0<Tryz.prog.cellsOf e:=slices_full_of Tryz.prog (by kernel_rfl)
theorem carry {H:Type} {enc:TypeId × Value→H} {W W' : World} (h:Still W W'):∀ {ts:List TypeId} {vs:List Value} {ds:List (DataW H)} {ps:List MemPlace},DataW.TrodAll enc Tryz.prog W 0 (fun _=>true) true ts vs ds ps→DataW.TrodAll enc Tryz.prog W' 0 (fun _=>true) true ts vs ds ps
 | [],[],[],_,e=>e
 | t :: ts,v :: vs,d :: ds,ps,k=>by
  have hlt:=k.lt
  obtain ⟨p,q,⟨n,h1⟩,h2,rfl⟩:=k
  exact ⟨p,q,⟨n,DataW.trod_carry n _ _ _ h1 (fun x hx=>h.same (hlt x (List.mem_append_left _ hx)))⟩,carry h h2,rfl⟩
 | [],[],_ :: _,_,k=>k.elim
 | [],_ :: _,_,_,k=>k.elim
 | _ :: _,[],_,_,k=>k.elim
 | _ :: _,_ :: _,[],_,k=>k.elim
theorem post_true {H:Type} {enc:TypeId × Value→H} {W W' : World} {f:Func} {s:ChangeSpec} {args:Array Value} {ds:List (DataW H)} {before:List MemPlace} (hst:Still W W') (hv:s.vars=[])
  (hW:DataW.Whole enc Tryz.prog f.params.toList s.vars false W args.toList ds [] before) (hr:f.resultTypes=#[4]) (hT:∀ t ∈ f.params.toList,t<Tryz.prog.types.size) (hs:s.fn H ds={ results:=[.lit (.bool true)],args:=ds }) :
  s.post enc Tryz.prog f false true false false W args (.bool true) W':=by
 have hW0:=hW
 obtain ⟨p,q,hA,hV,rfl,hz,_⟩:=hW
 rw [hv] at hV
 have hq:q=[]:=hV
 subst hq
 have hlt:=hW0.lt
 have hs2:s.fn H (ds++[])={ results:=[.lit (.bool true)],args:=ds }:=by rw [List.append_nil]; exact hs
 refine ⟨ds,[],p++[],[],p,[],hW0,?_,?_,?_,hst.kept _,fun h=>by cases h⟩
 ·rw [hs2,hr]
  exact ⟨[],[],⟨1,by rw [show (Value.bool true).cells.toList=[.bool true] from rfl,DataW.trod_step]; unfold DataW.trodStep; rw [Tryz.underlying4]⟩,rfl,rfl⟩
 ·rw [hs2]
  exact (carry hst hA).respare kids full hT (fun x hx=>by simpa using hlt x (List.mem_append_left _ hx))
 ·rw [hs2,hv]; rfl
end Go.Proofs.YtpgfieopnnkpfaaGreatDoor.joins

namespace Go.Proofs
open Go.Shelf
def Tryz.layItoa_ren:Go.Shelf.Ren:=⟨fun | 171=>39 | 243=>91 | 246=>154 | 283=>222 | 284=>223 | 285=>224 | 286=>225 | 129=>195 | 317=>279 | 318=>280 | 319=>281 | 320=>282 | 337=>324 | 338=>325 | n=>n,fun | 3=>3 | 9=>9 | 2=>2 | 4=>4 | 171=>255 | 0=>0 | 53=>239 | 37=>144 | 5=>5 | 173=>257 | 212=>296 | 51=>196 | 20=>20 | 213=>297 | 46=>159 | 232=>330 | 233=>331 | n=>n,fun | 17=>3 | 18=>4 | 19=>5 | n=>n⟩
theorem Tryz.layItoa:Go.Proofs.LaysM.n171 Tryz.prog Tryz.layItoa_ren:={
 mixed:=by kernel_rfl
 f129:=Tryz.func195.trans (congrArg some (by kernel_rfl))
 f171:=Tryz.func39.trans (congrArg some (by kernel_rfl))
 f243:=Tryz.func91.trans (congrArg some (by kernel_rfl))
 f246:=Tryz.func154.trans (congrArg some (by kernel_rfl))
 f283:=Tryz.func222.trans (congrArg some (by kernel_rfl))
 f284:=Tryz.func223.trans (congrArg some (by kernel_rfl))
 f285:=Tryz.func224.trans (congrArg some (by kernel_rfl))
 f286:=Tryz.func225.trans (congrArg some (by kernel_rfl))
 f317:=Tryz.func279.trans (congrArg some (by kernel_rfl))
 f318:=Tryz.func280.trans (congrArg some (by kernel_rfl))
 f319:=Tryz.func281.trans (congrArg some (by kernel_rfl))
 f320:=Tryz.func282.trans (congrArg some (by kernel_rfl))
 f337:=Tryz.func324.trans (congrArg some (by kernel_rfl))
 f338:=Tryz.func325.trans (congrArg some (by kernel_rfl))
 t0:=Tryz.underlying0
 a0:=Tryz.isAgg0
 z0:=Tryz.sizeOf0
 v0:=Tryz.zeroValue0
 t2:=Tryz.underlying2
 a2:=Tryz.isAgg2
 z2:=Tryz.sizeOf2
 v2:=Tryz.zeroValue2
 t3:=Tryz.underlying3
 a3:=Tryz.isAgg3
 z3:=Tryz.sizeOf3
 v3:=Tryz.zeroValue3
 t4:=Tryz.underlying4
 a4:=Tryz.isAgg4
 z4:=Tryz.sizeOf4
 v4:=Tryz.zeroValue4
 t5:=Tryz.underlying5
 a5:=Tryz.isAgg5
 z5:=Tryz.sizeOf5
 v5:=Tryz.zeroValue5
 t9:=Tryz.underlying9
 a9:=Tryz.isAgg9
 z9:=Tryz.sizeOf9
 v9:=Tryz.zeroValue9
 t20:=Tryz.underlying20
 a20:=Tryz.isAgg20
 z20:=Tryz.sizeOf20
 v20:=Tryz.zeroValue20
 t37:=Tryz.underlying144
 a37:=Tryz.isAgg144
 z37:=Tryz.sizeOf144
 v37:=Tryz.zeroValue144
 t46:=Tryz.underlying159
 a46:=Tryz.isAgg159
 z46:=Tryz.sizeOf159
 v46:=Tryz.zeroValue159
 t51:=Tryz.underlying196
 a51:=Tryz.isAgg196
 z51:=Tryz.sizeOf196
 v51:=Tryz.zeroValue196
 t53:=Tryz.underlying239
 a53:=Tryz.isAgg239
 z53:=Tryz.sizeOf239
 v53:=Tryz.zeroValue239
 t171:=Tryz.underlying255
 a171:=Tryz.isAgg255
 z171:=Tryz.sizeOf255
 v171:=Tryz.zeroValue255
 t173:=Tryz.underlying257
 a173:=Tryz.isAgg257
 z173:=Tryz.sizeOf257
 v173:=Tryz.zeroValue257
 t212:=Tryz.underlying296
 a212:=Tryz.isAgg296
 z212:=Tryz.sizeOf296
 v212:=Tryz.zeroValue296
 t213:=Tryz.underlying297
 a213:=Tryz.isAgg297
 z213:=Tryz.sizeOf297
 t232:=Tryz.underlying330
 a232:=Tryz.isAgg330
 z232:=Tryz.sizeOf330
 v232:=Tryz.zeroValue330
 t233:=Tryz.underlying331
 a233:=Tryz.isAgg331
 z233:=Tryz.sizeOf331
 v233:=Tryz.zeroValue331
 g17:=by kernel_rfl
 g18:=by kernel_rfl
 g19:=by kernel_rfl
 i0:=by kernel_rfl
 i2:=by kernel_rfl
 i3:=by kernel_rfl
 i4:=by kernel_rfl
 i5:=by kernel_rfl
 i9:=by kernel_rfl
 i20:=by kernel_rfl
 i37:=by kernel_rfl
 i46:=by kernel_rfl
 i51:=by kernel_rfl
 i53:=by kernel_rfl
 i171:=by kernel_rfl
 i173:=by kernel_rfl
 i212:=by kernel_rfl
 i232:=by kernel_rfl
 i233:=by kernel_rfl
 m17:=by kernel_rfl
 m18:=by kernel_rfl
 m19:=by kernel_rfl }
def Tryz.layJoin_ren:Go.Shelf.Ren:=⟨fun | 156=>49 | 165=>105 | 166=>106 | 169=>107 | 240=>166 | 241=>167 | 276=>234 | 277=>235 | n=>n,fun | 31=>45 | 9=>9 | 3=>3 | 4=>4 | 0=>0 | 20=>20 | 72=>146 | 76=>80 | 70=>143 | 37=>144 | 75=>79 | 127=>208 | 164=>268 | 5=>5 | 80=>148 | n=>n,fun | n=>n⟩
theorem Tryz.layJoin:Go.Proofs.Lays.n156 Tryz.prog Tryz.layJoin_ren:={
 mixed:=by kernel_rfl
 f156:=Tryz.func49.trans (congrArg some (by kernel_rfl))
 f165:=Tryz.func105.trans (congrArg some (by kernel_rfl))
 f166:=Tryz.func106.trans (congrArg some (by kernel_rfl))
 f169:=Tryz.func107.trans (congrArg some (by kernel_rfl))
 f240:=Tryz.func166.trans (congrArg some (by kernel_rfl))
 f241:=Tryz.func167.trans (congrArg some (by kernel_rfl))
 f276:=Tryz.func234.trans (congrArg some (by kernel_rfl))
 f277:=Tryz.func235.trans (congrArg some (by kernel_rfl))
 t0:=Tryz.underlying0
 a0:=Tryz.isAgg0
 z0:=Tryz.sizeOf0
 v0:=Tryz.zeroValue0
 t3:=Tryz.underlying3
 a3:=Tryz.isAgg3
 z3:=Tryz.sizeOf3
 v3:=Tryz.zeroValue3
 t4:=Tryz.underlying4
 a4:=Tryz.isAgg4
 z4:=Tryz.sizeOf4
 v4:=Tryz.zeroValue4
 t9:=Tryz.underlying9
 a9:=Tryz.isAgg9
 z9:=Tryz.sizeOf9
 v9:=Tryz.zeroValue9
 t20:=Tryz.underlying20
 a20:=Tryz.isAgg20
 z20:=Tryz.sizeOf20
 v20:=Tryz.zeroValue20
 t31:=Tryz.underlying45
 a31:=Tryz.isAgg45
 z31:=Tryz.sizeOf45
 v31:=Tryz.zeroValue45
 t37:=Tryz.underlying144
 a37:=Tryz.isAgg144
 z37:=Tryz.sizeOf144
 v37:=Tryz.zeroValue144
 t70:=Tryz.underlying143
 a70:=Tryz.isAgg143
 z70:=Tryz.sizeOf143
 v70:=Tryz.zeroValue143
 t72:=Tryz.underlying146
 a72:=Tryz.isAgg146
 z72:=Tryz.sizeOf146
 v72:=Tryz.zeroValue146
 t75:=Tryz.underlying79
 a75:=Tryz.isAgg79
 z75:=Tryz.sizeOf79
 v75:=Tryz.zeroValue79
 t76:=Tryz.underlying80
 a76:=Tryz.isAgg80
 z76:=Tryz.sizeOf80
 v76:=Tryz.zeroValue80
 t127:=Tryz.underlying208
 a127:=Tryz.isAgg208
 z127:=Tryz.sizeOf208
 v127:=Tryz.zeroValue208
 t164:=Tryz.underlying268
 a164:=Tryz.isAgg268
 z164:=Tryz.sizeOf268
 v164:=Tryz.zeroValue268 }
theorem Tryz.layJoinX:Builder.Extra Tryz.prog Tryz.layJoin_ren:={
 sizeBuilder:=by kernel_rfl
 liesBuilder:=by kernel_rfl
 t5:=Tryz.underlying5
 a5:=Tryz.isAgg5
 z5:=Tryz.sizeOf5
 v5:=Tryz.zeroValue5
 infoByte:=by kernel_rfl
 cellsByte:=by kernel_rfl
 sizeByte:=by kernel_rfl
 neB5:=by decide }
def Tryz.layHasP_ren:Go.Shelf.Ren:=⟨fun | 99=>38 | 206=>90 | n=>n,fun | 9=>9 | 4=>4 | 3=>3 | n=>n,fun | n=>n⟩
theorem Tryz.layHasP:Go.Proofs.Lays.n99 Tryz.prog Tryz.layHasP_ren:={
 mixed:=by kernel_rfl
 f99:=Tryz.func38.trans (congrArg some (by kernel_rfl))
 f206:=Tryz.func90.trans (congrArg some (by kernel_rfl))
 t3:=Tryz.underlying3
 a3:=Tryz.isAgg3
 z3:=Tryz.sizeOf3
 v3:=Tryz.zeroValue3
 t4:=Tryz.underlying4
 a4:=Tryz.isAgg4
 z4:=Tryz.sizeOf4
 v4:=Tryz.zeroValue4
 t9:=Tryz.underlying9
 a9:=Tryz.isAgg9
 z9:=Tryz.sizeOf9
 v9:=Tryz.zeroValue9 }
end Go.Proofs

namespace Go.Eng
open Go.Proofs Go.RowKit
theorem below_fin {g:Gh} {w w' : World} {x:Value} (hI:Inv w g hfree hfree g w) (q:Below w.heap.size w w') :
  ∃ v r h' g',Ending.returned x=.returned v∧(r=.v x∧h'=hfree)∧Rep g' w' (used h') r v∧Inv w g hfree h' g' w'∧Le hfree g w h' g' w':=by
 have hK:Keeps g w g w':=fun b o hb=>by
  have hlt:=hI.slt b o hb;exact ⟨hb,by simp only [World.cell?,q.block b hlt],fun es ck he=>(q.block b hlt).trans he⟩
 exact ⟨x,.v x,hfree,g,rfl,Zr,.v _ _,⟨q.os,q.tape,q.output,q.size,fun b hb _=>q.block b hb,fun b o hs=>Nat.lt_of_lt_of_le (hI.slt b o hs) q.size,fun _=>Tv,fun _ _ _ h=>h.elim,fun _ _ h=>h.elim,fun b o hs=>.inl hs,hI.glob.keep hK⟩,⟨.refl _ _,fun _ h=>h,hK⟩⟩
theorem pow_named : Tryz.prog.globalNamed "internal/strconv.uint64pow10" = some 3 := by decide +kernel
theorem tab_is {w : World} (h : ∀ x ∈ gTab, w.cell? ⟨x.1, x.2.1, none⟩ = x.2.2) : Go.Lib.TabIs Tryz.prog w "internal/strconv.uint64pow10" .u64 Go.Lib.pow10Tab := by
 unfold Go.Lib.TabIs World.var?;rw [pow_named];simp only [Option.bind_some];have h20:=h (3,20,none) (List.mem_cons_self ..);have hi:∀ i,i<20→w.cell? ⟨3,i,none⟩=some (.int .u64 ((10 ^ i:Nat):Int)):=fun i hi=>h (3,i,some (.int .u64 ((10 ^ i:Nat):Int))) (List.mem_cons_of_mem _ (List.mem_map.2 ⟨i,List.mem_range.2 hi,rfl⟩));have h0:=hi 0 (by decide);unfold World.cell? at h0 h20 hi;cases e:w.heap[3]? with
 | none=>rw [e] at h0; cases h0
 | some o =>
  cases o with
  | cells cs E fr =>
   simp only [e,Option.isSome_none,Bool.false_eq_true,if_false] at h20 hi;have hs:cs.size=20:=by
    have h19:=hi 19 (by decide)
    have:=(Array.getElem?_eq_some_iff.1 h19).1
    have:=Array.getElem?_eq_none_iff.1 h20
    omega
   show some cs=_
   congr 1
   apply Array.ext
   ·simp [hs,Go.Lib.pow10Tab]
   ·intro i h1 h2
    have:=hi i (by omega)
    rw [Array.getElem?_eq_getElem h1] at this;rw [Option.some.inj this];simp [Go.Lib.pow10Tab]
  | _=>rw [e] at h0; simp at h0
theorem e39 (n:Int) (h:InI64 n):PC 39 [vi n] (vs (itB n)):=by
 unfold InI64 at h;refine pcall_below [.int .i64 n] (.string (itB n)) (ent 39 Tryz.func39 (by kernel_rfl) rfl) rfl (fun g w=>.v _ _) fun w _ ht=>?_;refine (Any.strconv_Itoa Tryz.layItoa n h.1 (by omega) w (tab_is ht)).mono ?_
 rintro e w' ⟨rfl,k,os,rfl⟩
 exact ⟨rfl,Go.Lib.below_grow _ _ (Nat.le_refl _) _ _⟩
abbrev joinN (sep:ByteArray) (l:List ByteArray):Nat:=(joinB sep l).data.toList.length
theorem e49 (l:List ByteArray) (sep:ByteArray) (hl:l.length≤1073741824) (hj:joinN sep l≤281474976710656):PC 49 [sl encStr l,vs sep] (vs (joinB sep l)):=by
 refine ⟨ent 49 Tryz.func49 (by kernel_rfl) rfl,fun g w us hs hv hI=>?_⟩
 match us,hs,hv with
 | ⟨[v0,v1]⟩,_,hv =>
  have r0:Rep g w (used hfree) (.slice .none (l.map encStr)) v0:=hv 0 _ v0 rfl rfl;have r1:=(hv 1 _ v1 rfl rfl).v_eq;subst r1;have hj:(Go.Lib.join (l.map (·.data.toList)) sep.data.toList).length≤281474976710656:=by simpa [joinN,joinB] using hj
  generalize hes:l.map encStr=es at r0;have fin:∀ {e:Ending} {w' : World},e=.returned (.string (joinB sep l))∧Below w.heap.size w w'→∃ v r h' g',e=.returned v∧(r=vs (joinB sep l)∧h'=hfree)∧Rep g' w' (used h') r v∧Inv w g hfree h' g' w'∧Le hfree g w h' g' w':=by
   rintro e w' ⟨rfl,q⟩
   exact below_fin hI q
  cases r0 with
  | snil _ a cap =>
   have:l=[]:=by simpa using hes
   subst this;refine (Any.strings_Join_none Tryz.layJoin Tryz.layJoinX a cap sep w).mono fun e w' ⟨h1,h2⟩=>fin ⟨h1,?_⟩;subst h2; exact .refl _ _
  | slice _ _ b off sz cap val hc hsz hcell hrep =>
   subst hes;cases l with
   | nil=>exact (Any.strings_Join_none Tryz.layJoin Tryz.layJoinX (some ⟨b,off,none⟩) cap sep w).mono fun e w' ⟨h1,h2⟩=>fin ⟨h1,h2▸.refl _ _⟩
   | cons x r =>
    have h1:sz=1:=(hsz 0 (encStr x) rfl).symm;subst h1;have hcells:∀ (j:Nat) y,(x :: r)[j]?=some y→g.S b (off+j)∧w.cell? ⟨b,off+j,none⟩=some (.string y):=fun j y hy=>by
     have e1:((x :: r).map encStr)[j]?=some (encStr y):=by rw [List.getElem?_map,hy]; rfl
     obtain ⟨q1,q2,_⟩:=hcell j _ 0 (vs y) e1 rfl
     have:=(hrep j _ 0 (vs y) e1 rfl).v_eq
     rw [this] at q2;simp only [Nat.mul_one,Nat.add_zero] at q1 q2;exact ⟨q1,q2⟩
    have hb:b<w.heap.size:=hI.slt b _ (hcells 0 x rfl).1
    have:=Any.strings_Join_48 Tryz.layJoin Tryz.layJoinX b off cap (x :: r) sep w (fun j y hy=>(hcells j y hy).2) hb (by omega) (by simpa using hc) hj
    rw [Lm];exact this.mono fun e w' h=>fin h
end Go.Eng

namespace Go.Eng
open Go.Proofs
abbrev wv (v:Ver) (i:Nat):List ByteArray:=(List.range i).map fun j=>itB (part v j)
theorem valid_part {v:Ver} (h:validB v=true):∀ i,i<3→0≤part v i∧part v i≤999
 | 0,_=>by have:=valid_place h; exact ⟨this.1,this.2.1⟩
 | 1,_=>by have:=valid_place h; exact ⟨this.2.2.1,this.2.2.2.1⟩
 | 2,_=>by have:=valid_place h; exact ⟨this.2.2.2.2.1,this.2.2.2.2.2⟩
 | _+3,h=>by omega
theorem head_part (v:Ver) (i:Nat) (h:i<3) (K:AV→Prop):headK (([vi v.a,vi v.b,vi v.c]).drop ((i:Int).toNat*1)) K=K (vi (part v i)):=by
 match i,h with
 | 0,_=>rfl
 | 1,_=>rfl
 | 2,_=>rfl
 | _+3,h=>omega
theorem wv_succ (v:Ver) (i:Nat):wv v (i+1)=wv v i++[itB (part v i)]:=by unfold wv; rw [List.range_succ,List.map_append]; rfl
theorem wv_join (v:Ver):joinB bDot (wv v 3)=verT v.a v.b v.c:=verT_join v.a v.b v.c
theorem wv_bound (v:Ver) (h:validB v=true):joinN bDot (wv v 3)≤281474976710656:=by
 unfold joinN;rw [wv_join]
 have:=valid_place h
 have:=verT_size (a:=v.a) (b:=v.b) (c:=v.c) (by omega) (by omega) (by omega)
 have e:(verT v.a v.b v.c).data.toList.length=(verT v.a v.b v.c).size:=rfl;omega
def verE (v:Ver):Int:=if validB v then 0 else 2
abbrev verR (v:Ver):AV:=.tup [vs (verF v),vi (verE v)]
def atV (m p:Int):Ver:=if 0≤p∧p<1000000∧validB ⟨m,p / 1000,p % 1000⟩=true then ⟨m,p / 1000,p % 1000⟩ else ⟨0,0,0⟩
def atE (m p:Int):Int:=if 0≤p∧p<1000000∧validB ⟨m,p / 1000,p % 1000⟩=true then 0 else 2
theorem e78 (v:Ver):PC 78 [.agg (encVer v)] (verR v):=by
 refine Ps ⟨[],[(4,1)],[],[],[],[],[],[],[],[],[]⟩ Tryz.func78 rfl (Nz rfl) ?_;refine Yi (Nz rfl) ?_;refine Or.elim (Bt (validB v)) (fun h1=>?_) (fun h1=>?_)
 ·have h1:(validB v)=true:=h1;have hc2:=(c100 v);rw [show (validB v)=true from h1] at hc2;refine Xi .pure (Xi _ (Yi hc2 ?_));refine Yi (Nz rfl) ?_;refine Xi .pure (Xi _ (Yi (c138 v) ?_));refine Xi {i:Nat // i≤3} (Xi (fun q=>⟨[(4,.slice (.id 4 1) ((wv v q.1).map encStr)),(11,.agg [vi v.a,vi v.b,vi v.c]),(12,vi q.1)],[(4,.tok 1 q.1)],hfree⟩) (Xi (fun q=>3 - q.1) (Yi (Xi ⟨0,by decide⟩ ?_) ?_)))
  ·exact ⟨Z3,Z1,Fh,Tv⟩
  intro ⟨i,i1⟩;have i1:i≤3:=i1;have hrl:(List.range i).length=i:=List.length_range;refine Yi (fun h3=>?_) (fun h3=>?_)
  ·have h3:(i:Int)<(3:Int):=h3;have hi3:i<3:=by omega
   refine Yi ⟨by show (0:Int)≤i; omega,by show (i:Int)<3; omega⟩ ?_;refine (head_part v i hi3 _).mpr ?_;refine Xi .pure (Xi _ (Yi (e39 (part v i) (by have q:=valid_part h1 i hi3; unfold InI64; omega)) ?_));have b4:AllLen 1 [[vs (itB (part v i))]]∧((wv v i).map encStr).length=i∧(((wv v i).map encStr).length+([[vs (itB (part v i))]]:List (List AV)).length)*16≤140737488355328∧((wv v i).map encStr).length+([[vs (itB (part v i))]]:List (List AV)).length≤9223372036854775807:=⟨⟨rfl,trivial⟩,(by simp),(by simp only [Lm,List.length_cons,List.length_nil]; omega),(by simp only [Lm,List.length_cons,List.length_nil]; omega)⟩;refine Yi b4 ?_;refine Yi (Ii i (by omega)) ?_;refine Xi ⟨i+1,by omega⟩ ?_;exact ⟨Dl 3 i (by omega),⟨⟨(show AV.slice (.id 4 1) ((wv v i).map encStr++[[vs (itB (part v i))]])=.slice (.id 4 1) ((wv v (i+1)).map encStr) by rw [wv_succ,List.map_append]; rfl),rfl⟩,Zr,Zr,Tv⟩,⟨⟨(show HO.tok 1 (((wv v i).map encStr).length+([[vs (itB (part v i))]]:List (List AV)).length)=.tok 1 (i+1) by simp),rfl⟩,Tv⟩,Fh,Tv⟩
  have h3:¬ ((i:Int)<(3:Int)):=h3;have hi3:i=3:=by omega
  have e49v:=e49 (wv v 3) bDot (by show (3:Nat)≤_; decide) (wv_bound v h1);rw [← hi3] at e49v;refine Xi .pure (Xi _ (Yi e49v ?_));exact .of_eq (show AV.tup [vs (joinB bDot (wv v i)),vi 0]=.tup [vs (verF v),vi (verE v)] by rw [hi3,wv_join]; unfold verF verE; rw [h1]; rfl)
 have h1:(validB v)=false:=h1;have hc7:=(c100 v);rw [show (validB v)=false from h1] at hc7;refine Xi .pure (Xi _ (Yi hc7 ?_));exact .of_eq (show AV.tup [vs ⟨#[]⟩,vi 2]=.tup [vs (verF v),vi (verE v)] by unfold verF verE; rw [h1]; rfl)
theorem e130 (m p:Int) (hp:InI64 p):PC 130 [vi m,vi p] (.tup [.agg (encVer (atV m p)),vi (atE m p)]):=by
 have hp : -9223372036854775808≤p∧p<9223372036854775808:=hp;refine Ps ⟨[],[],[],[],[],[],[],[],[],[],[]⟩ Tryz.func130 rfl (Nz rfl) ?_;refine Yi (fun h1=>?_) (fun h1=>?_)
 ·have h1:(p:Int)<(0:Int):=h1;refine Yi (Nz rfl) ?_;refine Yi (Nz rfl) ?_;exact .of_eq (show AV.tup [.agg [vi 0,vi 0,vi 0],vi 2]=.tup [.agg (encVer (atV m p)),vi (atE m p)] by unfold atV atE; rw [if_neg (fun h=>by omega),if_neg (fun h=>by omega)])
 have h1:¬ ((p:Int)<(0:Int)):=h1;refine Yi (fun h3=>?_) (fun h3=>?_)
 ·have h3:(1000000:Int)≤(p:Int):=h3;refine Yi (Nz rfl) ?_;refine Yi (Nz rfl) ?_;exact .of_eq (show AV.tup [.agg [vi 0,vi 0,vi 0],vi 2]=.tup [.agg (encVer (atV m p)),vi (atE m p)] by unfold atV atE; rw [if_neg (fun h=>by omega),if_neg (fun h=>by omega)])
 have h3:¬ ((1000000:Int)≤(p:Int)):=h3;refine Yi ⟨by omega,by omega,(by show InI64 (p); unfold InI64; omega)⟩ ?_;refine Yi ⟨by omega,by omega⟩ ?_;refine Yi (Nz rfl) ?_;refine Yi (Nz rfl) ?_;refine Or.elim (Bt (validB ⟨m,p / 1000,p % 1000⟩)) (fun h5=>?_) (fun h5=>?_)
 ·have h5:(validB ⟨m,p / 1000,p % 1000⟩)=true:=h5;have hc6:=(c100 ⟨m,p / 1000,p % 1000⟩);rw [show (validB ⟨m,p / 1000,p % 1000⟩)=true from h5] at hc6;refine Xi .pure (Xi _ (Yi hc6 ?_));refine Yi (Nz rfl) ?_;refine Yi (Nz rfl) ?_;refine Yi (Nz rfl) ?_;exact .of_eq (show AV.tup [.agg [vi m,vi (p / 1000),vi (p % 1000)],vi 0]=.tup [.agg (encVer (atV m p)),vi (atE m p)] by unfold atV atE; rw [if_pos ⟨by omega,by omega,h5⟩,if_pos ⟨by omega,by omega,h5⟩])
 have h5:(validB ⟨m,p / 1000,p % 1000⟩)=false:=h5;have hc8:=(c100 ⟨m,p / 1000,p % 1000⟩);rw [show (validB ⟨m,p / 1000,p % 1000⟩)=false from h5] at hc8;refine Xi .pure (Xi _ (Yi hc8 ?_));refine Yi (Nz rfl) ?_;refine Yi (Nz rfl) ?_;exact .of_eq (show AV.tup [.agg [vi 0,vi 0,vi 0],vi 2]=.tup [.agg (encVer (atV m p)),vi (atE m p)] by unfold atV atE; rw [if_neg (fun h=>by rw [h5] at h; exact absurd h.2.2 (by decide)),if_neg (fun h=>by rw [h5] at h; exact absurd h.2.2 (by decide))])
theorem e161 (m p:Int) (hp:InI64 p):PC 161 [vi p,.cptr [vi m]] (vs (verF (atV m p))):=by
 refine Ps ⟨[],[],[],[],[],[],[],[],[],[],[]⟩ Tryz.func161 rfl (Nz rfl) ?_;refine Xi .pure (Xi _ (Yi (e130 m p hp) ?_));refine Yi (Nz rfl) ?_;refine Yi (Nz rfl) ?_;refine Xi .pure (Xi _ (Yi (e78 (atV m p)) ?_));exact .refl _
end Go.Eng

namespace Go.Eng
open Go.Proofs
theorem cat_ok {a b:ByteArray} (ha:a.size≤4000000000000000000) (hb:b.size≤4000000000000000000):((a.size+b.size:Nat):Int)≤9223372036854775807:=by omega
theorem canonF_lt:∀ {l:SpanL} {lo:Int},CanonF lo l→∀ x ∈ l,x.1<x.2:=by
 intro l
 induction l with
 | nil=>intro lo _ x hx; cases hx
 | cons y l ih =>
  intro lo h x hx;obtain ⟨h1,h2,h3,h4⟩:=h;rcases List.mem_cons.1 hx with rfl | hx
  ·omega
  ·exact ih h4 x hx
theorem canon_at (s:SpanL) (i:Nat) (h:i<(canon s).length):(0≤(canon s)[i].1∧(canon s)[i].1<(canon s)[i].2)∧(canon s)[i].2≤1000000:=by
 have h1:=canon_rng (canon_canon s) _ (List.getElem_mem h);have h2:=canonF_lt (canon_canon s) _ (List.getElem_mem h);omega
theorem fmt_at {m p:Int} (hm:0≤m∧m≤999) (hp:0≤p∧p<1000000):verF (atV m p)=plcT m p:=by
 have hv:validB ⟨m,p / 1000,p % 1000⟩=true:=by
  have h1:okPart m:=hm;have h2:okPart (p / 1000):=by unfold okPart; omega
  have h3:okPart (p % 1000):=by unfold okPart; omega
  unfold validB;rw [decide_eq_true h1,decide_eq_true h2,decide_eq_true h3]; rfl
 unfold atV;rw [if_pos ⟨hp.1,hp.2,hv⟩];unfold verF;rw [if_pos hv]; rfl
theorem fmt_size {m p:Int} (hm:0≤m∧m≤999) (hp:0≤p∧p<1000000):(verF (atV m p)).size≤65:=by rw [fmt_at hm hp]; exact plcT_size hm (by omega)
theorem span_bound {m:Int} (hm:0≤m∧m≤999) (s:SpanL):joinN bBar ((canon s).map (spanT m))≤281474976710656:=by
 have h:=joinB_size bBar 132 ((canon s).map (spanT m)) (fun x hx=>by
  obtain ⟨y,hy,rfl⟩:=List.mem_map.1 hx
  have:=canon_rng (canon_canon s) y hy
  exact spanT_size hm this.1 this.2)
 have hl:=canon_len (canon_canon s);rw [Lm] at h;have e:bBar.size=3:=rfl;rw [e] at h;show (joinB bBar ((canon s).map (spanT m))).size≤_;omega
abbrev spT (m:Int) (s:SpanL) (i:Nat):List ByteArray:=((canon s).take i).map (spanT m)
theorem spT_succ (m:Int) (s:SpanL) (i:Nat) (h:i<(canon s).length):spT m s (i+1)=spT m s i++[spanT m (canon s)[i]]:=by
 unfold spT; rw [List.take_succ_eq_append_getElem h,List.map_append]; rfl
set_option maxHeartbeats 4000000 in
theorem e98 (m:Int) (s:SpanL) (hM:0≤m∧m≤999) (hs:Few s):PC 98 [sl encSpan s,vi m] (.tup [vs (setT m s),vi 0]):=by
 have hM:0≤m∧m≤999:=hM;have hcl:=canon_len (canon_canon s);refine Ps ⟨[3],[(7,1)],[],[],[],[],[],[],[],[],[2,3,8,9,10,11,12,13,14,15,16,17,19,20]⟩ Tryz.func98 rfl (Nz rfl) ?_;refine Yi (fun hf=>absurd hf (show ¬ m<0 by omega)) (fun _=>?_);refine Yi (fun hf=>absurd hf (show ¬ (999:Int)<m by omega)) (fun _=>?_);refine Xi ⟨[(0,sl encSpan s),(3,.ref 3 0)],[(3,.ro [vi m])],hfree⟩ (Yi ⟨Z2,Z1,Fh,Tv⟩ ?_)
 refine Xi .pure (Xi _ (Yi (c102 s hs) ?_));refine Xi {i:Nat // i≤(canon s).length} (Xi (fun q=>⟨[(6,.clo 161 [.cptr [vi m]]),(7,.slice (.id 7 1) ((spT m s q.1).map encStr)),(18,sl encSpan (canon s)),(19,vi ((canon s).map encSpan).length),(20,vi q.1)],[(7,.tok 1 q.1)],hfree⟩) (Xi (fun q=>(canon s).length - q.1) (Yi (Xi ⟨0,Nat.zero_le _⟩ ?_) ?_)))
 ·exact ⟨Z5,Z1,Fh,Tv⟩
 intro ⟨i,i1⟩;have i1:i≤(canon s).length:=i1;have hrl:(spT m s i).length=i:=by unfold spT; rw [Lm,List.length_take]; omega
 have hrl2:((canon s).take i).length=i:=by rw [List.length_take]; omega
 refine Yi (fun h1=>?_) (fun h1=>?_)
 ·have h1:(i:Int)<(((canon s).map encSpan).length:Int):=h1;have n1:i<(canon s).length:=by have q:=h1; rw [Lm] at q; omega
  have g1:(canon s)[i]?=some (canon s)[i]:=Ge n1;have hca:=canon_at s i n1;refine Xi (encSpan ((canon s)[i])) (Yi (Yi (Nn i) (map_at g1)) (Yi rfl ?_));refine Yi (Nz rfl) ?_;refine Yi (Nz rfl) ?_;refine Xi ⟨[(6,.clo 161 [.cptr [vi m]]),(7,.slice (.id 7 1) ((spT m s i).map encStr)),(9,.ref 9 0),(18,sl encSpan (canon s)),(19,vi ((canon s).map encSpan).length),(20,vi i)],[(7,.tok 1 i),(9,.cells (encSpan ((canon s)[i])))],hfree⟩ (Yi ⟨Z6,Z2,Fh,Tv⟩ ?_)
  refine Yi (Nz rfl) ?_;refine Yi (fun h2=>?_) (fun h2=>?_)
  ·have h2:(((canon s)[i]).1:Int)=0∧(((canon s)[i]).2:Int)=1000000∧True:=h2;refine Xi ⟨[(6,.clo 161 [.cptr [vi m]]),(7,.slice (.id 7 1) ((spT m s i).map encStr)),(18,sl encSpan (canon s)),(19,vi ((canon s).map encSpan).length),(20,vi i)],[(7,.tok 1 i)],hfree⟩ (Yi ⟨Z5,Z1,Fh,Tv⟩ ?_)
   have b3:AllLen 1 [[vs ⟨#[42]⟩]]∧((spT m s i).map encStr).length=i∧(((spT m s i).map encStr).length+([[vs ⟨#[42]⟩]]:List (List AV)).length)*16≤140737488355328∧((spT m s i).map encStr).length+([[vs ⟨#[42]⟩]]:List (List AV)).length≤9223372036854775807:=⟨⟨rfl,trivial⟩,(by first | (simp; done) | (rw [Lm]; assumption)),(by simp only [Lm,List.length_cons,List.length_nil]; omega),(by simp only [Lm,List.length_cons,List.length_nil]; omega)⟩
   refine Yi b3 ?_;refine Xi ⟨[(6,.clo 161 [.cptr [vi m]]),(7,.slice (.id 7 1) (((spT m s i).map encStr)++[[vs ⟨#[42]⟩]])),(18,sl encSpan (canon s)),(19,vi ((canon s).map encSpan).length),(20,vi i)],[(7,.tok 1 (((spT m s i).map encStr).length+([[vs ⟨#[42]⟩]]:List (List AV)).length))],hfree⟩ (Yi ⟨Z5,Z1,Fh,Tv⟩ ?_)
   refine Yi (Ii i (by omega)) ?_;have hsp:spanT m ((canon s)[i])=⟨#[42]⟩:=by unfold spanT; (try dsimp only); rw [if_pos ⟨h2.1,h2.2.1⟩]
   refine Xi ⟨i+1,by omega⟩ ?_;exact ⟨by show (canon s).length - (i+1)<(canon s).length - i; omega,⟨Zr,⟨(show AV.slice (.id 7 1) ((spT m s i).map encStr++[[vs ⟨#[42]⟩]])=.slice (.id 7 1) ((spT m s (i+1)).map encStr) by rw [spT_succ m s i n1,List.map_append,← hsp]; rfl),rfl⟩,Zr,Zr,Zr,Tv⟩,⟨⟨(show HO.tok 1 (((spT m s i).map encStr).length+([[vs ⟨#[42]⟩]]:List (List AV)).length)=.tok 1 (i+1) by rw [Lm,hrl]; rfl),rfl⟩,Tv⟩,Fh,Tv⟩
  have h2:¬ ((((canon s)[i]).1:Int)=0∧(((canon s)[i]).2:Int)=1000000∧True):=h2;refine Xi ⟨[(6,.clo 161 [.cptr [vi m]]),(7,.slice (.id 7 1) ((spT m s i).map encStr)),(9,.ref 9 0),(18,sl encSpan (canon s)),(19,vi ((canon s).map encSpan).length),(20,vi i)],[(7,.tok 1 i),(9,.cells (encSpan ((canon s)[i])))],hfree⟩ (Yi ⟨Z6,Z2,Fh,Tv⟩ ?_)
  refine Yi (by show InI64 ((((canon s)[i]).1:Int)+(1:Int)); unfold InI64; omega) ?_;refine Yi (fun h5=>?_) (fun h5=>?_)
  ·have h5:(((canon s)[i]).2:Int)=(((canon s)[i]).1+1:Int):=h5;refine Xi ⟨[(6,.clo 161 [.cptr [vi m]]),(7,.slice (.id 7 1) ((spT m s i).map encStr)),(9,.ref 9 0),(18,sl encSpan (canon s)),(19,vi ((canon s).map encSpan).length),(20,vi i)],[(7,.tok 1 i),(9,.cells (encSpan ((canon s)[i])))],hfree⟩ (Yi ⟨Z6,Z2,Fh,Tv⟩ ?_)
   refine Xi .pure (Xi _ (Yi (e161 m ((canon s)[i]).1 (by unfold InI64; omega)) ?_));have b6:AllLen 1 [[vs (verF (atV m ((canon s)[i]).1))]]∧((spT m s i).map encStr).length=i∧(((spT m s i).map encStr).length+([[vs (verF (atV m ((canon s)[i]).1))]]:List (List AV)).length)*16≤140737488355328∧((spT m s i).map encStr).length+([[vs (verF (atV m ((canon s)[i]).1))]]:List (List AV)).length≤9223372036854775807:=⟨⟨rfl,trivial⟩,(by first | (simp; done) | (rw [Lm]; assumption)),(by simp only [Lm,List.length_cons,List.length_nil]; omega),(by simp only [Lm,List.length_cons,List.length_nil]; omega)⟩
   refine Yi b6 ?_;refine Xi ⟨[(6,.clo 161 [.cptr [vi m]]),(7,.slice (.id 7 1) (((spT m s i).map encStr)++[[vs (verF (atV m ((canon s)[i]).1))]])),(18,sl encSpan (canon s)),(19,vi ((canon s).map encSpan).length),(20,vi i)],[(7,.tok 1 (((spT m s i).map encStr).length+([[vs (verF (atV m ((canon s)[i]).1))]]:List (List AV)).length))],hfree⟩ (Yi ⟨Z5,Z1,Fh,Tv⟩ ?_)
   refine Yi (Ii i (by omega)) ?_;have hsp:spanT m ((canon s)[i])=(verF (atV m ((canon s)[i]).1)):=by unfold spanT; (try dsimp only); rw [if_neg (fun h=>h2 ⟨h.1,h.2,trivial⟩)]; rw [if_pos h5,fmt_at hM (by omega)]
   refine Xi ⟨i+1,by omega⟩ ?_;exact ⟨by show (canon s).length - (i+1)<(canon s).length - i; omega,⟨Zr,⟨(show AV.slice (.id 7 1) ((spT m s i).map encStr++[[vs (verF (atV m ((canon s)[i]).1))]])=.slice (.id 7 1) ((spT m s (i+1)).map encStr) by rw [spT_succ m s i n1,List.map_append,← hsp]; rfl),rfl⟩,Zr,Zr,Zr,Tv⟩,⟨⟨(show HO.tok 1 (((spT m s i).map encStr).length+([[vs (verF (atV m ((canon s)[i]).1))]]:List (List AV)).length)=.tok 1 (i+1) by rw [Lm,hrl]; rfl),rfl⟩,Tv⟩,Fh,Tv⟩
  have h5:¬ ((((canon s)[i]).2:Int)=(((canon s)[i]).1+1:Int)):=h5;refine Xi ⟨[(6,.clo 161 [.cptr [vi m]]),(7,.slice (.id 7 1) ((spT m s i).map encStr)),(9,.ref 9 0),(18,sl encSpan (canon s)),(19,vi ((canon s).map encSpan).length),(20,vi i)],[(7,.tok 1 i),(9,.cells (encSpan ((canon s)[i])))],hfree⟩ (Yi ⟨Z6,Z2,Fh,Tv⟩ ?_)
  refine Yi (fun h8=>?_) (fun h8=>?_)
  ·have h8:(((canon s)[i]).2:Int)=(1000000:Int):=h8;refine Xi ⟨[(6,.clo 161 [.cptr [vi m]]),(7,.slice (.id 7 1) ((spT m s i).map encStr)),(9,.ref 9 0),(18,sl encSpan (canon s)),(19,vi ((canon s).map encSpan).length),(20,vi i)],[(7,.tok 1 i),(9,.cells (encSpan ((canon s)[i])))],hfree⟩ (Yi ⟨Z6,Z2,Fh,Tv⟩ ?_)
   refine Xi .pure (Xi _ (Yi (e161 m ((canon s)[i]).1 (by unfold InI64; omega)) ?_));refine Yi (cat_ok (Nat.le_trans (fmt_size hM (p:=((canon s)[i]).1) (by omega)) (by decide)) (by decide)) ?_;have b9:AllLen 1 [[vs ((verF (atV m ((canon s)[i]).1))++⟨#[46,46]⟩)]]∧((spT m s i).map encStr).length=i∧(((spT m s i).map encStr).length+([[vs ((verF (atV m ((canon s)[i]).1))++⟨#[46,46]⟩)]]:List (List AV)).length)*16≤140737488355328∧((spT m s i).map encStr).length+([[vs ((verF (atV m ((canon s)[i]).1))++⟨#[46,46]⟩)]]:List (List AV)).length≤9223372036854775807:=⟨⟨rfl,trivial⟩,(by first | (simp; done) | (rw [Lm]; assumption)),(by simp only [Lm,List.length_cons,List.length_nil]; omega),(by simp only [Lm,List.length_cons,List.length_nil]; omega)⟩
   refine Yi b9 ?_;refine Xi ⟨[(6,.clo 161 [.cptr [vi m]]),(7,.slice (.id 7 1) (((spT m s i).map encStr)++[[vs ((verF (atV m ((canon s)[i]).1))++⟨#[46,46]⟩)]])),(18,sl encSpan (canon s)),(19,vi ((canon s).map encSpan).length),(20,vi i)],[(7,.tok 1 (((spT m s i).map encStr).length+([[vs ((verF (atV m ((canon s)[i]).1))++⟨#[46,46]⟩)]]:List (List AV)).length))],hfree⟩ (Yi ⟨Z5,Z1,Fh,Tv⟩ ?_)
   refine Yi (Ii i (by omega)) ?_;have hsp:spanT m ((canon s)[i])=((verF (atV m ((canon s)[i]).1))++⟨#[46,46]⟩):=by unfold spanT; (try dsimp only); rw [if_neg (fun h=>h2 ⟨h.1,h.2,trivial⟩)]; rw [if_neg h5]; rw [if_pos h8,fmt_at hM (by omega)]
   refine Xi ⟨i+1,by omega⟩ ?_;exact ⟨by show (canon s).length - (i+1)<(canon s).length - i; omega,⟨Zr,⟨(show AV.slice (.id 7 1) ((spT m s i).map encStr++[[vs ((verF (atV m ((canon s)[i]).1))++⟨#[46,46]⟩)]])=.slice (.id 7 1) ((spT m s (i+1)).map encStr) by rw [spT_succ m s i n1,List.map_append,← hsp]; rfl),rfl⟩,Zr,Zr,Zr,Tv⟩,⟨⟨(show HO.tok 1 (((spT m s i).map encStr).length+([[vs ((verF (atV m ((canon s)[i]).1))++⟨#[46,46]⟩)]]:List (List AV)).length)=.tok 1 (i+1) by rw [Lm,hrl]; rfl),rfl⟩,Tv⟩,Fh,Tv⟩
  have h8:¬ ((((canon s)[i]).2:Int)=(1000000:Int)):=h8;refine Xi ⟨[(6,.clo 161 [.cptr [vi m]]),(7,.slice (.id 7 1) ((spT m s i).map encStr)),(9,.ref 9 0),(18,sl encSpan (canon s)),(19,vi ((canon s).map encSpan).length),(20,vi i)],[(7,.tok 1 i),(9,.cells (encSpan ((canon s)[i])))],hfree⟩ (Yi ⟨Z6,Z2,Fh,Tv⟩ ?_)
  refine Yi (fun h11=>?_) (fun h11=>?_)
  ·have h11:(((canon s)[i]).1:Int)=(0:Int):=h11;refine Xi ⟨[(6,.clo 161 [.cptr [vi m]]),(7,.slice (.id 7 1) ((spT m s i).map encStr)),(9,.ref 9 0),(18,sl encSpan (canon s)),(19,vi ((canon s).map encSpan).length),(20,vi i)],[(7,.tok 1 i),(9,.cells (encSpan ((canon s)[i])))],hfree⟩ (Yi ⟨Z6,Z2,Fh,Tv⟩ ?_)
   refine Xi .pure (Xi _ (Yi (e161 m ((canon s)[i]).2 (by unfold InI64; omega)) ?_));refine Yi (cat_ok (by decide) (Nat.le_trans (fmt_size hM (p:=((canon s)[i]).2) (by omega)) (by decide))) ?_;have b12:AllLen 1 [[vs (⟨#[46,46]⟩++(verF (atV m ((canon s)[i]).2)))]]∧((spT m s i).map encStr).length=i∧(((spT m s i).map encStr).length+([[vs (⟨#[46,46]⟩++(verF (atV m ((canon s)[i]).2)))]]:List (List AV)).length)*16≤140737488355328∧((spT m s i).map encStr).length+([[vs (⟨#[46,46]⟩++(verF (atV m ((canon s)[i]).2)))]]:List (List AV)).length≤9223372036854775807:=⟨⟨rfl,trivial⟩,(by first | (simp; done) | (rw [Lm]; assumption)),(by simp only [Lm,List.length_cons,List.length_nil]; omega),(by simp only [Lm,List.length_cons,List.length_nil]; omega)⟩
   refine Yi b12 ?_;refine Xi ⟨[(6,.clo 161 [.cptr [vi m]]),(7,.slice (.id 7 1) (((spT m s i).map encStr)++[[vs (⟨#[46,46]⟩++(verF (atV m ((canon s)[i]).2)))]])),(18,sl encSpan (canon s)),(19,vi ((canon s).map encSpan).length),(20,vi i)],[(7,.tok 1 (((spT m s i).map encStr).length+([[vs (⟨#[46,46]⟩++(verF (atV m ((canon s)[i]).2)))]]:List (List AV)).length))],hfree⟩ (Yi ⟨Z5,Z1,Fh,Tv⟩ ?_)
   refine Yi (Ii i (by omega)) ?_;have hsp:spanT m ((canon s)[i])=(⟨#[46,46]⟩++(verF (atV m ((canon s)[i]).2))):=by unfold spanT; (try dsimp only); rw [if_neg (fun h=>h2 ⟨h.1,h.2,trivial⟩)]; rw [if_neg h5]; rw [if_neg h8]; rw [if_pos h11,fmt_at hM (by omega)]
   refine Xi ⟨i+1,by omega⟩ ?_;exact ⟨by show (canon s).length - (i+1)<(canon s).length - i; omega,⟨Zr,⟨(show AV.slice (.id 7 1) ((spT m s i).map encStr++[[vs (⟨#[46,46]⟩++(verF (atV m ((canon s)[i]).2)))]])=.slice (.id 7 1) ((spT m s (i+1)).map encStr) by rw [spT_succ m s i n1,List.map_append,← hsp]; rfl),rfl⟩,Zr,Zr,Zr,Tv⟩,⟨⟨(show HO.tok 1 (((spT m s i).map encStr).length+([[vs (⟨#[46,46]⟩++(verF (atV m ((canon s)[i]).2)))]]:List (List AV)).length)=.tok 1 (i+1) by rw [Lm,hrl]; rfl),rfl⟩,Tv⟩,Fh,Tv⟩
  have h11:¬ ((((canon s)[i]).1:Int)=(0:Int)):=h11;refine Xi ⟨[(6,.clo 161 [.cptr [vi m]]),(7,.slice (.id 7 1) ((spT m s i).map encStr)),(9,.ref 9 0),(18,sl encSpan (canon s)),(19,vi ((canon s).map encSpan).length),(20,vi i)],[(7,.tok 1 i),(9,.cells (encSpan ((canon s)[i])))],hfree⟩ (Yi ⟨Z6,Z2,Fh,Tv⟩ ?_)
  refine Xi _ (Yi (e161 m ((canon s)[i]).1 (by unfold InI64; omega)) ?_);refine Yi (cat_ok (Nat.le_trans (fmt_size hM (p:=((canon s)[i]).1) (by omega)) (by decide)) (by decide)) ?_;refine Xi _ (Yi (e161 m ((canon s)[i]).2 (by unfold InI64; omega)) ?_);refine Yi (cat_ok (by have q:=fmt_size hM (p:=(canon s)[i].1) (by omega); rw [bsize_app]; show _+2≤_; omega) (Nat.le_trans (fmt_size hM (p:=((canon s)[i]).2) (by omega)) (by decide))) ?_;have b14:AllLen 1 [[vs (((verF (atV m ((canon s)[i]).1))++⟨#[46,46]⟩)++(verF (atV m ((canon s)[i]).2)))]]∧((spT m s i).map encStr).length=i∧(((spT m s i).map encStr).length+([[vs (((verF (atV m ((canon s)[i]).1))++⟨#[46,46]⟩)++(verF (atV m ((canon s)[i]).2)))]]:List (List AV)).length)*16≤140737488355328∧((spT m s i).map encStr).length+([[vs (((verF (atV m ((canon s)[i]).1))++⟨#[46,46]⟩)++(verF (atV m ((canon s)[i]).2)))]]:List (List AV)).length≤9223372036854775807:=⟨⟨rfl,trivial⟩,(by first | (simp; done) | (rw [Lm]; assumption)),(by simp only [Lm,List.length_cons,List.length_nil]; omega),(by simp only [Lm,List.length_cons,List.length_nil]; omega)⟩
  refine Yi b14 ?_;refine Yi (by kernel_rfl) ?_;refine Xi ⟨[(6,.clo 161 [.cptr [vi m]]),(7,.slice (.id 7 1) (((spT m s i).map encStr)++[[vs (((verF (atV m ((canon s)[i]).1))++⟨#[46,46]⟩)++(verF (atV m ((canon s)[i]).2)))]])),(18,sl encSpan (canon s)),(19,vi ((canon s).map encSpan).length),(20,vi i)],[(7,.tok 1 (((spT m s i).map encStr).length+([[vs (((verF (atV m ((canon s)[i]).1))++⟨#[46,46]⟩)++(verF (atV m ((canon s)[i]).2)))]]:List (List AV)).length))],hfree⟩ (Yi ⟨Z5,Z1,Fh,Tv⟩ ?_)
  refine Yi (Ii i (by omega)) ?_;have hsp:spanT m ((canon s)[i])=(((verF (atV m ((canon s)[i]).1))++⟨#[46,46]⟩)++(verF (atV m ((canon s)[i]).2))):=by unfold spanT; (try dsimp only); rw [if_neg (fun h=>h2 ⟨h.1,h.2,trivial⟩)]; rw [if_neg h5]; rw [if_neg h8]; rw [if_neg h11,fmt_at hM (by omega),fmt_at hM (by omega)]
  refine Xi ⟨i+1,by omega⟩ ?_;exact ⟨by show (canon s).length - (i+1)<(canon s).length - i; omega,⟨Zr,⟨(show AV.slice (.id 7 1) ((spT m s i).map encStr++[[vs (((verF (atV m ((canon s)[i]).1))++⟨#[46,46]⟩)++(verF (atV m ((canon s)[i]).2)))]])=.slice (.id 7 1) ((spT m s (i+1)).map encStr) by rw [spT_succ m s i n1,List.map_append,← hsp]; rfl),rfl⟩,Zr,Zr,Zr,Tv⟩,⟨⟨(show HO.tok 1 (((spT m s i).map encStr).length+([[vs (((verF (atV m ((canon s)[i]).1))++⟨#[46,46]⟩)++(verF (atV m ((canon s)[i]).2)))]]:List (List AV)).length)=.tok 1 (i+1) by rw [Lm,hrl]; rfl),rfl⟩,Tv⟩,Fh,Tv⟩
 have h1:¬ ((i:Int)<(((canon s).map encSpan).length:Int)):=h1;have n1:¬ i<(canon s).length:=by have q:=h1; rw [Lm] at q; omega
 refine Yi (fun h16=>?_) (fun h16=>?_)
 ·have h16:(((spT m s i).map encStr).length:Int)=(0:Int):=h16;refine Xi ⟨[],[],hfree⟩ (Yi ⟨Tv,Tv,Fh,Tv⟩ ?_)
  exact .of_eq (show AV.tup [vs bNone,vi 0]=.tup [vs (setT m s),vi 0] by unfold setT; rw [if_pos (List.eq_nil_of_length_eq_zero (by have q:=h16; rw [Lm,hrl] at q; omega))])
 have h16:¬ ((((spT m s i).map encStr).length:Int)=(0:Int)):=h16;refine Xi ⟨[(7,.slice (.id 7 1) ((spT m s i).map encStr))],[(7,.tok 1 i)],hfree⟩ (Yi ⟨Z1,Z1,Fh,Tv⟩ ?_)
 have e49v:=e49 ((canon s).map (spanT m)) bBar (by rw [Lm]; have:=canon_len (canon_canon s); omega) (span_bound hM s);have ej:(canon s).take i=canon s:=List.take_of_length_le (by omega);refine Xi .pure (Xi _ (Yi (show PC 49 [sl encStr (spT m s i),vs bBar] (vs (joinB bBar ((canon s).map (spanT m)))) by unfold spT; rw [ej]; exact e49v) ?_));exact .of_eq (show AV.tup [vs (joinB bBar ((canon s).map (spanT m))),vi 0]=.tup [vs (setT m s),vi 0] by unfold setT; rw [if_neg (fun h=>by have q:=h16; rw [Lm,hrl] at q; rw [h] at i1; simp at i1; omega)])
end Go.Eng

namespace Go.Eng
open Go.Proofs
def lnT (p:ByteArray):ByteArray:=match pathMajor p with | none=>⟨#[]⟩ | some _=>lineNm p
def lnE (p:ByteArray):Int:=match pathMajor p with | none=>4 | some _=>0
theorem e32 (p:ByteArray) (hp:FewS p):PC 32 [vs p] (.tup [vs (lnT p),vi (majorP p),vi (lnE p)]):=by
 have h:=c155 p hp;have e:lineV lineNm p=.tup [vs (lnT p),vi (majorP p),vi (lnE p)]:=by
  unfold lineV lnT lnE majorP;cases pathMajor p <;> rfl
 rwa [e] at h
theorem at_T (p:ByteArray) (pl:Int):verF (atV (majorP p) pl)=atT p pl:=by
 unfold atT;split
 ·rename_i h; exact fmt_at (majorP_rng p) h
 ·rename_i h
  have:atV (majorP p) pl=⟨0,0,0⟩:=by unfold atV; rw [if_neg (fun q=>h ⟨q.1,q.2.1⟩)]
  rw [this]; rfl
theorem atT_size (p:ByteArray) (pl:Int):(atT p pl).size≤65:=by
 unfold atT;split
 ·exact plcT_size (majorP_rng p) (by omega)
 ·exact verT_size (by decide) (by decide) (by decide)
theorem words_bound {B:Nat} {l:List ByteArray} (h:∀ x ∈ l,x.size≤B) (hl:l.length*(B+1)≤281474976710656):joinN bBlank l≤281474976710656:=by
 have:=joinB_size bBlank B l h
 show (joinB bBlank l).size≤_;have e:bBlank.size=1:=rfl;rw [e] at this; omega
theorem term_words (p s:ByteArray):wordsB [p,s]=p++bBlank++s:=by unfold wordsB; rw [joinB_two,bapp_assoc]
abbrev FewP (p:ByteArray):Prop:=p.size≤1048576
theorem FewP.s {p:ByteArray} (h:FewP p):FewS p:=by unfold FewS; unfold FewP at h; omega
theorem setP_size (p:ByteArray) (s:SpanL):(setP p s).size≤135000004:=setT_size (majorP_rng p) s
theorem two_bound {p:ByteArray} (hp:FewP p) (s:SpanL):joinN bBlank [p,setP p s]≤281474976710656:=words_bound (B:=136000000) (fun x hx=>by
 unfold FewP at hp;rcases List.mem_cons.1 hx with rfl | hx
 ·omega
 ·rw [List.mem_singleton.1 hx]; have:=setP_size p s; omega) (by simp)
theorem e99 (p:ByteArray) (hp:FewS p):PC 99 [vs p] (vi (majorP p)):=by
 refine Ps ⟨[],[],[],[],[],[],[],[],[],[],[]⟩ Tryz.func99 rfl (Nz rfl) ?_;refine Xi .pure (Xi _ (Yi (e32 p hp) ?_));exact .refl _
theorem e45 (p:ByteArray) (s:SpanL) (hp:FewS p) (hs:Few s):PC 45 [vs p,sl encSpan s] (vs (setP p s)):=by
 refine Ps ⟨[],[],[],[],[],[],[],[],[],[],[]⟩ Tryz.func45 rfl (Nz rfl) ?_;refine Xi .pure (Xi _ (Yi (e99 p hp) ?_));refine Xi .pure (Xi _ (Yi (e98 (majorP p) s (majorP_rng p) hs) ?_));exact .refl _
set_option maxHeartbeats 4000000 in
theorem e75 (p:ByteArray) (pl:Int) (hp:FewS p) (hpl:InI64 pl):PC 75 [vs p,vi pl] (vs (atT p pl)):=by
 obtain ⟨m,hmm⟩ : ∃ m,m=majorP p:=⟨_,rfl⟩;have h99:=e99 p hp;rw [← hmm] at h99;refine Ps ⟨[],[],[],[],[],[],[],[],[],[],[]⟩ Tryz.func75 rfl (Nz rfl) ?_;refine Xi .pure (Xi _ (Yi h99 ?_));refine Xi .pure (Xi _ (Yi (e130 m pl hpl) ?_));refine Yi (Nz rfl) ?_;refine Yi (Nz rfl) ?_;refine Xi .pure (Xi _ (Yi (e78 (atV m pl)) ?_));exact .of_eq (show vs (verF (atV m pl))=vs (atT p pl) by rw [hmm,at_T])
theorem e44 (l:List ByteArray) (hl:l.length≤1073741824) (hj:joinN bBlank l≤281474976710656):PC 44 [sl encStr l] (vs (wordsB l)):=by
 refine Ps ⟨[],[],[],[],[],[],[],[],[],[],[]⟩ Tryz.func44 rfl (Nz rfl) ?_;refine Xi .pure (Xi _ (Yi (e49 l bBlank hl hj) ?_));exact .refl _
theorem e13 (t:Tm) (hp:FewP t.path) (hs:Few t.set):PC 13 [.agg (encTm t)] (vs (termT t)):=by
 have hcs:Few (compl t.set):=by have:=canon_len (compl_canon t.set); unfold Few; omega
 refine Ps ⟨[],[],[],[],[],[],[],[],[],[],[]⟩ Tryz.func13 rfl (Nz rfl) ?_;refine Yi (fun h1=>?_) (fun h1=>?_)
 ·have h1:t.absent=true:=h1;refine Xi _ (Yi (c103 t.set hs) ?_);refine Xi _ (Yi (e45 t.path (compl t.set) hp.s hcs) ?_);refine Xi _ (Yi (e44 [t.path,(setP t.path (compl t.set))] (by simp) (two_bound hp (compl t.set))) ?_);refine Yi (by kernel_rfl) ?_;exact .of_eq (show vs (wordsB [t.path,(setP t.path (compl t.set))])=vs (termT t) by rw [term_words]; unfold termT; rw [h1]; rfl)
 have h1:t.absent=false:=h1;refine Xi _ (Yi (e45 t.path t.set hp.s hs) ?_);refine Xi _ (Yi (e44 [t.path,(setP t.path t.set)] (by simp) (two_bound hp t.set)) ?_);refine Yi (by kernel_rfl) ?_;exact .of_eq (show vs (wordsB [t.path,(setP t.path t.set)])=vs (termT t) by rw [term_words]; unfold termT; rw [h1]; rfl)
end Go.Eng
