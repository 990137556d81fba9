/- Lemmas 19. -/
import Derived.Test.YtjhkbdgingfbaaaGreatDoorGA18
import Derived.Test.YtjhkbdgingfbaaaGreatDoorCards
import Derived.Test.YtjhkbdgingfbaaaGreatDoorTie
import Derived.ProofKit
import Derived.OpenShut
import Derived.Deep.DeepHandedRow
import Derived.Lib.LaidTab
import Derived.Stop.LaidErr
namespace Go.Proofs.YtjhkbdgingfbaaaGreatDoor.joins
open Go Go.Eng Go.Proofs Go.ChangeShapes Go.WideShapes Go.ChangeAt Go.RowKit
section
variable {H:Type}{enc:TypeId×Value->H}{w:World}
theorem all_le{d:DataW H}{l:List (DataW H)}(h:d∈l):Rows.uptoBulk d<=Rows.uptoBulkAll l:=by
 induction l with
 |nil=>cases h
 |cons x r ih=>
  simp only[Rows.uptoBulkAll]
  cases AS.1 h with
  |inl e=>subst e;omega
  |inr e=>have:=ih e;omega
theorem one_le(d:DataW H):1<=Rows.uptoBulk d:=by
 cases d with
 |lit l=>cases l<;>simp[Rows.uptoBulk]
 |nil=>simp[Rows.uptoBulk]
 |ptr d=>simp[Rows.uptoBulk]
 |slice dL spare=>simp[Rows.uptoBulk]
 |agg parts=>simp[Rows.uptoBulk]
 |iface t d=>simp[Rows.uptoBulk]
 |map entries=>simp[Rows.uptoBulk]
 |held h=>simp[Rows.uptoBulk]
theorem len_le(l:List (DataW H)):l.length<=Rows.uptoBulkAll l:=by
 induction l with
 |nil=>simp[Rows.uptoBulkAll]
 |cons x r ih=>have:=one_le x;simp only[Rows.uptoBulkAll,Am];omega
theorem bulk_ok:QE (H:=H) Rows.uptoBulk where
 slice es sp:=by
  have h1:=len_le es
  refine⟨by simp only[Rows.uptoBulk];omega,fun d hd=>?_⟩
  have:=all_le hd
  simp only[Rows.uptoBulk];omega
 agg ps d hd:=by
  have:=all_le hd
  simp only[Rows.uptoBulk];omega
 str b:=by simp only[Rows.uptoBulk];omega
theorem app_all(l r:List (DataW H)):Rows.uptoBulkAll (l++r)=Rows.uptoBulkAll l+Rows.uptoBulkAll r:=by
 induction l with
 |nil=>simp[Rows.uptoBulkAll]
 |cons x l ih=>simp only[De,Rows.uptoBulkAll,ih];omega
abbrev NB:Nat:=1048576
abbrev Op(enc:TypeId×Value->H)(w:World)(t:TypeId){α:Type}(e:α->List AV)(ok:α->Prop):Prop:=Hf enc Tryz.prog w Rows.uptoBulk NB t e ok
theorem oI:Op enc w 3 (fun n:Int=>[vi n]) (fun _=>True):=(L3 Tryz.underlying3).to id (fun _ _=>⟨rfl,trivial⟩)
theorem oB:Op enc w 4 (fun b:Bool=>[vb b]) (fun _=>True):=UB Tryz.underlying4
theorem oS:Op enc w 9 (fun s:ByteArray=>[vs s]) (fun s=>s.size<=NB):=Rv bulk_ok Tryz.underlying9
theorem oVer:Op enc w 47 Dy (fun _=>True):=
 (D5 bulk_ok Tryz.underlying47 (L:=3) sT (BG rfl (n:=1) sT oI (BG rfl (n:=1) sT oI (BG rfl (n:=1) sT oI EP)))).to
  (fun p=>(⟨p.1,p.2.1,p.2.2.1⟩:Ver)) (fun _ _=>⟨rfl,trivial⟩)
theorem oSpan:Op enc w 226 An (fun _=>True):=
 (D5 bulk_ok Tryz.underlying226 (L:=2) sT (BG rfl (n:=1) sT oI (BG rfl (n:=1) sT oI EP))).to
  (fun p=>(p.1,p.2.1)) (fun _ _=>⟨rfl,trivial⟩)
theorem oSet:Op enc w 141 (fun l:Bz=>[sl An l]) (fun l=>l.length<=NB):=
 (EQ bulk_ok Tryz.underlying141 (m:=1) sT (fun _=>rfl) oSpan).to id (fun _ h=>⟨rfl,h.1⟩)
abbrev OkRq(q:Rq):Prop:=q.path.size<=NB/\q.set.length<=NB
theorem oRq:Op enc w 143 BU OkRq:=
 (D5 bulk_ok Tryz.underlying143 (L:=2) sT (BG rfl (n:=1) sT oS (BG rfl (n:=1) sT oSet EP))).to
  (fun p=>(⟨p.1,p.2.1⟩:Rq)) (fun _ h=>⟨rfl,h.1,h.2.1⟩)
abbrev OkRqs(l:List Rq):Prop:=l.length<=NB/\∀q∈l,OkRq q
theorem oRqs:Op enc w 71 (fun l:List Rq=>[sl BU l]) OkRqs:=
 EQ bulk_ok Tryz.underlying71 (m:=1) sT (fun _=>rfl) oRq
abbrev OkRl(r:Rl):Prop:=r.path.size<=NB/\OkRqs r.reqs
theorem oRl:Op enc w 79 Bb OkRl:=
 (D5 bulk_ok Tryz.underlying79 (L:=9) sT (BG rfl (n:=1) sT oS (BG rfl (n:=3) sT oVer (BG rfl (n:=1) sT oRqs
  (BG rfl (n:=1) sT oS (BG rfl (n:=1) sT oS (BG rfl (n:=1) sT oS (BG rfl (n:=1) sT oB EP)))))))).to
  (fun p=>(⟨p.1,p.2.1,p.2.2.1,p.2.2.2.1,p.2.2.2.2.1,p.2.2.2.2.2.1,p.2.2.2.2.2.2.1⟩:Rl)) (fun _ h=>⟨rfl,h.1,h.2.2.1⟩)
theorem oRls:Op enc w 22 (fun l:List Rl=>[sl Bb l]) (fun l=>l.length<=NB/\∀r∈l,OkRl r):=
 EQ bulk_ok Tryz.underlying22 (m:=8) sT (fun _=>rfl) oRl
theorem oIfc:Op enc w 97 (fun s:ByteArray=>[vs s,.junk,.junk,.junk,.junk]) (fun _=>True):=
 (D5 bulk_ok Tryz.underlying97 (L:=5) sT (BG rfl (n:=1) sT oS (BG rfl (n:=1) sT (Jz Tryz.underlying92) (BG rfl (n:=1) sT (Jz Tryz.underlying93)
  (BG rfl (n:=1) sT (Jz Tryz.underlying94) (BG rfl (n:=1) sT (Jz Tryz.underlying95) EP)))))).to (fun p=>p.1) (fun _ _=>⟨rfl,trivial⟩)
theorem oIfs:Op enc w 23 (fun l:List ByteArray=>[sl (fun s=>[vs s,.junk,.junk,.junk,.junk]) l]) (fun l=>l.length<=NB):=
 (EQ bulk_ok Tryz.underlying23 (m:=4) sT (fun _=>rfl) oIfc).to id (fun _ h=>⟨rfl,h.1⟩)
theorem oIx:Op enc w 25 (fun p:List Rl×List (List AV)=>[sl Bb p.1,.slice .none p.2]) (fun p=>(p.1.length<=NB/\∀r∈p.1,OkRl r)/\p.2.length<=NB/\∀c∈p.2,c.length=5):=
 (D5 bulk_ok Tryz.underlying25 (L:=2) sT (BG rfl (n:=1) sT oRls (BG rfl (n:=1) sT oIfs EP))).to
  (fun p=>(p.1,p.2.1.map (fun s=>[vs s,.junk,.junk,.junk,.junk]))) (fun _ h=>⟨rfl,h.1,by rw[AO];exact h.2.1,fun c hc=>by obtain⟨s,_,rfl⟩:=AA.1 hc;rfl⟩)
theorem oSl:Op enc w 49 Ag (fun y=>y.path.size<=NB):=
 (D5 bulk_ok Tryz.underlying49 (L:=4) sT (BG rfl (n:=1) sT oS (BG rfl (n:=3) sT oVer EP))).to
  (fun p=>(⟨p.1,p.2.1⟩:Sl)) (fun _ h=>⟨rfl,h.1⟩)
theorem oSls:Op enc w 26 (fun l:List Sl=>[sl Ag l]) (fun l=>l.length<=NB/\∀y∈l,y.path.size<=NB):=
 EQ bulk_ok Tryz.underlying26 (m:=3) sT (fun _=>rfl) oSl
theorem oInt:Op enc w 3 (fun n:Int=>[vi n]) AE:=(L3 Tryz.underlying3).to id (fun x h=>⟨rfl,by
  have h1:(-9223372036854775808:Int)<=x:=h.1
  have h2:x<=(9223372036854775807:Int):=h.2
  show -9223372036854775808<=x/\x<9223372036854775808
  omega⟩)
theorem oU8:Op enc w 5 (fun n:Int=>[.v (.int .u8 n)]) (fun n=>0<=n/\n<=255):=(L3 Tryz.underlying5).to id (fun _ h=>⟨rfl,h⟩)
theorem oStr:Op enc w 9 Go.Eng.encStr (fun s:ByteArray=>s.size<=NB):=oS
theorem oStrs:Op enc w 27 (fun l:List ByteArray=>[sl Go.Eng.encStr l]) (fun l=>l.length<=NB/\∀s∈l,s.size<=NB):=
 EQ bulk_ok Tryz.underlying27 (m:=0) sT (fun _=>rfl) oStr
abbrev OkCp(c:Cp):Prop:=c.path.size<=NB/\c.bytes.size<=NB
theorem oCp:Op enc w 60 Aq OkCp:=
 (D5 bulk_ok Tryz.underlying60 (L:=5) sT (BG rfl (n:=1) sT oS (BG rfl (n:=3) sT oVer (BG rfl (n:=1) sT oS EP)))).to
  (fun p=>(⟨p.1,p.2.1,p.2.2.1⟩:Cp)) (fun _ h=>⟨rfl,h.1,h.2.2.1⟩)
theorem oCps:Op enc w 31 (fun l:List Cp=>[sl Aq l]) (fun l=>l.length<=NB/\∀c∈l,OkCp c):=
 EQ bulk_ok Tryz.underlying31 (m:=4) sT (fun _=>rfl) oCp
theorem few_of{n:Nat}(h:n<=NB):n<=1073741824:=AP h sR
theorem lim_of{x:List Rl}{roots:List Rq}(h:x.length<=NB/\∀r∈x,OkRl r)(k:OkRqs roots):bq x roots where
 ix:=few_of h.1
 rs:=few_of k.1
 rel r hr:=⟨few_of (h.2 r hr).2.1,few_of (h.2 r hr).1,fun q hq=>⟨few_of ((h.2 r hr).2.2 q hq).2,few_of ((h.2 r hr).2.2 q hq).1⟩⟩
 rq q hq:=⟨few_of (k.2 q hq).2,few_of (k.2 q hq).1⟩
theorem lim0_of{x:List Rl}(h:x.length<=NB/\∀r∈x,OkRl r):bq x []:=lim_of h ⟨Ar _,fun q hq=>by cases hq⟩
end
theorem ok_agg{P:Program}{W:World}{base:Nat}{t:TypeId}{v:Value}{fs:Array Field}(hu:P.underlying t=some (.struct fs))(h:Value.okWide P W .any base t v):∃cs,v=.agg cs:=by
 unfold Value.okWide at h
 rw[hu]at h
 obtain⟨cs,e,_⟩:=h
 exact⟨cs,e⟩
theorem ok_slice{P:Program}{W:World}{base:Nat}{t e:TypeId}{v:Value}(hu:P.underlying t=some (.slice e))(h:Value.okWide P W .any base t v):v.oneCell'=true:=by
 unfold Value.okWide at h
 rw[hu]at h
 unfold Cell.okWide Cell.ok at h
 rw[hu]at h
 cases v<;>first | rfl | simp at h
theorem ok_int{P:Program}{W:World}{base:Nat}{t:TypeId}{k:IntKind}{v:Value}(hu:P.underlying t=some (.int k))(h:Value.okWide P W .any base t v):v.oneCell'=true:=by
 unfold Value.okWide at h
 rw[hu]at h
 unfold Cell.okWide Cell.ok at h
 rw[hu]at h
 cases v<;>first | rfl | simp at h
theorem ok_string{P:Program}{W:World}{base:Nat}{t:TypeId}{v:Value}(hu:P.underlying t=some .string)(h:Value.okWide P W .any base t v):v.oneCell'=true:=by
 unfold Value.okWide at h
 rw[hu]at h
 unfold Cell.okWide Cell.ok at h
 rw[hu]at h
 cases v<;>first | rfl | simp at h
theorem int_of_shape{P:Program}{w:World}{g:Nat}{t:TypeId}{k:IntKind}{zero:Array Value}(h:w.ShapedOpen P)(hg:g<P.globals.size)
  (h0:((begin P (fun _ _=>0) default).world.heap[g]?).bind Obj.row?=some (zero,t)) (hz:zero.size=1)
  (hb:P.buildable t=true) (hc:P.cellTypes P.depth t=some [t]) (hu:P.underlying t=some (.int k)):∃p,w.cell? ⟨g,0,none⟩=some (.int k p):=by
 obtain⟨cs,hh,hs,hr⟩:=h.1 g zero t hg h0
 obtain⟨ts,qh,_,EM⟩:=hr hb
 rw[hc]at qh
 cases qh
 have h1:0<cs.size:=by omega
 obtain⟨u,Zh,JL⟩:=EM 0 cs[0] (by simp[h1])
 have:u=t:=by simpa using Zh.symm
 subst this
 have Cm:w.cell? ⟨g,0,none⟩=some cs[0]:=by simp[World.cell?,hh,h1]
 rw[Cm]
 unfold Cell.ok at JL
 rw[hu]at JL
 cases hv:cs[0]<;>rw[hv]at JL<;>simp at JL
 obtain⟨rfl,_⟩:=JL
 exact⟨_,rfl⟩
theorem maxLen_cell{W:World}(h:W.ShapedOpen Tryz.prog):∃m,W.cell? ⟨0,0,none⟩=some (.int .i64 m):=
 int_of_shape (t:=3) (zero:=#[.int .i64 0]) h (AZ sT) sT rfl sT sT Tryz.underlying3
def Start(W:World):Prop:=(∃m,W.cell? ⟨0,0,none⟩=some (.int .i64 m))/\∀x∈YS,x.1<W.heap.size/\W.cell? ⟨x.1,x.2.1,none⟩=x.2.2
theorem start_of {W : World} {r : List (String × DataW Unit)} {a b : String × DataW Unit} (h : W.ShapedOpen Tryz.prog) (hl : laidMet Tryz.prog (a :: b :: ("internal/strconv.uint64pow10", Rows.laid_internal_strconv_uint64pow10) :: r) W) : Start W := by
 refine⟨maxLen_cell h,?_⟩
 have ht : Go.Lib.TabIs Tryz.prog W "internal/strconv.uint64pow10" .u64 ((List.range 20).map fun i => ((10 ^ i : Nat) : Int)):=
  Go.Lib.tabIs_of_head (g:=1) (t:=345) (e:=177) (n:=20) sT sT sT sT sT sT hl.tail.tail
 have hc := fun i => World.var?_cell (P := Tryz.prog) (n := "internal/strconv.uint64pow10") (g := 1) sT ht i
 have h0:1<W.heap.size:=QW (v:=.int .u64 1) ((hc 0).trans rfl)
 intro x hx
 rcases AS.1 hx with rfl | hx
 .exact⟨h0,(hc 20).trans rfl⟩
 .obtain⟨i,hi,rfl⟩:=AA.1 hx
  have hi:=KJ.1 hi
  refine⟨h0,(hc i).trans ?_⟩
  simp[hi]
def Still(W W' : World):Prop:=W'.os=W.os/\W'.output=W.output/\W.heap.size<=W'.heap.size/\∀b,b<W.heap.size->W'.heap[b]?=W.heap[b]?
theorem run_true{f:Nat}{args:List AV}{vals:Array Value}{W:World}(hc:PC f args (vb true))(hM:Start W)(hs:vals.size=args.length)
  (hr:∀(i:Nat) (av:AV) (x:Value),args[i]?=some av->vals[i]?=some x->Bo (YR W) W D2 av x):Calls Tryz.prog f vals W fun e W'=>e=.returned (.bool true)/\Still W W':=by
 refine(hc.2 (YR W) W vals hs (fun i av x q1 q2=>(hr i av x q1 q2).up _) (kO hM.1 hM.2)).mono fun e W' ⟨v,r,h',g',e1,e2,e3,e4,_⟩=>?_
 subst e1
 obtain⟨rfl,rfl⟩:=e2
 obtain rfl:=e3.v_eq
 exact⟨rfl,e4.os,e4.output,e4.size,fun b hb=>e4.frame b hb (fun r h=>h.elim)⟩
theorem Still.kept{W W' : World}(h:Still W W')(qj:MemPlace->Prop):W.keptBut W' qj:=by
 refine⟨h.1,h.2.1,fun i hi=>?_⟩
 rw[h.2.2.2 i hi]
 cases hh:W.heap[i]? with
 |none=>rfl
 |some o=>cases o<;>simp
theorem Still.same{W W' : World}(h:Still W W'){p:MemPlace}(hp:p.block<W.heap.size):W.sameAt W' p:=by
 cases p with
 |cell b off=>
  show W'.cell? ⟨b,off,none⟩=W.cell? ⟨b,off,none⟩
  unfold World.cell?
  rw[h.2.2.2 b hp]
 |map b=>exact h.2.2.2 b hp
theorem kids:Kids Tryz.prog (· < Tryz.prog.types.size):=kids_rows sT sT
theorem full:∀t e,t<Tryz.prog.types.size->Tryz.prog.underlying t=some (.slice e)->0<Tryz.prog.cellsOf e:=slices_full_of Tryz.prog sT
theorem carry{H:Type}{enc:TypeId×Value->H}{W W' : World}(h:Still W W'):∀{ts:List TypeId} {vs:List Value} {ds:List (DataW H)} {ps:List MemPlace},DataW.TrodAll enc Tryz.prog W 0 (fun _=>true) true ts vs ds ps->DataW.TrodAll enc Tryz.prog W' 0 (fun _=>true) true ts vs ds ps
 | [],[],[],_,e=>e
 |t::ts,v::vs,d::ds,ps,k=>by
  have Dc:=k.lt
  obtain⟨p,q,⟨n,h1⟩,h2,rfl⟩:=k
  exact⟨p,q,⟨n,DataW.trod_carry n _ _ _ h1 (fun x hx=>h.same (Dc x (BS _ hx)))⟩,carry h h2,rfl⟩
 | [],[],_::_,_,k=>k.elim
 | [],_::_,_,_,k=>k.elim
 |_::_,[],_,_,k=>k.elim
 |_::_,_::_,[],_,k=>k.elim
theorem post_true{H:Type}{enc:TypeId×Value->H}{W W' : World}{f:Func}{s:ChangeSpec}{args:Array Value}{ds:List (DataW H)}{before:List MemPlace}(JM:Still W W')(hv:s.vars=[])
  (hW:DataW.Whole enc Tryz.prog f.params.toList s.vars false W args.toList ds [] before) (hr:f.resultTypes=#[4]) (hT:∀t∈f.params.toList,t<Tryz.prog.types.size) (hs:s.fn H ds={ results:=[.lit (.bool true)],args:=ds }) :
  s.post enc Tryz.prog f false true false false W args (.bool true) W':=by
 have pM:=hW
 obtain⟨p,q,hA,hV,rfl,hz,_⟩:=hW
 rw[hv]at hV
 have hq:q=[]:=hV
 subst hq
 have Dc:=pM.lt
 have kE:s.fn H (ds++[])={ results:=[.lit (.bool true)],args:=ds }:=by rw[BR];exact hs
 refine⟨ds,[],p++[],[],p,[],pM,?_,?_,?_,JM.kept _,fun h=>by cases h⟩
 .rw[kE,hr]
  exact⟨[],[],⟨1,by rw[show(Value.bool true).cells.toList=[.bool true]from rfl,DataW.trod_step];unfold DataW.trodStep;rw[Tryz.underlying4]⟩,rfl,rfl⟩
 .rw[kE]
  exact(carry JM hA).respare kids full hT (fun x hx=>by simpa using Dc x (BS _ hx))
 .rw[kE,hv];rfl
end Go.Proofs.YtjhkbdgingfbaaaGreatDoor.joins
namespace Go.Proofs.YtjhkbdgingfbaaaGreatDoor.joins
open Go Go.Eng Go.Proofs Go.ChangeShapes Go.WideShapes Go.ChangeAt Go.RowKit
theorem own:ownKnob Tryz.prog.godebug=none:=by kernel_rfl
def flatD:Nat->DataW Unit->List Value
 |0,_=>[]
 |n+1,.agg l=>l.flatMap (flatD n)
 |_+1,.lit (.int k i)=>[.int k i]
 |_+1,_=>[]
def layIn(d:DataW Unit):Obj->Obj
 |.cells _ t frozen=>.cells (flatD 4 d).toArray t frozen
 |o=>o
noncomputable def laidWorld0(os:Os):World:=
 { World.holding Tryz.prog os ⟨#[],#[],[]⟩with heap:=((((((World.holding Tryz.prog os ⟨#[],#[],[]⟩).heap.modify 1 (layIn Rows.laid_internal_strconv_uint64pow10)).modify 4 (layIn Rows.laid_unicode_utf8_first)).modify 5 (layIn Rows.laid_unicode_utf8_acceptRanges)).modify 6 (layIn Rows.laid_math_bits_deBruijn32tab)).modify 7 (layIn Rows.laid_math_bits_deBruijn64tab)) }
def errAt(b:Nat):Obj->Obj
 |.cells _ t f=>.cells #[.iface 372 (.pointer (some ⟨b,0,none⟩))] t f
 |o=>o
abbrev errObj(s:ByteArray):Obj:=.cells #[.string s] 374
noncomputable def laidWorld(os:Os):World:=
 { laidWorld0 os with heap:=((((laidWorld0 os).heap.modify 2 (errAt (laidWorld0 os).heap.size)).modify 3 (errAt ((laidWorld0 os).heap.size+1))).push (errObj ⟨#[105,110,118,97,108,105,100,32,115,121,110,116,97,120]⟩)).push (errObj ⟨#[118,97,108,117,101,32,111,117,116,32,111,102,32,114,97,110,103,101]⟩) }
abbrev nilV:Value:=.slice none 0 0
theorem arr1{args:Array Value}{a:Value}(h:args.toList=[a]):args=#[a]:=by
 cases args;simp_all
theorem arr2{args:Array Value}{a b:Value}(h:args.toList=[a,b]):args=#[a,b]:=by
 cases args;simp_all
theorem arr3{args:Array Value}{a b c:Value}(h:args.toList=[a,b,c]):args=#[a,b,c]:=by
 cases args;simp_all
theorem arr4{args:Array Value}{a b c d:Value}(h:args.toList=[a,b,c,d]):args=#[a,b,c,d]:=by
 cases args;simp_all
theorem arr5{args:Array Value}{a b c d e:Value}(h:args.toList=[a,b,c,d,e]):args=#[a,b,c,d,e]:=by
 cases args;simp_all
theorem looksOff:true=Tryz.pinned.checked.prog.looks []:=by kernel_rfl
theorem noStand:∀t∈([5,9,25,26,27,31,47]:List Nat),Tryz.pinned.checked.prog.wantsStandIn t=false:=by
 intro t ht
 simp only[AS,Nk,or_false]at ht
 rcases ht with rfl | rfl | rfl | rfl | rfl | rfl | rfl<;>exact(show Tryz.prog.wantsStandIn _=false by kernel_rfl)
end Go.Proofs.YtjhkbdgingfbaaaGreatDoor.joins
set_option maxHeartbeats 4000000
namespace Go.Eng
open Go.Proofs
variable {m:List (ByteArray×ByteArray)}{i:Nat}{k:ByteArray}{N:List Rl}{α:Type}{Cs:List AV}{β:Type}{fF:Nat}(x:List Rl)(f:α->β)(ifs:List (List AV))(enc:β->List AV)(c:Cp)(s:List Sl)(l:List ByteArray)
theorem H6(o:Option α):(∃x,o=some x)\/o=none:=by
 cases o with
 |none=>exact .inr rfl
 |some x=>exact .inl ⟨x,rfl⟩
theorem ZC{l:List α}(h:i<l.length):((l.take i).map f).map enc++[enc (f l[i])]=((l.take (i+1)).map f).map enc:=by
 rw[A2,Ge h,Option.toList_some,AK,AK];rfl
theorem ZB(l:List α)(i:Nat):(((l.take i).map f).map enc).length<=l.length:=by
 rw[Lm,Lm,Al];omega
def DT(s:Sl):Bool:=match AU s.path with
 |none=>true
 |some m=>!Cy s.ver||decide (s.ver.a≠m)
def Eh(l:List Sl):Bool:=Bw l&&!l.any DT
def CD(l:List Cp):Int:=if 1024<(l.length:Int)then 7 else if Eh (l.map A6)=true then 0 else 1
theorem Yg:PC 64 [.agg (Aq c)] (.agg (Ag (A6 c))):=by
 refine Ps Dj Tryz.func64 rfl (Nz rfl) (yN (yN (yN ?_)));exact .refl _
theorem QQ(l:List Cp)(hl:CC l):PC 49 [sl Aq l] (sl Ag (l.map A6)):=by
 have Ww:l.length<=1073741824:=hl;refine Ps (pT [] [(3,4)] []) Tryz.func49 rfl (Nz rfl) (Xi {q:Nat // q<=l.length} (Xi (fun q=>⟨[(3,.slice (.id 3 4) (((l.take q.1).map A6).map Ag)),(6,sl Aq l),(7,vi (l.map Aq).length),(8,vi q.1)],[(3,.tok 4 (((l.take q.1).map A6).map Ag).length)],Ao⟩) (Xi (fun q=>l.length-q.1) (Yi (Xi ⟨0,Ar _⟩ ?_) ?_))))
 .exact⟨Z4,Z1,Fh,Tv⟩
 intro⟨i,i1⟩;have i1:i<=l.length:=i1;have fY:=ZB A6 Ag l i;refine Yi (fun h1=>?_) (fun h1=>?_)
 .have h1:(i:Int)<((l.map Aq).length:Int):=h1;have n1:=FL h1;refine Xi (Aq l[i]) (Yi (GR n1) (Yi rfl (yN (yN (yN (Xi .pure (Xi _ (Yi (Yg l[i]) ?_))))))));have b2:Cn 4 [(Ag (A6 l[i]))]/\(((l.take i).map A6).map Ag).length=(((l.take i).map A6).map Ag).length/\((((l.take i).map A6).map Ag).length+([(Ag (A6 l[i]))]:List (List AV)).length)*40<=140737488355328/\(((l.take i).map A6).map Ag).length+([(Ag (A6 l[i]))]:List (List AV)).length<=9223372036854775807:=⟨⟨rfl,trivial⟩,rfl,(by simp only[Lm,Am,Aw,Al];omega),(by simp only[Lm,Am,Aw,Al];omega)⟩;refine Yi b2 (Yi (Ii i sP) ?_);have ew:=ZC A6 Ag n1;refine Xi ⟨i+1,by omega⟩ ?_;exact⟨Dl l.length i sP,⟨⟨(Aa (AV.slice (.id 3 4)) ew),rfl⟩,Zr,Zr,Zr,Tv⟩,⟨⟨(show HO.tok 4 ((((l.take i).map A6).map Ag).length+([(Ag (A6 l[i]))]:List (List AV)).length)=.tok 4 (((l.take (i+1)).map A6).map Ag).length from Aa (HO.tok 4) (Ac.symm.trans (Aa List.length ew))),rfl⟩,Tv⟩,Fh,Tv⟩
 have h1:¬((i:Int)<((l.map Aq).length:Int)):=h1;have n1:=DC h1;exact D7.of_eq (show AV.slice .none (((l.take i).map A6).map Ag)=sl Ag (l.map A6) by rw[As sP])
theorem PD(hs:CC s):PC 41 [sl Ag s] (vb (Bw s)):=by
 unfold CC at hs;refine Ps Dj Tryz.func41 rfl (Nz rfl) ?_;refine Xi {i:Nat // 1<=i/\(s=[]\/i<=s.length)/\Bw s=(match s[i-1]? with | none=>true | some y=>HR (some y.path) (s.drop i))} (Xi (fun i=>⟨[(0,sl Ag s),(3,vi i.1)],[],Ao⟩) (Xi (fun i=>s.length-i.1) (Yi (Xi ⟨1,Ad _,by cases s with | nil=>exact .inl rfl | cons _ _=>exact .inr sS,by cases s<;>rfl⟩ ?_) ?_)))
 .exact⟨Z2,Tv,Fh,Tv⟩
 intro⟨i,h1,h2,h3⟩;refine Yi ?_ ?_
 .intro h;have h:i<s.length:=by simpa using h
  have hg:s[i]?=some s[i]:=Ge h;have h' : i-1<s.length:=by omega
  have Pe : s[i-1]?=some s[i-1]:=Ge h';have e1:((i:Int)-1).toNat=i-1:=by omega
  have SG:Bw s=(FC s[i-1].path s[i].path&&HR (some s[i].path) (s.drop (i+1))):=by
   rw[h3,Pe]
   have:=SL s (i-1) sP
   simp only[show i-1+1=i by omega,show i-1+2=i+1 by omega]at this;exact this
  refine Yi (by show AE ((i:Int)-1);unfold AE;omega) (Xi (Ag s[i-1]) (Yi (Yi (by show(0:Int)<=(i:Int)-1;omega) (by show(s.map Ag)[((i:Int)-1).toNat]?=_;rw[e1];simp[Pe])) (Yi rfl (Xi (Ag s[i]) (Yi (Yi (Nn i) (by simp[hg])) (Yi rfl ?_))))));refine Yi ?_ ?_
  .intro h4;rw[<-Ed]at h4;refine Yi sT ?_;exact .of_eq (Aa vb (show false=Bw s by rw[SG,h4];rfl))
  .intro h4;rw[<-Ed,Bool.not_eq_false]at h4;refine Yi sT (Yi (Ii i sP) (Xi ⟨i+1,by omega,.inr sP,by rw[SG,h4,show i+1-1=i by omega,hg];rfl⟩ ?_));exact⟨Dl s.length i sP,Z2,Tv,Fh,Tv⟩
 .intro h;have h:¬i<s.length:=by simpa using h
  have fV:Bw s=true:=by
   rcases h2 with h2 | h2
   .rw[h2];rfl
   .have e:i=s.length:=by omega
    rw[h3,e,List.drop_length];cases s[s.length-1]?<;>rfl
  exact .of_eq (Aa vb fV.symm)
theorem jg(s:Sl)(hs:CT s.path):PC 92 [.agg (Ag s)] (vb (DT s)):=by
 refine Ps Dj Tryz.func92 rfl (Nz rfl) (Bn (H6 (AU s.path)) (fun h1=>?_) (fun h1=>?_))
 .refine BF h1 (fun m h1=>?_);have jX:=(show PC 93 [vs s.path] (match AU s.path with | some m=>.tup [vs (Kp s.path),vi m,vi 0] | none=>.tup [vs ⟨#[]⟩,vi 0,vi 4])from V4 s.path hs);rw[h1]at jX;refine Xi .pure (Xi _ (Yi jX (Yi (fun h=>absurd h sR) (fun _=>?_))));refine yN (Bn (Bt (Cy s.ver)) (fun h2=>?_) (fun h2=>?_))
  .have h2:(Cy s.ver)=true:=h2;refine Xi .pure (Xi _ (Yi (cb h2 (Yq s.ver)) (Yi (fun h3=>?_) (fun h3=>?_))))
   .have h3:(s.ver.a:Int)≠(m:Int):=h3;exact D7.of_eq (show vb true=vb (DT s) by unfold DT;rw[h1];simp[h2,h3])
   have h3:(s.ver.a:Int)=(m:Int):=Ax h3;exact D7.of_eq (show vb false=vb (DT s) by unfold DT;rw[h1];simp[h2,h3])
  have h2:(Cy s.ver)=false:=h2;refine Xi .pure (Xi _ (Yi (cb h2 (Yq s.ver)) ?_));exact D7.of_eq (show vb true=vb (DT s) by unfold DT;rw[h1];simp[h2])
 have jX:=(show PC 93 [vs s.path] (match AU s.path with | some m=>.tup [vs (Kp s.path),vi m,vi 0] | none=>.tup [vs ⟨#[]⟩,vi 0,vi 4])from V4 s.path hs);rw[h1]at jX;refine Xi .pure (Xi _ (Yi jX (Yi (fun _=>?_) (fun h=>absurd sR h))));exact D7.of_eq (show vb true=vb (DT s) by unfold DT;rw[h1])
theorem lK(hs:DY Cs)(l:List (Sl))(p:Sl->Bool)(hF:∀x∈l,PC fF ([.agg (Ag x)]++Cs) (vb (p x)))(hl:l.length<9223372036854775807) :
  PC 151 [sl Ag l,.clo fF Cs] (vi (Hw p l 0)):=by
 refine Ps Dj Tryz.func151 rfl (Nz rfl) (Xi {i:Nat // i<=l.length/\∀j (hj:j<l.length),j<i->p l[j]=false} (Xi (fun i=>⟨[(0,sl Ag l),(1,.clo fF Cs),(7,vi (l.map Ag).length),(8,vi i.1)],[],Ao⟩) (Xi (fun i=>l.length-i.1) (Yi (Xi ⟨0,by simp⟩ ?_) ?_))))
 .exact⟨⟨Zr,⟨rfl,hs.ids _⟩,Zr,Zr,Tv⟩,Tv,Fh,Tv⟩
 .intro⟨i,h1,h2⟩;refine Yi ?_ ?_
  .intro h;have h:(i:Int)<(l.map Ag).length:=h;have h:i<l.length:=by simpa using h
   have hg:l[i]?=some l[i]:=Ge h;refine Xi (Ag l[i]) (Yi (Yi (Nn i) (by simp[hg])) (Yi rfl (yN ?_)));have Du:∀h,PC fF ([.agg (Ag l[i])]++Cs.map (str0 h)) (vb (p l[i])):=fun h=>by rw[hs.map];exact hF l[i] (Af _)
   cases hp:p l[i]with
   |true=>
    rw[hp]at Du;refine Xi .pure (Xi (vb true) (Yi (Du _) ?_));rw[Ip h (fun j hj Gn=>h2 j hj Gn) hp,Gr];exact .refl _
   |false=>
    rw[hp]at Du;refine Xi .pure (Xi (vb false) (Yi (Du _) (Yi (Ii i sP) (Xi ⟨i+1,by omega,fun j hj Gn=>?_⟩ ?_))))
    .by_cases e:j=i
     .subst e;exact hp
     .exact h2 j hj sP
    .exact⟨Dl l.length i sP,⟨Zr,⟨rfl,hs.ids _⟩,Zr,Zr,Tv⟩,Tv,Fh,Tv⟩
  .intro h;have h:¬(i:Int)<(l.map Ag).length:=h;have h:¬i<l.length:=by simpa using h
   rw[FJ fun j hj=>h2 j hj sP];exact .refl _
theorem so(hs:DY Cs)(l:List (Sl))(p:Sl->Bool)(hF:∀x∈l,PC fF ([.agg (Ag x)]++Cs) (vb (p x)))(hl:CC l) :
  PC 91 [sl Ag l,.clo fF Cs] (vb (l.any p)):=by
 refine Ps Dj Tryz.func91 rfl (Nz rfl) ?_;have hi:=lK hs l p hF (by unfold CC at hl;omega);have Du:∀h,PC 151 [sl Ag l,.clo fF (Cs.map (str0 h))] (vi (Hw p l 0)):=fun h=>by rw[hs.map];exact hi
 refine Xi .pure (Xi _ (Yi (Du _) ?_));have ha:=Jt (p:=p) l 0 (CR 0);refine Yi ?_ ?_
 .intro h;have h:(0:Int)<=Hw p l 0:=h;rw[<-ha,Ah h];exact .refl _
 .intro h;have h:¬(0:Int)<=Hw p l 0:=h;rw[<-ha,Ae h];exact .refl _
theorem D7.fn(f:Nat):D7 (.v (.func (.func f) #[] #[])) (.clo f []):=fun _ _ _ _ h=>by cases h;exact .clo _ f [] #[] rfl (fun i av x h=>by cases h)
theorem DY.nil:DY []:=fun _ hc=>absurd hc Gs
theorem XX(l:List Sl)(hl:CC l)(hs:∀s∈l,CT s.path):PC 91 [sl Ag l,.v (.func (.func 92) #[] #[])] (vb (l.any DT)):=
 (so (fF:=92) DY.nil l DT (fun s h=>jg s (hs s h)) hl).args ⟨.refl _,.fn _,trivial⟩
theorem QR(l:List Sl)(hl:CC l)(hs:∀s∈l,CT s.path):PC 53 [sl Ag l] (vb (Eh l)):=by
 refine Ps Dj Tryz.func53 rfl (Nz rfl) (Bn (Bt (Bw l)) (fun h1=>?_) (fun h1=>?_))
 .have h1:(Bw l)=true:=h1;refine Xi .pure (Xi _ (Yi (cb h1 (PD l hl)) (Bn (Bt (l.any DT)) (fun h2=>?_) (fun h2=>?_))))
  .have h2:(l.any DT)=true:=h2;refine Xi .pure (Xi _ (Yi (cb h2 (XX l hl hs)) ?_));exact D7.of_eq (show vb false=vb (Eh l) by unfold Eh;simp[h1,h2])
  have h2:(l.any DT)=false:=h2;refine Xi .pure (Xi _ (Yi (cb h2 (XX l hl hs)) ?_));exact D7.of_eq (show vb true=vb (Eh l) by unfold Eh;simp[h1,h2])
 have h1:(Bw l)=false:=h1;refine Xi .pure (Xi _ (Yi (cb h1 (PD l hl)) ?_));exact D7.of_eq (show vb false=vb (Eh l) by unfold Eh;simp[h1])
theorem GI(l:List Cp)(hl:CC l)(hs:∀c∈l,CT c.path):PC 20 [sl Aq l] (vi (CD l)):=by
 refine Ps Dj Tryz.func20 rfl (Nz rfl) (Yi (fun h1=>?_) (fun h1=>?_))
 .have h1:(1024:Int)<((l.map Aq).length:Int):=h1;have n1:1024<l.length:=by have q:=h1;rw[Lm]at q;omega
  exact D7.of_eq (show vi 7=vi (CD l) by rw[CD,Av (by have q:=h1;rw[Lm]at q;exact q)])
 have h1:¬((1024:Int)<((l.map Aq).length:Int)):=h1;have n1:¬1024<l.length:=by have q:=h1;rw[Lm]at q;omega
 refine Xi .pure (Xi _ (Yi (QQ l hl) (Bn (Bt (Eh (l.map A6))) (fun h3=>?_) (fun h3=>?_))))
 .have h3:(Eh (l.map A6))=true:=h3;refine Xi .pure (Xi _ (Yi (cb h3 (QR (l.map A6) (by unfold CC;rw[Lm];exact hl) (fun s q=>by obtain⟨c,q1,rfl⟩:=AA.1 q;exact hs c q1))) ?_));exact D7.of_eq (show vi 0=vi (CD l) by rw[CD,Aj (by have q:=h1;rw[Lm]at q;exact q),Av h3])
 have h3:(Eh (l.map A6))=false:=h3;refine Xi .pure (Xi _ (Yi (cb h3 (QR (l.map A6) (by unfold CC;rw[Lm];exact hl) (fun s q=>by obtain⟨c,q1,rfl⟩:=AA.1 q;exact hs c q1))) ?_));exact D7.of_eq (show vi 1=vi (CD l) by rw[CD,Aj (by have q:=h1;rw[Lm]at q;exact q),Aj (by rw[h3];decide)])
abbrev VF:DG:=⟨false,[.str]⟩
abbrev iA(k:ByteArray):ByteArray×ByteArray->Bool:=fun p=>decide (p.1=k)
def M2:List (ByteArray×ByteArray):=l.foldl (fun m a=>if m.any (iA (Bu a))=true then m else m++[(Bu a,a)]) []
abbrev Pb(m:List (ByteArray×ByteArray)):List (Value×AV):=m.map fun p=>(.string p.1,vs p.2)
theorem NE{l:List ByteArray}(h:i<l.length):M2 (l.take (i+1))=if(M2 (l.take i)).any (iA (Bu l[i]))=true then M2 (l.take i)else M2 (l.take i)++[(Bu l[i],l[i])]:=by
 unfold M2;rw[A2,Ge h,List.foldl_append];rfl
theorem UY:m.any (iA k)=true↔∃a,(Value.string k,a)∈Pb m:=by
 rw[Br];constructor
 .rintro⟨p,hp,e⟩
  have e:=AZ e;exact⟨vs p.2,AA.2 ⟨p,hp,by rw[e]⟩⟩
 .rintro⟨a,ha⟩
  obtain⟨p,hp,e⟩:=AA.1 ha;simp only[GV,Value.string.injEq]at e;exact⟨p,hp,Ah e.1⟩
theorem bR{x:ByteArray}(h:∀a,(Value.string k,a)∉Pb m):FN (Pb m) (.string k) (vs x)=Pb (m++[(k,x)]):=by
 rw[FN,Aj (fun⟨a,ha⟩=>h a ha)];unfold Pb;rw[AK];rfl
def KC(k:ByteArray):Option ByteArray:=l.find? fun a=>decide (Bu a=k)
theorem YE(l:List ByteArray):∀i,(∀p∈M2 (l.take i),KC (l.take i) p.1=some p.2)/\∀k x,KC (l.take i) k=some x->(k,x)∈M2 (l.take i)
 |0=>⟨fun _ h=>(by cases h),fun _ _ h=>(by cases h)⟩
 |i+1=>by
  obtain⟨h1,h2⟩:=YE l i
  by_cases h:i<l.length
  .have e:∀k,KC (l.take (i+1)) k=(KC (l.take i) k).or (if Bu l[i]=k then some l[i]else none):=fun k=>by
    unfold KC;rw[A2,Ge h,List.find?_append];simp only[Option.toList_some,List.find?_cons,List.find?_nil]
    by_cases q:Bu l[i]=k
    .rw[Ah q,Av q]
    .rw[Ae q,Aj q]
   rw[NE h]
   by_cases hm:(M2 (l.take i)).any (iA (Bu l[i]))=true
   .rw[Av hm];refine⟨fun p hp=>by rw[e,h1 p hp];rfl,fun k x hk=>?_⟩;rw[e]at hk;cases hd:KC (l.take i) k with
    |some y=>rw[hd]at hk;cases hk;exact h2 k _ hd
    |none=>
     rw[hd]at hk
     by_cases q:Bu l[i]=k
     .obtain⟨p,hp,ep⟩:=Br.1 hm;have ep:=AZ ep
      have:=h1 p hp
      rw[ep,q,hd]at this;cases this
     .rw[Aj q]at hk;cases hk
   .rw[Aj hm];have hn:KC (l.take i) (Bu l[i])=none:=by
     cases hd:KC (l.take i) (Bu l[i])with
     |none=>rfl
     |some y=>exact absurd (Br.2 ⟨_,h2 _ _ hd,Ah rfl⟩) hm
    refine⟨fun p hp=>?_,fun k x hk=>?_⟩
    .rcases By.1 hp with hp | hp
     .rw[e,h1 p hp];rfl
     .rw[Bh.1 hp];show KC (l.take (i+1)) (Bu l[i])=some l[i];rw[e,hn,Av rfl];rfl
    .rw[e]at hk;cases hd:KC (l.take i) k with
     |some y=>rw[hd]at hk;cases hk;exact By.2 (.inl (h2 k _ hd))
     |none=>
      rw[hd]at hk
      by_cases q:Bu l[i]=k
      .rw[Av q]at hk;cases hk;subst q;exact By.2 (.inr (Bh.2 rfl))
      .rw[Aj q]at hk;cases hk
  .rw[As sP]at h1 h2⊢;exact⟨h1,h2⟩
theorem U0{l:List ByteArray}{a:AV}(h:(Value.string k,a)∈Pb (M2 l)):∃x,a=vs x/\KC l k=some x:=by
 obtain⟨p,hp,e⟩:=AA.1 h;simp only[GV,Value.string.injEq]at e;have q:=(YE l l.length).1;rw[DS]at q;exact⟨p.2,e.2.symm,by rw[<-e.1];exact q p hp⟩
theorem UZ{l:List ByteArray}(h:∀a,(Value.string k,a)∉Pb (M2 l)):KC l k=none:=by
 cases hd:KC l k with
 |none=>rfl
 |some x=>
  have q:=(YE l l.length).2 k x;rw[DS]at q;exact absurd (AA.2 ⟨_,q hd,rfl⟩) (h (vs x))
def Ro(y:Sl):Option Cp:=(CM x y).bind fun r=>(KC l r.arch).map fun b=>⟨y.path,y.ver,b⟩
def MU(x:List Rl)(l:List ByteArray):List Sl->Option (List Cp)
 | []=>some []
 |y::s=>(Ro x l y).bind fun c=>(MU x l s).map (c :: ·)
theorem Rp(x:List Rl)(l:List ByteArray):∀(s t:List Sl),MU x l (s++t)=(MU x l s).bind fun a=>(MU x l t).map (a++·)
 | [],t=>by show MU x l t=(some []).bind _;simp
 |y::s,t=>by
  show(Ro x l y).bind (fun c=>(MU x l (s++t)).map (c :: ·))=Option.bind ((Ro x l y).bind fun c=>(MU x l s).map (c :: ·)) _;rw[Rp x l s t];cases Ro x l y with
  |none=>rfl
  |some c=>
   cases MU x l s with
   |none=>rfl
   |some a=>cases MU x l t<;>rfl
theorem Te{x:List Rl}{l:List ByteArray}{s:List Sl}(h:i<s.length){N:List Cp}{c:Cp}(hN:MU x l (s.take i)=some N)(hc:Ro x l s[i]=some c):MU x l (s.take (i+1))=some (N++[c]):=by
 rw[A2,Ge h,Rp,hN];show Option.map _ ((Ro x l s[i]).bind _)=_;rw[hc];rfl
theorem Jb{x:List Rl}{l:List ByteArray}{s:List Sl}(h:i<s.length)(hc:Ro x l s[i]=none):MU x l s=none:=by
 have e:s=s.take i++s[i]::s.drop (i+1):=by rw[<-AG h,Ev]
 rw[e,Rp];cases MU x l (s.take i)with
 |none=>rfl
 |some a=>show Option.map _ ((Ro x l s[i]).bind _)=_;rw[hc];rfl
theorem M8{x:List Rl}{l:List ByteArray}:∀{s:List Sl} {N:List Cp},MU x l s=some N->N.length=s.length
 | [],N,h=>by cases h;rfl
 |y::s,N,h=>by
  have h:(Ro x l y).bind (fun c=>(MU x l s).map (c :: ·))=some N:=h;cases hc:Ro x l y with
  |none=>rw[hc]at h;cases h
  |some c=>
   rw[hc]at h;have h:(MU x l s).map (c :: ·)=some N:=h;obtain⟨M,h1,rfl⟩:=Ay.1 h;rw[Am,M8 h1];rfl
def Is(s:List Sl):Option (List Cp)×Int:=
 if BA x≠0\/Bw s=false then(none,1)else if 1024<(s.length:Int)then(none,7)else match MU x l s with
  |none=>(none,6)
  |some c=>(some c,0)
def qk(p:Option (List Cp)×Int):AV:=.tup [sl Aq (p.1.getD []),vi p.2]
theorem ji(hl:CC l)(hs:∀a∈l,a.size<=100000000):PC 42 [sl encStr l] (.cmap VF (Pb (M2 l))):=by
 have Ww:l.length<=1073741824:=hl;refine Ps ⟨[],[],[],[],[9],[],[],[],[],[],[]⟩ Tryz.func42 rfl (Nz rfl) (Xi {q:Nat // q<=l.length} (Xi (fun q=>⟨[(3,.mref 9),(10,sl encStr l),(11,vi (l.map encStr).length),(12,vi q.1)],[(9,.map VF (Pb (M2 (l.take q.1))))],Ao⟩) (Xi (fun q=>l.length-q.1) (Yi (Xi ⟨0,Ar _⟩ ?_) ?_))))
 .exact⟨Z4,Z1,Fh,Tv⟩
 intro⟨i,i1⟩;have i1:i<=l.length:=i1;refine Yi (fun h1=>?_) (fun h1=>?_)
 .have h1:(i:Int)<((l.map encStr).length:Int):=h1;have n1:=FL h1;refine Xi (encStr l[i]) (Yi (GR n1) (Yi rfl (Xi .pure (Xi _ (Yi (IU l[i] (hs _ (Af n1))) (Yi (fun a ha=>?_) (fun MR=>?_)))))))
  .have h2:(M2 (l.take i)).any (iA (Bu l[i]))=true:=UY.2 ⟨a,ha⟩;refine Yi (Ii i sP) (Xi ⟨i+1,n1⟩ ?_);exact⟨Dl l.length i sP,Z4,⟨⟨(show HO.map VF (Pb (M2 (l.take i)))=.map VF (Pb (M2 (l.take (i+1))))from Aa (fun z=>HO.map VF (Pb z)) ((NE n1).trans (Av h2)).symm),rfl⟩,Tv⟩,Fh,Tv⟩
  have h2:¬(M2 (l.take i)).any (iA (Bu l[i]))=true:=fun e=>by obtain⟨a,ha⟩:=UY.1 e;exact MR a ha
  refine Yi (Ii i sP) (Xi ⟨i+1,n1⟩ ?_);exact⟨Dl l.length i sP,Z4,⟨⟨(show HO.map VF (FN (Pb (M2 (l.take i))) (.string (Bu l[i])) (vs l[i]))=.map VF (Pb (M2 (l.take (i+1))))from Aa (HO.map VF) ((bR MR).trans (Aa Pb ((NE n1).trans (Aj h2)).symm))),rfl⟩,Tv⟩,Fh,Tv⟩
 have h1:¬((i:Int)<((l.map encStr).length:Int)):=h1;have n1:=DC h1;exact D7.of_eq (show AV.cmap VF (Pb (M2 (l.take i)))=.cmap VF (Pb (M2 l)) by rw[As (BI (DC h1))])
theorem Yc(hx:∀r∈x,KF r)(hs:CC s)(hl:CC l)(ha:∀a∈l,a.size<=100000000):PC 12 [.agg (Ic x ifs),sl Ag s,sl encStr l] (qk (Is x l s)):=by
 have kD:s.length<=1073741824:=hs;refine Ps (pT [3] [(9,5)] [4,5,11,14]) Tryz.func12 rfl (Nz rfl) (yN (Xi .pure (Xi _ (Yi (lO V4 x ifs hx) (Yi (fun h1=>?_) (fun h1=>?_))))))
 .have h1:((BA x):Int)≠(0:Int):=h1;have e:Is x l s=(none,1):=by rw[Is,Av (.inl h1)]
  rw[e];exact .tup ⟨.nil,.refl _,trivial⟩
 have h1:((BA x):Int)=(0:Int):=Ax h1;refine Bn (Bt (Bw s)) (fun h3=>?_) (fun h3=>?_)
 .have h3:(Bw s)=true:=h3;refine Xi .pure (Xi _ (Yi (cb h3 (PD s hs)) (Yi (fun h4=>?_) (fun h4=>?_))))
  .have h4:(1024:Int)<((s.map Ag).length:Int):=h4;have n4:1024<s.length:=by have q:=h4;rw[Lm]at q;omega
   refine cU [] [] Tv Tv ?_
   have e:Is x l s=(none,7):=by rw[Is,Aj (fun c=>c.elim (fun c=>c h1) (fun c=>by rw[h3]at c;cases c)),Av (by have q:=h4;rw[Lm]at q;exact q)]
   rw[e];exact .tup ⟨.nil,.refl _,trivial⟩
  have h4:¬((1024:Int)<((s.map Ag).length:Int)):=h4;have n4:¬1024<s.length:=by have q:=h4;rw[Lm]at q;omega
  refine cU [(1,sl Ag s),(2,sl encStr l),(3,.ref 3 0)] [(3,.ro (Ic x ifs))] Z3 Z1 (Xi .pure (Xi _ (Yi (ji l hl ha) (Xi {q:Nat×List Cp // q.1<=s.length/\MU x l (s.take q.1)=some q.2} (Xi (fun q=>⟨[(3,.ref 3 0),(8,.cmap VF (Pb (M2 l))),(9,.slice (.id 9 5) (q.1.2.map Aq)),(29,sl Ag s),(30,vi (s.map Ag).length),(31,vi q.1.1)],[(3,.ro (Ic x ifs)),(9,.tok 5 q.1.2.length)],Ao⟩) (Xi (fun q=>s.length-q.1.1) (Yi (Xi ⟨(0,[]),Ar _,rfl⟩ ?_) ?_)))))))
  .exact⟨Z6,Z2,Fh,Tv⟩
  intro⟨⟨i,N⟩,i1,i2⟩;have i1:i<=s.length:=i1;have i2:MU x l (s.take i)=some N:=i2;have i3:N.length<=s.length:=by rw[M8 i2,Al];omega
  refine Yi (fun h6=>?_) (fun h6=>?_)
  .have h6:(i:Int)<((s.map Ag).length:Int):=h6;have n6:=FL h6;refine Xi (Ag s[i]) (Yi (GR n6) (Yi rfl (yN (yN (yN (yN (Bn (H6 (CM x ⟨s[i].path,s[i].ver⟩)) (fun h7=>?_) (fun h7=>?_))))))))
   .refine BF h7 (fun r h7=>?_);have Y2:=c53 x ifs s[i].path s[i].ver (c84 x ifs hx) hx;rw[h7]at Y2;refine Xi .pure (Xi _ (Yi Y2 (yN (cU [(3,.ref 3 0),(8,.cmap VF (Pb (M2 l))),(9,.slice (.id 9 5) (N.map Aq)),(11,.ref 11 0),(12,.ref 12 0),(13,vb true),(29,sl Ag s),(30,vi (s.map Ag).length),(31,vi i)] [(3,.ro (Ic x ifs)),(9,.tok 5 N.length),(11,.cells (Ag s[i])),(12,.cells (Bb r))] Z9 Z4 (Yi (fun a ha=>?_) (fun MR=>?_))))))
    .refine BF (U0 ha) (fun bb hb=>?_);have h8:KC l r.arch=some bb:=hb.2;have eb:=hb.1;subst eb;refine cU [(3,.ref 3 0),(8,.cmap VF (Pb (M2 l))),(9,.slice (.id 9 5) (N.map Aq)),(11,.ref 11 0),(14,vs bb),(29,sl Ag s),(30,vi (s.map Ag).length),(31,vi i)] [(3,.ro (Ic x ifs)),(9,.tok 5 N.length),(11,.cells (Ag s[i]))] Z8 Z3 (yN (Yi (jq rfl sP sR) (Yi (Ii i sP) (Xi ⟨(i+1,N++[(⟨s[i].path,s[i].ver,bb⟩:Cp)]),n6,Te n6 i2 (by rw[Ro,show CM x s[i]=some r from h7];show Option.map _ (KC l r.arch)=_;rw[h8];rfl)⟩ ?_))));exact⟨Dl s.length i sP,⟨Zr,Zr,⟨(show AV.slice (.id 9 5) ((N.map Aq)++[[vs s[i].path,vi s[i].ver.a,vi s[i].ver.b,vi s[i].ver.c,vs bb]])=.slice (.id 9 5) ((N++[(⟨s[i].path,s[i].ver,bb⟩:Cp)]).map Aq) by rw[AK];rfl),rfl⟩,Zr,Zr,Zr,Tv⟩,⟨Zr,⟨l5,rfl⟩,Tv⟩,Fh,Tv⟩
    have h8:KC l r.arch=none:=UZ MR;have e:Is x l s=(none,6):=by rw[Is,Aj (fun c=>c.elim (fun c=>c h1) (fun c=>by rw[h3]at c;cases c)),Aj (by have q:=h4;rw[Lm]at q;exact q),Jb n6 (by rw[Ro,show CM x s[i]=some r from h7];show Option.map _ (KC l r.arch)=_;rw[h8];rfl)]
    rw[e];exact .tup ⟨.nil,.refl _,trivial⟩
   have Y2:=c53 x ifs s[i].path s[i].ver (c84 x ifs hx) hx;rw[h7]at Y2;refine Xi .pure (Xi _ (Yi Y2 (yN (cU [(3,.ref 3 0),(8,.cmap VF (Pb (M2 l))),(9,.slice (.id 9 5) (N.map Aq)),(11,.ref 11 0),(12,.ref 12 0),(13,vb false),(29,sl Ag s),(30,vi (s.map Ag).length),(31,vi i)] [(3,.ro (Ic x ifs)),(9,.tok 5 N.length),(11,.cells (Ag s[i])),(12,.cells [vs ⟨#[]⟩,vi 0,vi 0,vi 0,nzA,vs ⟨#[]⟩,vs ⟨#[]⟩,vs ⟨#[]⟩,vb false])] Z9 Z4 (Yi (fun a ha=>?_) (fun MR=>?_))))))
   .refine BF (U0 ha) (fun bb hb=>?_);have Kn:KC l ⟨#[]⟩=some bb:=hb.2;have eb:=hb.1;subst eb;have e:Is x l s=(none,6):=by rw[Is,Aj (fun c=>c.elim (fun c=>c h1) (fun c=>by rw[h3]at c;cases c)),Aj (by have q:=h4;rw[Lm]at q;exact q),Jb n6 (by rw[Ro,show CM x s[i]=none from h7];rfl)]
    rw[e];exact .tup ⟨.nil,.refl _,trivial⟩
   have Kn:KC l ⟨#[]⟩=none:=UZ MR;have e:Is x l s=(none,6):=by rw[Is,Aj (fun c=>c.elim (fun c=>c h1) (fun c=>by rw[h3]at c;cases c)),Aj (by have q:=h4;rw[Lm]at q;exact q),Jb n6 (by rw[Ro,show CM x s[i]=none from h7];rfl)]
   rw[e];exact .tup ⟨.nil,.refl _,trivial⟩
  have h6:¬((i:Int)<((s.map Ag).length:Int)):=h6;have n6:=DC h6;have i4:MU x l s=some N:=by rw[As (BI (DC h6))]at i2;exact i2
  have e:Is x l s=(some N,0):=by rw[Is,Aj (fun c=>c.elim (fun c=>c h1) (fun c=>by rw[h3]at c;cases c)),Aj (by have q:=h4;rw[Lm]at q;exact q),i4]
  rw[e];exact .refl _
 have h3:(Bw s)=false:=h3;refine Xi .pure (Xi _ (Yi (cb h3 (PD s hs)) ?_));have e:Is x l s=(none,1):=by rw[Is,Av (.inr h3)]
 rw[e];exact .tup ⟨.nil,.refl _,trivial⟩
theorem dG{a b:Cp}:(a.path=b.path/\a.ver.a=b.ver.a/\a.ver.b=b.ver.b/\a.ver.c=b.ver.c/\a.bytes=b.bytes/\True)↔a=b:=by
 constructor
 .rintro⟨h1,h2,h3,h4,h5,_⟩
  obtain⟨p,⟨x,y,z⟩,c⟩:=a;obtain⟨p',⟨x',y',z'⟩,c'⟩:=b;simp only at h1 h2 h3 h4 h5;rw[h1,h2,h3,h4,h5]
 .intro h;subst h;exact⟨rfl,rfl,rfl,rfl,rfl,trivial⟩
theorem bu{a b:List α}(hl:a.length=b.length)(h:∀j (h1:j<a.length) (h2:j<b.length),j<i->a[j]=b[j])(hi:a.length<=i):a=b:=
 List.ext_getElem hl fun j h1 h2=>h j h1 h2 sP
theorem Yh(a b:List Cp)(ha:CC a):PC 14 [sl Aq a,sl Aq b] (vb (decide (a=b))):=by
 have qY:a.length<=1073741824:=ha;refine Ps Dj Tryz.func14 rfl (Nz rfl) (Yi (fun h1=>?_) (fun h1=>?_))
 .have h1:((a.map Aq).length:Int)≠((b.map Aq).length:Int):=h1;exact D7.of_eq (show vb false=vb (decide (a=b)) by rw[Ae (fun e=>h1 (by rw[e]))])
 have h1:((a.map Aq).length:Int)=((b.map Aq).length:Int):=Ax h1;have fI:a.length=b.length:=by have q:=h1;rw[Lm,Lm]at q;omega
 refine Xi {q:Nat // q<=a.length/\∀j (h1:j<a.length) (h2:j<b.length),j<q->a[j]=b[j]} (Xi (fun q=>⟨[(0,sl Aq a),(1,sl Aq b),(5,vi q.1)],[],Ao⟩) (Xi (fun q=>a.length-q.1) (Yi (Xi ⟨0,Ar _,fun _ _ _ h=>absurd h (Dr _)⟩ ?_) ?_)))
 .exact⟨Z3,Tv,Fh,Tv⟩
 intro⟨i,i1,i2⟩;have i1:i<=a.length:=i1;have i2:∀j (h1:j<a.length) (h2:j<b.length),j<i->a[j]=b[j]:=i2;refine Yi (fun h3=>?_) (fun h3=>?_)
 .have h3:(i:Int)<((a.map Aq).length:Int):=h3;have n3:=FL h3;have nb:i<b.length:=by omega
  refine Xi (Aq a[i]) (Yi (GR n3) (Yi rfl (yN (Xi (Aq b[i]) (Yi (GR nb) (Yi rfl (yN (Yi (fun h4=>?_) (fun h4=>?_)))))))))
  .have h4:(a[i].path:ByteArray)=b[i].path/\(a[i].ver.a:Int)=b[i].ver.a/\(a[i].ver.b:Int)=b[i].ver.b/\(a[i].ver.c:Int)=b[i].ver.c/\(a[i].bytes:ByteArray)=b[i].bytes/\True:=h4;refine Yi sT (Yi (Ii i sP) (Xi ⟨i+1,n3,fun j g1 g2 g3=>by rcases Be j i with g4 | g4;exact i2 j g1 g2 g4;have e:j=i:=sP;subst e;exact dG.1 h4⟩ ?_));exact⟨Dl a.length i sP,Z3,Tv,Fh,Tv⟩
  have h4:¬((a[i].path:ByteArray)=b[i].path/\(a[i].ver.a:Int)=b[i].ver.a/\(a[i].ver.b:Int)=b[i].ver.b/\(a[i].ver.c:Int)=b[i].ver.c/\(a[i].bytes:ByteArray)=b[i].bytes/\True):=h4;refine Yi sT ?_;exact D7.of_eq (show vb false=vb (decide (a=b)) by rw[Ae (fun e=>h4 (dG.2 (by subst e;rfl)))])
 have h3:¬((i:Int)<((a.map Aq).length:Int)):=h3;have n3:=DC h3;exact D7.of_eq (show vb true=vb (decide (a=b)) by rw[Ah (bu fI i2 (BI (DC h3)))])
def JN:Option Rl:=(CM x (A6 c)).map fun r=>{ r with yanked:=false }
def FX(x:List Rl):List Cp->Option (List Rl)
 | []=>some []
 |c::l=>(JN x c).bind fun r=>(FX x l).map (r :: ·)
theorem On(x:List Rl):∀(s t:List Cp),FX x (s++t)=(FX x s).bind fun a=>(FX x t).map (a++·)
 | [],t=>by show FX x t=(some []).bind _;simp
 |y::s,t=>by
  show(JN x y).bind (fun c=>(FX x (s++t)).map (c :: ·))=Option.bind ((JN x y).bind fun c=>(FX x s).map (c :: ·)) _;rw[On x s t];cases JN x y with
  |none=>rfl
  |some c=>
   cases FX x s with
   |none=>rfl
   |some a=>cases FX x t<;>rfl
theorem Qd{x:List Rl}{s:List Cp}(h:i<s.length){c:Rl}(hN:FX x (s.take i)=some N)(hc:JN x s[i]=some c):FX x (s.take (i+1))=some (N++[c]):=by
 rw[A2,Ge h,On,hN];show Option.map _ ((JN x s[i]).bind _)=_;rw[hc];rfl
theorem Qe{x:List Rl}{s:List Cp}(h:i<s.length)(hc:JN x s[i]=none):FX x s=none:=by
 have e:s=s.take i++s[i]::s.drop (i+1):=by rw[<-AG h,Ev]
 rw[e,On];cases FX x (s.take i)with
 |none=>rfl
 |some a=>show Option.map _ ((JN x s[i]).bind _)=_;rw[hc];rfl
theorem H4{x:List Rl}:∀{s:List Cp} {N:List Rl},FX x s=some N->N.length=s.length
 | [],N,h=>by cases h;rfl
 |y::s,N,h=>by
  have h:(JN x y).bind (fun c=>(FX x s).map (c :: ·))=some N:=h;cases hc:JN x y with
  |none=>rw[hc]at h;cases h
  |some c=>
   rw[hc]at h;have h:(FX x s).map (c :: ·)=some N:=h;obtain⟨M,h1,rfl⟩:=Ay.1 h;rw[Am,H4 h1];rfl
def IE(l:List Cp)(N:List Rl):Bool:=(l.zip N).all fun p=>decide (Bu p.1.bytes=p.2.arch)
theorem Qq{l:List Cp}(hl:N.length=l.length)(h:∀j (h1:j<l.length) (h2:j<N.length),j<i->Bu l[j].bytes=N[j].arch)(hi:l.length<=i):IE l N=true:=by
 rw[IE,AJ];intro p hp;obtain⟨j,hj,rfl⟩:=A9.1 hp;rw[List.length_zip]at hj;rw[List.getElem_zip];exact Ah (h j sP sP sP)
theorem Qr{l:List Cp}(h1:i<l.length)(h2:i<N.length)(h:¬Bu l[i].bytes=N[i].arch):IE l N=false:=by
 rw[A8,IE,Ne,AJ];intro q;have hz:i<(l.zip N).length:=by rw[List.length_zip];omega
 have:=q _ (Af hz)
 rw[List.getElem_zip]at this;exact h (AZ this)
def EO(l:List Cp):List Rl×Int:=
 if BA x≠0 then([],1)else if CD l≠0 then([],CD l)else match FX x l with
  |none=>([],6)
  |some N=>if IE l N=true then(N,0)else([],9)
def Rt(l:List Cp):AV:=.tup [WG (EO x l).1 (if(EO x l).2=0 then ifs else []),vi (EO x l).2]
theorem Gl{x:List Rl}{ifs:List (List AV)}{l:List Cp}{e:Int}(h:EO x l=([],e))(he:e≠0):D7 (.tup [.agg [nzA,nzA],vi e]) (Rt x ifs l):=by
 unfold Rt;rw[h,Aj he];exact .tup ⟨.agg ⟨.nil,.nil,trivial⟩,.refl _,trivial⟩
theorem dD(l:List Cp)(hx:∀r∈x,KF r)(hl:CC l)(hp:∀c∈l,CT c.path)(hb:∀c∈l,c.bytes.size<=100000000)(rb:PC 48 [.slice .none ifs] (.slice .none ifs)):PC 16 [.agg (Ic x ifs),sl Aq l] (Rt x ifs l):=by
 have Ww:l.length<=1073741824:=hl;refine Ps ⟨[2],[],[],[],[],[],[],[(28,(7,0,48,9))],[],[],[6,11,20,21]⟩ Tryz.func16 rfl (Nz rfl) (yN (Xi .pure (Xi _ (Yi (lO V4 x ifs hx) (Yi (fun h1=>?_) (fun h1=>?_))))))
 .have h1:((BA x):Int)≠(0:Int):=h1;refine yN (yN ?_);exact Gl (by rw[EO,Av h1]) sR
 have h1:((BA x):Int)=(0:Int):=Ax h1;refine Xi .pure (Xi _ (Yi (GI l hl hp) (Yi (fun h3=>?_) (fun h3=>?_))))
 .have h3:((CD l):Int)≠(0:Int):=h3;refine yN (yN ?_);exact Gl (by rw[EO,Aj (fun c=>c h1),Av h3]) h3
 have h3:((CD l):Int)=(0:Int):=Ax h3;refine cU [(1,sl Aq l),(2,.ref 2 0),(4,.ref 4 0)] [(2,.ro (Ic x ifs)),(4,.cells [nzA,nzA])] Z3 Z2 (Xi .pure (Xi _ (Yi rb (yN (Xi {q:Nat×List Rl // q.1<=l.length/\FX x (l.take q.1)=some q.2} (Xi (fun q=>⟨[(1,sl Aq l),(2,.ref 2 0),(4,.ref 4 0),(7,.ref 7 0),(28,sl Aq l),(29,vi (l.map Aq).length),(30,vi q.1.1)],[(2,.ro (Ic x ifs)),(4,.cells [nzA,nzA]),(7,.cells [.slice (.id 48 9) (q.1.2.map Bb),.slice .none ifs]),(48,.tok 9 q.1.2.length)],Ao⟩) (Xi (fun q=>l.length-q.1.1) (Yi (Xi ⟨(0,[]),Ar _,rfl⟩ ?_) ?_))))))))
 .exact⟨Z7,Z4,Fh,Tv⟩
 intro⟨⟨i,N⟩,i1,i2⟩;have i1:i<=l.length:=i1;have i2:FX x (l.take i)=some N:=i2;have i3:N.length<=l.length:=by rw[H4 i2,Al];omega
 refine Yi (fun h5=>?_) (fun h5=>?_)
 .have h5:(i:Int)<((l.map Aq).length:Int):=h5;have n5:=FL h5;refine Xi (Aq l[i]) (Yi (GR n5) (Yi rfl (yN (yN (yN (yN (Bn (H6 (CM x (A6 l[i]))) (fun h6=>?_) (fun h6=>?_))))))))
  .refine BF h6 (fun r h6=>?_);have jY:=c53 x ifs l[i].path l[i].ver (c84 x ifs hx) hx;rw[h6]at jY;refine Xi .pure (Xi _ (Yi jY (yN (cU [(1,sl Aq l),(2,.ref 2 0),(4,.ref 4 0),(7,.ref 7 0),(10,.ref 10 0),(11,vb true),(28,sl Aq l),(29,vi (l.map Aq).length),(30,vi i)] [(2,.ro (Ic x ifs)),(4,.cells [nzA,nzA]),(7,.cells [.slice (.id 48 9) (N.map Bb),.slice .none ifs]),(10,.cells (Bb r)),(48,.tok 9 N.length)] Z9 Z5 (yN (yN (Yi (jq rfl sP sR) (yN (Yi (Ii i sP) (Xi ⟨(i+1,N++[{ r with yanked:=false }]),n5,Qd n5 i2 (by rw[JN,h6];rfl)⟩ ?_))))))))));exact⟨Dl l.length i sP,Z7,⟨Zr,Zr,⟨(show HO.cells [.slice (.id 48 9) ((N.map Bb)++[[vs r.path,vi r.ver.a,vi r.ver.b,vi r.ver.c,sl BU r.reqs,vs r.arch,vs r.ifc,vs r.cert,vb false]]),.slice .none ifs]=.cells [.slice (.id 48 9) ((N++[({ r with yanked:=false }:Rl)]).map Bb),.slice .none ifs] by rw[AK];rfl),rfl⟩,⟨l5,rfl⟩,Tv⟩,Fh,Tv⟩
  have jY:=c53 x ifs l[i].path l[i].ver (c84 x ifs hx) hx;rw[h6]at jY;refine Xi .pure (Xi _ (Yi jY (yN (cU [(1,sl Aq l),(2,.ref 2 0),(4,.ref 4 0),(7,.ref 7 0),(10,.ref 10 0),(11,vb false),(28,sl Aq l),(29,vi (l.map Aq).length),(30,vi i)] [(2,.ro (Ic x ifs)),(4,.cells [nzA,nzA]),(7,.cells [.slice (.id 48 9) (N.map Bb),.slice .none ifs]),(10,.cells [vs ⟨#[]⟩,vi 0,vi 0,vi 0,nzA,vs ⟨#[]⟩,vs ⟨#[]⟩,vs ⟨#[]⟩,vb false]),(48,.tok 9 N.length)] Z9 Z5 (yN (yN ?_))))));exact Gl (by rw[EO,Aj (fun c=>c h1),Aj (fun c=>c h3),Qe n5 (by rw[JN,h6];rfl)]) sR
 have h5:¬((i:Int)<((l.map Aq).length:Int)):=h5;have n5:=DC h5;have i4:FX x l=some N:=by rw[As (BI (DC h5))]at i2;exact i2
 have i5:N.length=l.length:=H4 i4;refine Xi {q:Nat // q<=l.length/\∀j (h1:j<l.length) (h2:j<N.length),j<q->Bu l[j].bytes=N[j].arch} (Xi (fun q=>⟨[(4,.ref 4 0),(7,.ref 7 0),(54,sl Aq l),(55,vi (l.map Aq).length),(56,vi q.1)],[(4,.cells [nzA,nzA]),(7,.cells [.slice (.id 48 9) (N.map Bb),.slice .none ifs]),(48,.tok 9 N.length)],Ao⟩) (Xi (fun q=>l.length-q.1) (Yi (Xi ⟨0,Ar _,fun _ _ _ h=>absurd h (Dr _)⟩ ?_) ?_)))
 .exact⟨Z5,Z3,Fh,Tv⟩
 intro⟨k,k1,k2⟩;have k1:k<=l.length:=k1;have k2:∀j (h1:j<l.length) (h2:j<N.length),j<k->Bu l[j].bytes=N[j].arch:=k2;refine Yi (fun MO=>?_) (fun MO=>?_)
 .have MO:(k:Int)<((l.map Aq).length:Int):=MO;have n10:=FL MO;have nN:k<N.length:=by have q:=FL MO;omega
  refine Xi (Aq l[k]) (Yi (GR n10) (Yi rfl (yN (yN (Xi _ (Yi (IU l[k].bytes (hb _ (Af n10))) (Xi (Bb N[k]) (Yi (GR nN) (Yi rfl (Yi (fun Kn=>?_) (fun Kn=>?_)))))))))))
  .have Kn:((Bu l[k].bytes):ByteArray)≠N[k].arch:=Kn;refine Yi sT (cU [(4,.ref 4 0)] [(4,.cells [nzA,nzA])] Z1 Z1 (yN (yN ?_)));exact Gl (by rw[EO,Aj (fun c=>c h1),Aj (fun c=>c h3),i4];show(if IE l N=true then _ else _)=_;rw[Qr n10 sP Kn];rfl) sR
  have Kn:((Bu l[k].bytes):ByteArray)=N[k].arch:=Ax Kn;refine Yi sT (cU [(4,.ref 4 0),(7,.ref 7 0),(54,sl Aq l),(55,vi (l.map Aq).length),(56,vi k)] [(4,.cells [nzA,nzA]),(7,.cells [.slice (.id 48 9) (N.map Bb),.slice .none ifs]),(48,.tok 9 N.length)] Z5 Z3 (Yi (Ii k sP) (Xi ⟨k+1,n10,fun j g1 g2 g3=>by rcases Be j k with g4 | g4;exact k2 j g1 g2 g4;have e:j=k:=sP;subst e;exact Kn⟩ ?_)));exact⟨Dl l.length k sP,Z5,Z3,Fh,Tv⟩
 have MO:¬((k:Int)<((l.map Aq).length:Int)):=MO;have n10:=DC MO;refine yN (yN (yN ?_));have e:EO x l=(N,0):=by rw[EO,Aj (fun c=>c h1),Aj (fun c=>c h3),i4];show(if IE l N=true then _ else _)=_;rw[Qq sP k2 (BI (DC MO))];rfl
 exact D7.of_eq (show AV.tup [.agg (Ic N ifs),vi 0]=Rt x ifs l by rw[Rt,e];rfl)
end Go.Eng
