/- Lemmas for the claims of this seat, without a condition: part 24 (J2, J2e, E9, E10, E11, E25, E12, E13, R1, R2, R3, R4). -/
import Derived.Test.YtpgfieopnnkpfaaGreatDoorNA23
import Derived.Test.YtpgfieopnnkpfaaGreatDoorNA14
import Derived.Lib.SmallJoins
namespace Go.Proofs.YtpgfieopnnkpfaaGreatDoor.joins
open Go Go.Eng Go.Proofs Go.ChangeShapes Go.WideShapes Go.ChangeAt Go.RowKit
theorem own:ownKnob Tryz.prog.godebug=none:=by kernel_rfl
def flatD:Nat→DataW Unit→List Value
 | 0,_=>[]
 | n+1,.agg l=>l.flatMap (flatD n)
 | _+1,.lit (.int k i)=>[.int k i]
 | _+1,_=>[]
def layIn (d:DataW Unit):Obj→Obj
 | .cells _ t frozen=>.cells (flatD 4 d).toArray t frozen
 | o=>o
noncomputable def laidWorld (os:Os):World :=
 { World.holding Tryz.prog os ⟨#[],#[],[]⟩ with heap:=(((((World.holding Tryz.prog os ⟨#[],#[],[]⟩).heap.modify 3 (layIn Rows.laid_internal_strconv_uint64pow10)).modify 4 (layIn Rows.laid_math_bits_deBruijn32tab)).modify 5 (layIn Rows.laid_math_bits_deBruijn64tab)).modify 6 (layIn Rows.laid_unicode_utf8_first)).modify 7 (layIn Rows.laid_unicode_utf8_acceptRanges) }
abbrev nilV:Value:=.slice none 0 0
theorem arr1 {args:Array Value} {a:Value} (h:args.toList=[a]):args=#[a]:=by
 cases args; simp_all
theorem arr2 {args:Array Value} {a b:Value} (h:args.toList=[a,b]):args=#[a,b]:=by
 cases args; simp_all
theorem arr3 {args:Array Value} {a b c:Value} (h:args.toList=[a,b,c]):args=#[a,b,c]:=by
 cases args; simp_all
theorem arr4 {args:Array Value} {a b c d:Value} (h:args.toList=[a,b,c,d]):args=#[a,b,c,d]:=by
 cases args; simp_all
theorem arr5 {args:Array Value} {a b c d e:Value} (h:args.toList=[a,b,c,d,e]):args=#[a,b,c,d,e]:=by
 cases args; simp_all
theorem oU16 {H:Type} {enc:TypeId × Value→H} {w:World} : Op enc w 51 (fun n:Int=>[.v (.int .u16 n)]) (fun n=>0≤n∧n≤65535):=(opens_int Tryz.underlying51).to id (fun _ h=>⟨rfl,h⟩)
theorem oInt {H:Type} {enc:TypeId × Value→H} {w:World} : Op enc w 3 (fun n:Int=>[vi n]) InI64:=(opens_int Tryz.underlying3).to id (fun x h=>⟨rfl,by
  have h1:(-9223372036854775808:Int)≤x:=h.1
  have h2:x≤(9223372036854775807:Int):=h.2
  show -9223372036854775808≤x∧x<9223372036854775808
  omega⟩)
theorem short_of {x:List Rl} {roots:List Rq} {l:List Nf} (h:x.length≤NB∧∀ r ∈ x,OkRl r) (k:OkRqs roots) (q:l.length≤NB∧∀ i ∈ l,i.path.size≤NB):ShortP x roots l:=fun p hp=>by
 unfold pathsU at hp
 rcases List.mem_append.1 hp with hp | hp
 ·obtain ⟨r,hr,rfl⟩:=List.mem_map.1 hp
  exact (h.2 r hr).1
 ·rcases List.mem_append.1 hp with hp | hp
  ·obtain ⟨y,hy,rfl⟩:=List.mem_map.1 hp
   obtain ⟨g,hg,hyg⟩:=List.mem_flatten.1 hy
   obtain ⟨r,hr,rfl⟩:=List.mem_map.1 hg
   exact ((h.2 r hr).2.2 y hyg).1
  ·rcases List.mem_append.1 hp with hp | hp
   ·obtain ⟨y,hy,rfl⟩:=List.mem_map.1 hp
    exact (k.2 y hy).1
   ·obtain ⟨y,hy,rfl⟩:=List.mem_map.1 hp
    exact q.2 y hy
theorem looksOff:true=Tryz.pinned.checked.prog.looks []:=by kernel_rfl
theorem noStand:∀ t ∈ ([42,43,32,51,66,3,23]:List Nat),Tryz.pinned.checked.prog.wantsStandIn t=false:=by
 intro t ht
 simp only [List.mem_cons,List.mem_nil_iff,or_false] at ht
 rcases ht with rfl | rfl | rfl | rfl | rfl | rfl | rfl <;> exact (show Tryz.prog.wantsStandIn _=false by kernel_rfl)
end Go.Proofs.YtpgfieopnnkpfaaGreatDoor.joins

namespace Go.Proofs.YtpgfieopnnkpfaaGreatDoor.joins
open Go Go.Eng Go.Proofs Go.ChangeShapes Go.WideShapes Go.ChangeAt Go.RowKit
def errAt (b:Nat):Obj→Obj
 | .cells _ t f=>.cells #[.iface 299 (.pointer (some ⟨b,0,none⟩))] t f
 | o=>o
abbrev errObj (s:ByteArray):Obj:=.cells #[.string s] 301
noncomputable def laidWorldE (os:Os):World :=
 { laidWorld os with heap:=((((laidWorld os).heap.modify 1 (errAt (laidWorld os).heap.size)).modify 2 (errAt ((laidWorld os).heap.size+1))).push (errObj ⟨#[105,110,118,97,108,105,100,32,115,121,110,116,97,120]⟩)).push (errObj ⟨#[118,97,108,117,101,32,111,117,116,32,111,102,32,114,97,110,103,101]⟩) }
end Go.Proofs.YtpgfieopnnkpfaaGreatDoor.joins

namespace Go.Eng
open Go.Proofs
theorem YCall.pre {P:Program} {Y Y' : Gh→World→Prop} {l:Nat} {args:List AV} {h0:Nat→HO} {Q:AV→(Nat→HO)→Prop} (h:YCall P Y l args h0 Q) (hp:∀ g w,Y' g w→Y g w):YCall P Y' l args h0 Q :=
 fun g w vals q1 q2 q3 q4=>h g w vals q1 q2 q3 (hp g w q4)
abbrev idR:Ren:=[(1000,1000),(1001,1001)]
abbrev lnH (L:List ByteArray) (k:Nat):List (Nat × HO):=[(1000,.cells [.slice (.id 1001 1) ((L.take k).map encStr)]),(1001,.tok 1 ((L.take k).map encStr).length)]
noncomputable abbrev cxy (pl:Pol) (l:Nat) (Y:Gh→World→Prop):Cx:=⟨Tryz.prog,tab,pl,true,0,fun l' σ' g w=>l'=l→σ'=idR→Y g w⟩
abbrev linesL (own:List Nf) (kept:List (List Tm)):List ByteArray:=linesW lineI own kept
theorem linesL_len (own:List Nf) (kept:List (List Tm)):(linesL own kept).length=own.length:=by unfold linesL linesW; rw [Lm,List.length_range]
theorem linesL_at (own:List Nf) (kept:List (List Tm)) {i:Nat} (h1:i<own.length) (h2:i<kept.length):(linesL own kept)[i]?=some (lineI i kept[i] own[i]):=by
 unfold linesL linesW;rw [List.getElem?_map,List.getElem?_range h1];simp only [Option.map_some];rw [List.getD_eq_getElem?_getD,List.getD_eq_getElem?_getD,Ge h1,Ge h2]; rfl
theorem lnH_succ (L:List ByteArray) {i:Nat} {s:ByteArray} (h:L[i]?=some s):L.take (i+1)=L.take i++[s]:=by rw [List.take_add_one,h]; rfl

theorem e58 (own:List Nf) (kept:List (List Tm)):PC 58 [sl encNf own,sl encInc kept] (.clo 111 [.cptr [sl encNf own],.cptr [sl encInc kept]]):=by
 refine Ps ⟨[2,3],[],[],[],[],[],[],[],[],[],[]⟩ Tryz.func58 rfl (Nz rfl) ?_;exact .refl _
theorem itD_size {n:Int} (h0 : -9223372036854775808≤n) (h1:n≤9223372036854775807):(itB n++bDot).size≤22:=by
 have:=itB_size h0 h1
 rw [bsize_app]; show _+1≤_; omega
set_option maxHeartbeats 4000000 in
theorem e111 {Y:Gh→World→Prop} (l:Nat) (own:List Nf) (kept:List (List Tm)) (hlen:kept.length=own.length) (hn:own.length≤1073741824) (hown:∀ y ∈ own,NfI y) (hkept:∀ t ∈ kept,TmsI t)
  (hy:∀ i s,i<own.length→(linesL own kept)[i]?=some s→YCall Tryz.prog Y l [vs s] (heapOf (lnH (linesL own kept) i) hfree) fun r h'=>r=vb true∧h'=heapOf (lnH (linesL own kept) (i+1)) hfree) :
  ICall Tryz.prog Y idR 111 [.v (.func (.yield l) #[] #[]),.cptr [sl encNf own],.cptr [sl encInc kept]] (heapOf (lnH (linesL own kept) 0) hfree) fun _ h'=>h'=heapOf (lnH (linesL own kept) own.length) hfree:=by
 refine icall_of (l:=l) (cxy ⟨[],[],[],[],[],[],[],[],[(27,4)],[],[3,4]⟩ l Y) idR rfl tab_ok hm rfl Tryz.func111 (by kernel_rfl) rfl (Nz rfl) (by kernel_rfl) rfl rfl ?_;refine Xi {i:Nat // i≤own.length} (Xi (fun q=>⟨[(0,.v (.func (.yield l) #[] #[])),(2,.cptr [sl encInc kept]),(6,sl encNf own),(7,vi (own.map encNf).length),(8,vi q.1)],[(1000,.cells [.slice (.id 1001 1) (((linesL own kept).take q.1).map encStr)]),(1001,.tok 1 (((linesL own kept).take q.1).map encStr).length)],hfree⟩) (Xi (fun q=>own.length - q.1) (Yi (Xi ⟨0,Nat.zero_le _⟩ ?_) ?_)))
 ·exact ⟨Z5,Z2,Fh,ext_dec (by kernel_rfl)⟩
 intro ⟨i,i1⟩;have i1:i≤own.length:=i1;refine Yi (fun h1=>?_) (fun h1=>?_)
 ·have h1:(i:Int)<((own.map encNf).length:Int):=h1;have n1:i<own.length:=by have q:=h1; rw [Lm] at q; omega
  have g1:own[i]?=some own[i]:=Ge n1;have hki:i<kept.length:=by omega
  have gk:kept[i]?=some kept[i]:=Ge hki;have hoi:=hown own[i] (List.getElem_mem n1);have hti:=hkept kept[i] (List.getElem_mem hki);have hLi:=linesL_at own kept n1 hki;refine Xi (encNf own[i]) (Yi (Yi (Nn i) (map_at g1)) (Yi rfl ?_));refine Yi (Nz rfl) ?_;refine Yi (Nz rfl) ?_;refine Xi ⟨[(0,.v (.func (.yield l) #[] #[])),(2,.cptr [sl encInc kept]),(4,vi i),(5,.ref 5 0),(6,sl encNf own),(7,vi (own.map encNf).length),(8,vi i)],[(5,.cells (encNf own[i])),(1000,.cells [.slice (.id 1001 1) (((linesL own kept).take i).map encStr)]),(1001,.tok 1 (((linesL own kept).take i).map encStr).length)],hfree⟩ (Yi ⟨Z7,Z3,Fh,ext_dec (by kernel_rfl)⟩ ?_)
  refine Yi (Ii i (by omega)) ?_;refine Xi _ (Yi (e39 (i+1) (by unfold InI64; omega)) ?_);refine Yi (cat_ok (Nat.le_trans (itB_size (by omega) (by omega)) (by decide)) (by decide)) ?_;refine Xi (encInc kept[i]) (Yi (Yi (Nn i) (map_at gk)) (Yi rfl ?_));refine Xi _ (Yi (e15 kept[i] hti.len hti.few hti.path) ?_);refine Yi (Nz rfl) ?_;refine Xi _ (Yi (e112 own[i] hoi) ?_);refine Xi _ (Yi (show PC 44 [sl encStr [(itB (i+1))++(⟨#[46]⟩ : ByteArray),(incText kept[i]),(reasonI own[i])]] (vs (lineI i kept[i] own[i])) from e44 [(itB (i+1))++(⟨#[46]⟩ : ByteArray),(incText kept[i]),(reasonI own[i])] (by simp) (words_bound (B:=90000000000000) (List.forall_mem_cons.2 ⟨Nat.le_trans (itD_size (by omega) (by omega)) (by decide),List.forall_mem_cons.2 ⟨incText_size hti,List.forall_mem_cons.2 ⟨Nat.le_trans (reasonI_size hoi) (by decide),List.forall_mem_nil _⟩⟩⟩) (by simp))) ?_);refine Yi ⟨rfl,rfl⟩ (Xi (.bool true) (Xi (((linesL own kept).take (i+1)).map encStr) (Xi (((linesL own kept).take (i+1)).map encStr).length (Yi (YCall.pre (hy i (lineI i kept[i] own[i]) n1 hLi) (fun g w q=>q rfl rfl)) ?_))));refine Yi (by kernel_rfl) ?_;refine Xi ⟨[(0,.v (.func (.yield l) #[] #[])),(2,.cptr [sl encInc kept]),(6,sl encNf own),(7,vi (own.map encNf).length),(8,vi i)],[(1000,.cells [.slice (.id 1001 1) (((linesL own kept).take (i+1)).map encStr)]),(1001,.tok 1 (((linesL own kept).take (i+1)).map encStr).length)],hfree⟩ (Yi ⟨Z5,Z2,Fh,ext_dec (by kernel_rfl)⟩ ?_)
  refine Yi (Ii i (by omega)) ?_;refine Xi ⟨i+1,by omega⟩ ?_;exact ⟨Dl own.length i (by omega),Z5,Z2,Fh,ext_dec (by kernel_rfl)⟩
 have h1:¬ ((i:Int)<((own.map encNf).length:Int)):=h1;have n1:¬ i<own.length:=by have q:=h1; rw [Lm] at q; omega
 have hie:i=own.length:=by omega
 exact (show heapOf (lnH (linesL own kept) i) hfree=heapOf (lnH (linesL own kept) own.length) hfree by rw [hie])
end Go.Eng

namespace Go.Eng
open Go.Proofs
theorem rfk_mk {cx2:Cx} {P:Program} {N:Nat} {fn:Func} {res:AV} {b rest:Code} {st:St} (σF σ:Ren) (H0 Hn:List (Nat × HO)) (gf:Nat) (caps:List AV) {bid s:Nat} {ps:Array Tmp} {asg body:Code}
  (hb:b=.block bid (.rangeFunc (.tmp s) ps asg body)) (k1:(renOk σF&&newFree st.h 0 0&&newApart σF 0 0)=true) (k2:renH σF st.h=heapOf H0 hfree) (k3:(renInj σ&&extOk σ H0)=true) (k4:extOk σ Hn=true)
  (k5:ren (rfwd σF) st.h (st.t s)=.clo gf caps)
  (k6:∀ (l D:Nat) (f' : FuncId) (tm:Array Value),tm.size=N→ICall P (fun g w=>w.heap[l]?=some (.loop (recL f' tm ps asg body D .ready))∧∀ i,Rep g w (used (heapOf H0 hfree)) (ren (rfwd σF) st.h (st.t i)) (tm.getD i undef)) σ gf
   (.v (.func (.yield l) #[] #[]) :: caps) (heapOf H0 hfree) fun _ h'=>h'=heapOf Hn hfree)
  (k7:codeOk N rest=true) (k8:awp cx2 rest (endK cx2 fn.results.toList fun r=>Sub r res) ⟨fun i=>ren (rfwd σF) st.h (st.t i),heapOf Hn hfree⟩):RfK cx2 P N fn res b rest st :=
 ⟨σF,σ,H0,Hn,bid,s,ps,asg,body,gf,caps,hb,k1,k2,k3,k4,k5,k6,k7,k8⟩
theorem lnH_used (L:List ByteArray) (a b:Nat):∀ i,used (heapOf (lnH L a) hfree) i→used (heapOf (lnH L b) hfree) i:=by
 intro i h;unfold used at *
 by_cases e:i=1000
 ·subst e; intro q; cases q
 ·by_cases e' : i=1001
  ·subst e'; intro q; cases q
  ·exfalso; apply h
   simp only [heapOf,beq_ne e,beq_ne e',cond_false]; rfl
abbrev linR (x:List Rl) (roots:List Rq) (l:List Nf) (target:Int):AV:=.tup [sl encStr (linesP x roots l target).1,vi (linesP x roots l target).2]
theorem linR_no {x:List Rl} {roots:List Rq} {l:List Nf} {target e:Int} (h:linesP x roots l target=([],e)):Sub (.tup [.v (.slice none 0 0),vi e]) (linR x roots l target) :=
 (show Sub (.tup [.v (.slice none 0 0),vi e]) (.tup [.slice .none [],vi e]) from Sub.tup ⟨.nil,.refl _,trivial⟩).trans (.of_eq (show AV.tup [.slice .none [],vi e]=linR x roots l target by unfold linR; rw [h]; rfl))
abbrev kp (d:List (List Tm)) (U:List Nat) (i:Nat):List (List Tm):=(U.take i).map fun k=>d.getD k []
theorem kp_succ (d:List (List Tm)) (U:List Nat) (i:Nat) (h:i<U.length):kp d U (i+1)=kp d U i++[d.getD U[i] []]:=by
 unfold kp; rw [List.take_succ_eq_append_getElem h,List.map_append]; rfl
theorem getD_atD {d:List (List Tm)} {i:Nat} (h:i<d.length):d[i]?=some (d.getD i []):=by
 rw [List.getD_eq_getElem?_getD,Ge h]; rfl
set_option maxHeartbeats 4000000 in
theorem e24 (x:List Rl) (ifs:List (List AV)) (roots:List Rq) (l:List Nf) (target:Int) (hk:Ck x ifs roots) (hl:Few l) (ht:InI64 target) (hr:roots.length≤1073741824) (hP:ShortP x roots l):PC 24 [ixV x ifs,sl encRq roots,sl encNf l,vi target] (linR x roots l target):=by
 have hk12:=c12 x ifs roots l hk;have hl:l.length≤1073741824:=hl;have hml:(l.map encNf).length=l.length:=Lm _;obtain ⟨d,hd⟩ : ∃ d,d=(deriveP x roots l).1:=⟨_,rfl⟩;obtain ⟨ee,he⟩ : ∃ ee,ee=(deriveP x roots l).2:=⟨_,rfl⟩;rw [← hd,← he] at hk12;have hUl:∀ i ∈ usedL l target,i<l.length:=usedL_lt;have hUn:=usedL_len (l:=l) (target:=target);have h18:=e18 l target hl ht;obtain ⟨U,hU⟩ : ∃ U,U=usedL l target:=⟨_,rfl⟩;rw [← hU] at hUl hUn h18;have h21:=e21 l target hl ht;obtain ⟨own,how⟩ : ∃ own,own=trimL l target:=⟨_,rfl⟩;have hwl:own.length=U.length:=by rw [how]; unfold trimL; rw [Lm,hU]
 rw [← how] at h21;refine pcall_rf (cxp ⟨[4],[(12,1)],[],[],[],[],[],[(53,(15,0,16,1))],[],[],[2,4,5,6,10,11,16]⟩) (cxe pl0) rfl tab_ok rfl tab_ok hm rfl rfl Tryz.func24 (by kernel_rfl) rfl (Nz rfl) (by kernel_rfl) 7 (fun _ _=>Zr) ?_;refine Yi (Nz rfl) ?_;refine Xi .pure (Xi _ (Yi hk12 ?_));refine Xi ⟨[(2,sl encNf l),(3,vi (target:Int)),(10,sl encInc d),(11,vi ee)],[],hfree⟩ (Yi ⟨Z4,Tv,Fh,Tv⟩ ?_)
 refine Yi (fun h1=>?_) (fun h1=>?_)
 ·have h1:(ee:Int)≠(0:Int):=h1;exact linR_no (by unfold linesP; rw [if_pos (by rw [← he]; exact h1),← he])
 have h1:(ee:Int)=(0:Int):=Classical.byContradiction h1;have hee:(deriveP x roots l).2=0:=by rw [← he]; exact h1
 obtain ⟨q1,q2,q3,q4⟩:=deriveP_ok hee;have hdl:d.length=l.length:=by rw [hd]; exact (derive_at q4).1
 have hdt:∀ t ∈ d,TmsI t:=by rw [hd]; exact derived_tms hP hee
 refine Xi ⟨[(2,sl encNf l),(3,vi (target:Int)),(10,sl encInc d)],[],hfree⟩ (Yi ⟨Z3,Tv,Fh,Tv⟩ ?_)
 refine Yi (fun h3=>?_) (fun h3=>?_)
 ·have h3:((target:Int):Int)<(0:Int):=h3;refine Xi ⟨[],[],hfree⟩ (Yi ⟨Tv,Tv,Fh,Tv⟩ ?_)
  exact linR_no (by unfold linesP; rw [if_neg (fun h=>h hee),if_pos (.inl h3)])
 have h3:¬ (((target:Int):Int)<(0:Int)):=h3;refine Yi (fun h5=>?_) (fun h5=>?_)
 ·have h5:((l.map encNf).length:Int)≤((target:Int):Int):=h5;refine Xi ⟨[],[],hfree⟩ (Yi ⟨Tv,Tv,Fh,Tv⟩ ?_)
  exact linR_no (by unfold linesP; rw [if_neg (fun h=>h hee),if_pos (.inr (by have q:=h5; rw [hml] at q; exact q))])
 have h5:¬ (((l.map encNf).length:Int)≤((target:Int):Int)):=h5;refine Xi ⟨[(2,sl encNf l),(3,vi (target:Int)),(10,sl encInc d)],[],hfree⟩ (Yi ⟨Z3,Tv,Fh,Tv⟩ ?_)
 refine Xi .pure (Xi _ (Yi h18 ?_));refine Xi {i:Nat // i≤U.length} (Xi (fun q=>⟨[(2,sl encNf l),(3,vi (target:Int)),(10,sl encInc d),(12,.slice (.id 12 1) ((kp d U q.1).map encInc)),(37,sl encNat U),(38,vi (U.map encNat).length),(39,vi q.1)],[(12,.tok 1 q.1)],hfree⟩) (Xi (fun q=>U.length - q.1) (Yi (Xi ⟨0,Nat.zero_le _⟩ ?_) ?_)))
 ·exact ⟨Z7,Z1,Fh,Tv⟩
 intro ⟨i,i1⟩;have i1:i≤U.length:=i1;have hrl:(kp d U i).length=i:=by unfold kp; rw [Lm,List.length_take]; omega
 have hrl2:(U.take i).length=i:=by rw [List.length_take]; omega
 refine Yi (fun h7=>?_) (fun h7=>?_)
 ·have h7:(i:Int)<((U.map encNat).length:Int):=h7;have n7:i<U.length:=by have q:=h7; rw [Lm] at q; omega
  have g7:U[i]?=some U[i]:=Ge n7;have gy:d[U[i]]?=some (d.getD U[i] []):=getD_atD (by have:=hUl _ (List.getElem_mem n7); omega);refine Xi (encNat U[i]) (Yi (Yi (Nn i) (map_at g7)) (Yi rfl ?_));refine Xi ⟨[(2,sl encNf l),(3,vi (target:Int)),(10,sl encInc d),(12,.slice (.id 12 1) ((kp d U i).map encInc)),(14,vi U[i]),(37,sl encNat U),(38,vi (U.map encNat).length),(39,vi i)],[(12,.tok 1 i)],hfree⟩ (Yi ⟨Z8,Z1,Fh,Tv⟩ ?_)
  refine Xi (encInc (d.getD U[i] [])) (Yi (Yi (show (0:Int)≤(U[i]:Nat) by omega) (map_at gy)) (Yi rfl ?_));have b8:AllLen 1 [[sl encTm (d.getD U[i] [])]]∧((kp d U i).map encInc).length=i∧(((kp d U i).map encInc).length+([[sl encTm (d.getD U[i] [])]]:List (List AV)).length)*24≤140737488355328∧((kp d U i).map encInc).length+([[sl encTm (d.getD U[i] [])]]:List (List AV)).length≤9223372036854775807:=⟨⟨rfl,trivial⟩,(by first | (simp; done) | (rw [Lm]; assumption)),(by simp only [Lm,List.length_cons,List.length_nil]; omega),(by simp only [Lm,List.length_cons,List.length_nil]; omega)⟩
  refine Yi b8 ?_;refine Xi ⟨[(2,sl encNf l),(3,vi (target:Int)),(10,sl encInc d),(12,.slice (.id 12 1) (((kp d U i).map encInc)++[[sl encTm (d.getD U[i] [])]])),(37,sl encNat U),(38,vi (U.map encNat).length),(39,vi i)],[(12,.tok 1 (((kp d U i).map encInc).length+([[sl encTm (d.getD U[i] [])]]:List (List AV)).length))],hfree⟩ (Yi ⟨Z7,Z1,Fh,Tv⟩ ?_)
  refine Yi (Ii i (by omega)) ?_;refine Xi ⟨i+1,by omega⟩ ?_;exact ⟨Dl U.length i (by omega),⟨Zr,Zr,Zr,⟨(show AV.slice (.id 12 1) ((kp d U i).map encInc++[[sl encTm (d.getD U[i] [])]])=.slice (.id 12 1) ((kp d U (i+1)).map encInc) by rw [kp_succ d U i n7,List.map_append]; rfl),rfl⟩,Zr,Zr,Zr,Tv⟩,⟨⟨(show HO.tok 1 (((kp d U i).map encInc).length+([[sl encTm (d.getD U[i] [])]]:List (List AV)).length)=.tok 1 (i+1) by rw [Lm,hrl]; rfl),rfl⟩,Tv⟩,Fh,Tv⟩
 have h7:¬ ((i:Int)<((U.map encNat).length:Int)):=h7;have n7:¬ i<U.length:=by have q:=h7; rw [Lm] at q; omega
 refine Xi .pure (Xi _ (Yi h21 ?_));refine Xi .pure (Xi _ (Yi (e58 own (kp d U i)) ?_));have htl:¬ (target<0∨(l.length:Int)≤target):=by have q:=h5; rw [hml] at q; omega
 obtain ⟨t,htt⟩ : ∃ t:Nat,target=t:=⟨target.toNat,by omega⟩;have hown:∀ y ∈ own,NfI y:=by rw [how,htt]; exact trim_nf hP hr hee (by omega)
 have hkq:kp d U i=kp d U U.length:=by rw [show i=U.length by omega]
 obtain ⟨kept,hkp⟩ : ∃ kept,kept=kp d U U.length:=⟨_,rfl⟩;have hkl:kept.length=own.length:=by rw [hkp,hwl]; unfold kp; rw [Lm,List.length_take]; omega
 have hkt:∀ t ∈ kept,TmsI t:=by
  rw [hkp];intro t ht';obtain ⟨k,hk',rfl⟩:=List.mem_map.1 ht';exact hdt _ (List.mem_of_getElem? (getD_atD (by have:=hUl k (List.mem_of_mem_take hk'); omega)))
 have hLn:(linesL own kept).length≤65536:=by rw [linesL_len]; omega
 refine rfk_mk [(15,1000),(16,1001)] idR (lnH (linesL own kept) 0) (lnH (linesL own kept) own.length) 111 [.cptr [sl encNf own],.cptr [sl encInc kept]] rfl rfl rfl rfl rfl (show AV.clo 111 [.cptr [sl encNf own],.cptr [sl encInc (kp d U i)]]=.clo 111 [.cptr [sl encNf own],.cptr [sl encInc kept]] by rw [hkq,hkp]) (fun l9 D9 f9 tm9 htm=>e111 l9 own kept hkl (by omega) hown hkt (fun i9 s9 hi9 hs9=>ycall_of (σ:=idR) (cxe pl0) rfl tab_ok hm rfl rfl rfl htm (by kernel_rfl) (by kernel_rfl) (by kernel_rfl) (lnH_used _ _ _) ?_)) (by kernel_rfl) ?_
 ·have b9:AllLen 1 [[vs s9]]∧(((linesL own kept).take i9).map encStr).length=(((linesL own kept).take i9).map encStr).length∧((((linesL own kept).take i9).map encStr).length+([[vs s9]]:List (List AV)).length)*16≤140737488355328∧(((linesL own kept).take i9).map encStr).length+([[vs s9]]:List (List AV)).length≤9223372036854775807 :=
   ⟨⟨rfl,trivial⟩,rfl,by rw [Lm,List.length_take,List.length_singleton]; omega,by rw [Lm,List.length_take,List.length_singleton]; omega⟩
  refine Yi b9 ?_;refine Yi (Nz rfl) ?_;have e9:=lnH_succ (linesL own kept) hs9;exact Yi rfl (show heapOf [(1000,.cells [.slice (.id 1001 1) (((linesL own kept).take i9).map encStr++[[vs s9]])]),(1001,.tok 1 ((((linesL own kept).take i9).map encStr).length+1))] hfree=heapOf (lnH (linesL own kept) (i9+1)) hfree by unfold lnH; rw [e9,List.map_append,List.length_append]; rfl)
 have hLe:(linesL own kept).take own.length=linesL own kept:=List.take_of_length_le (by rw [linesL_len]; omega);exact .of_eq (show AV.tup [.slice .none (((linesL own kept).take own.length).map encStr),vi 0]=linR x roots l target by
  rw [hLe]; unfold linR linesP;rw [if_neg (fun h=>h hee),if_neg htl,← hU,← how,← hd,hkp]; unfold kp; rw [List.take_of_length_le (by omega)])
end Go.Eng

namespace Go.Eng
open Go.Proofs
abbrev rlN (a b:Int):List AV:=[vs exB,vi a,vi b,vi 0,nilA,vs mt,vs mt,vs mt,vb false]
abbrev exC:List AV:=[.slice .none [encRl ⟨exA,⟨1,0,0⟩,[⟨exB,[(2000,1000000)]⟩],mt,mt,mt,false⟩,rlN 1 0,rlN 1 1],nilA]
theorem ex_sub:Sub (.agg exC) (ixV exIx []) :=
 have h (a b:Int):SubL (rlN a b) (encRl ⟨exB,⟨a,b,0⟩,[],mt,mt,mt,false⟩):=⟨.refl _,.refl _,.refl _,.refl _,.nil,.refl _,.refl _,.refl _,.refl _,trivial⟩
 Sub.agg ⟨Sub.slice ⟨⟨.refl _,.refl _,.refl _,.refl _,.refl _,.refl _,.refl _,.refl _,.refl _,trivial⟩,h 1 0,h 1 1,trivial⟩,.nil,trivial⟩
theorem ex_short:ShortP exIx exRoots exInf:=by
 have h:∀ p ∈ pathsU exIx exRoots exInf,p.size≤100:=by decide +kernel
 intro p hp
 have:=h p hp
 show p.size≤1048576;omega
set_option maxHeartbeats 4000000 in
theorem e11  : PC 11 [] (vb true):=by
 have ha:=awake38_true;unfold awake38 at ha;simp only [Bool.and_eq_true,decide_eq_true_eq] at ha;obtain ⟨⟨⟨⟨⟨⟨⟨b1,b2⟩,b3⟩,b4⟩,b5⟩,b6⟩,b7⟩,b8⟩:=ha;have h24:=e24 exIx [] exRoots exInf 6 ex_ck (by decide) ⟨by decide,by decide⟩ (by decide) ex_short;have h24:=h24.args (args':=[.agg exC,sl encRq exRoots,sl encNf exInf,vi 6]) ⟨ex_sub,.refl _,.refl _,.refl _,trivial⟩;have h18:=e18 exInf 5 (by decide) ⟨by decide,by decide⟩;have h21:=e21 exInf 2 (by decide) ⟨by decide,by decide⟩;rw [b7] at h18;have h17:=e17 [3,4,5] [3,4,5] (by decide);rw [decide_eq_true rfl] at h17;unfold linR at h24;rw [b1] at h24;generalize (linesP exIx exRoots exInf 6).1=L at h24 b2 b3 b4 b5 b6;generalize trimL exInf 2=M at h21 b8;have hg (k:Nat) (s:ByteArray) (h:L[k]?=some s):(L.map encStr)[k]?=some (encStr s):=by rw [List.getElem?_map,h]; rfl
 have hg2:=hg 2 _ b3;have hg3:=hg 3 _ b4;have hg5:=hg 5 _ b5;have hg6:=hg 6 _ b6;have hLl:((L.map encStr).length:Int)=7:=by rw [Lm,b2]; rfl
 have hMl:((M.map encNf).length:Int)=3:=by rw [Lm,b8]; rfl
 refine Ps ⟨[],[],[],[],[],[],[],[],[],[],[2,3,4,5,6,7]⟩ Tryz.func11 rfl (Nz rfl) ?_;refine Yi (Nz rfl) ?_;refine Xi ⟨[(1,.ref 1 0)],[(1,.cells [vi 1,vi 0,vi 0])],hfree⟩ (Yi ⟨Z1,Z1,Fh,Tv⟩ ?_)
 refine Xi ⟨[(1,.ref 1 0),(2,.slice (.id 12 2) [[vs ⟨#[98,47,118,49]⟩,.slice .none [[vi 2000,vi 1000000]]]])],[(1,.cells [vi 1,vi 0,vi 0]),(12,.tok 2 1)],hfree⟩ (Yi ⟨Z2,Z2,Fh,Tv⟩ ?_)
 refine Yi (Nz rfl) ?_;refine Yi (Nz rfl) ?_;refine Yi (Nz rfl) ?_;refine Xi ⟨[(3,.ref 3 0)],[(3,.cells [.slice (.id 20 9) [[vs ⟨#[97,47,118,49]⟩,vi 1,vi 0,vi 0,.slice .none [[vs ⟨#[98,47,118,49]⟩,.slice .none [[vi 2000,vi 1000000]]]],vs ⟨#[]⟩,vs ⟨#[]⟩,vs ⟨#[]⟩,vb false],[vs ⟨#[98,47,118,49]⟩,vi 1,vi 0,vi 0,.v (.slice none 0 0),vs ⟨#[]⟩,vs ⟨#[]⟩,vs ⟨#[]⟩,vb false],[vs ⟨#[98,47,118,49]⟩,vi 1,vi 1,vi 0,.v (.slice none 0 0),vs ⟨#[]⟩,vs ⟨#[]⟩,vs ⟨#[]⟩,vb false]],.v (.slice none 0 0)]),(20,.tok 9 3)],hfree⟩ (Yi ⟨Z1,Z2,Fh,Tv⟩ ?_)
 refine Xi ⟨[(3,.ref 3 0),(4,.slice (.id 25 2) [[vs ⟨#[97,47,118,49]⟩,.slice .none [[vi 0,vi 1000000]]]])],[(3,.cells [.slice (.id 20 9) [[vs ⟨#[97,47,118,49]⟩,vi 1,vi 0,vi 0,.slice .none [[vs ⟨#[98,47,118,49]⟩,.slice .none [[vi 2000,vi 1000000]]]],vs ⟨#[]⟩,vs ⟨#[]⟩,vs ⟨#[]⟩,vb false],[vs ⟨#[98,47,118,49]⟩,vi 1,vi 0,vi 0,.v (.slice none 0 0),vs ⟨#[]⟩,vs ⟨#[]⟩,vs ⟨#[]⟩,vb false],[vs ⟨#[98,47,118,49]⟩,vi 1,vi 1,vi 0,.v (.slice none 0 0),vs ⟨#[]⟩,vs ⟨#[]⟩,vs ⟨#[]⟩,vb false]],.v (.slice none 0 0)]),(20,.tok 9 3),(25,.tok 2 1)],hfree⟩ (Yi ⟨Z2,Z3,Fh,Tv⟩ ?_)
 refine Xi ⟨[(3,.ref 3 0),(4,.slice (.id 25 2) [[vs ⟨#[97,47,118,49]⟩,.slice .none [[vi 0,vi 1000000]]]]),(5,.slice (.id 33 6) [[vi 0,vs ⟨#[]⟩,vi 0,vi 0,vi 0,vi 0],[vi 2,vs ⟨#[97,47,118,49]⟩,vi 0,vi 0,vi 0,vi 0],[vi 3,vs ⟨#[97,47,118,49]⟩,vi 0,vi 0,vi 0,vi 1],[vi 1,vs ⟨#[97,47,118,49]⟩,vi 0,vi 0,vi 0,vi 0],[vi 2,vs ⟨#[98,47,118,49]⟩,vi 0,vi 0,vi 0,vi 0],[vi 3,vs ⟨#[98,47,118,49]⟩,vi 0,vi 0,vi 3,vi 4],[vi 3,vs ⟨#[97,47,118,49]⟩,vi 0,vi 0,vi 2,vi 5]])],[(3,.cells [.slice (.id 20 9) [[vs ⟨#[97,47,118,49]⟩,vi 1,vi 0,vi 0,.slice .none [[vs ⟨#[98,47,118,49]⟩,.slice .none [[vi 2000,vi 1000000]]]],vs ⟨#[]⟩,vs ⟨#[]⟩,vs ⟨#[]⟩,vb false],[vs ⟨#[98,47,118,49]⟩,vi 1,vi 0,vi 0,.v (.slice none 0 0),vs ⟨#[]⟩,vs ⟨#[]⟩,vs ⟨#[]⟩,vb false],[vs ⟨#[98,47,118,49]⟩,vi 1,vi 1,vi 0,.v (.slice none 0 0),vs ⟨#[]⟩,vs ⟨#[]⟩,vs ⟨#[]⟩,vb false]],.v (.slice none 0 0)]),(20,.tok 9 3),(25,.tok 2 1),(33,.tok 6 7)],hfree⟩ (Yi ⟨Z3,Z4,Fh,Tv⟩ ?_)
 refine Yi (Nz rfl) ?_;refine Xi .pure (Xi _ (Yi h24 ?_));refine Xi ⟨[(5,.slice (.id 33 6) [[vi 0,vs ⟨#[]⟩,vi 0,vi 0,vi 0,vi 0],[vi 2,vs ⟨#[97,47,118,49]⟩,vi 0,vi 0,vi 0,vi 0],[vi 3,vs ⟨#[97,47,118,49]⟩,vi 0,vi 0,vi 0,vi 1],[vi 1,vs ⟨#[97,47,118,49]⟩,vi 0,vi 0,vi 0,vi 0],[vi 2,vs ⟨#[98,47,118,49]⟩,vi 0,vi 0,vi 0,vi 0],[vi 3,vs ⟨#[98,47,118,49]⟩,vi 0,vi 0,vi 3,vi 4],[vi 3,vs ⟨#[97,47,118,49]⟩,vi 0,vi 0,vi 2,vi 5]]),(6,sl encStr L),(7,vi 0)],[(33,.tok 6 7)],hfree⟩ (Yi ⟨Z3,Z1,Fh,Tv⟩ ?_)
 refine Yi (fun _=>?_) (fun h=>absurd (by decide) h);refine Yi (fun h1=>?_) (fun h1=>?_)
 ·have h1:((L.map encStr).length:Int)=(7:Int):=h1;refine Xi (encStr exL2) (Yi ⟨by decide,hg2⟩ (Yi rfl ?_));refine Yi (fun h2=>?_) (fun h2=>?_)
  ·have h2:(exL2:ByteArray)=⟨#[51,46,32,97,47,118,49,32,49,46,48,46,48,32,105,115,32,110,101,101,100,101,100,32,40,102,114,111,109,32,49,32,97,110,100,32,50,41]⟩:=h2;refine Xi (encStr exL3) (Yi ⟨by decide,hg3⟩ (Yi rfl ?_));refine Yi (fun h3=>?_) (fun h3=>?_)
   ·have h3:(exL3:ByteArray)=⟨#[52,46,32,97,47,118,49,32,49,46,48,46,48,32,110,101,101,100,115,32,98,47,118,49,32,49,46,50,46,48,46,46,32,40,98,121,32,97,47,118,49,32,49,46,48,46,48,41]⟩:=h3;refine Xi (encStr exL5) (Yi ⟨by decide,hg5⟩ (Yi rfl ?_));refine Yi (fun h4=>?_) (fun h4=>?_)
    ·have h4:(exL5:ByteArray)=⟨#[54,46,32,97,47,118,49,32,49,46,48,46,48,32,105,115,32,105,109,112,111,115,115,105,98,108,101,32,40,102,114,111,109,32,52,32,97,110,100,32,53,41]⟩:=h4;refine Xi (encStr exL6) (Yi ⟨by decide,hg6⟩ (Yi rfl ?_));refine Yi (fun h5=>?_) (fun h5=>?_)
     ·have h5:(exL6:ByteArray)=⟨#[55,46,32,116,104,105,115,32,105,115,32,105,109,112,111,115,115,105,98,108,101,32,40,102,114,111,109,32,51,32,97,110,100,32,54,41]⟩:=h5;refine Xi .pure (Xi _ (Yi h18 ?_));refine Xi .pure (Xi _ (Yi h17 ?_));refine Xi .pure (Xi _ (Yi h21 ?_));refine Yi (fun h6=>?_) (fun h6=>?_)
      ·have h6:((M.map encNf).length:Int)=(3:Int):=h6;exact .refl _
      have h6:¬ (((M.map encNf).length:Int)=(3:Int)):=h6;exact absurd hMl h6
     have h5:¬ (exL6:ByteArray)=⟨#[55,46,32,116,104,105,115,32,105,115,32,105,109,112,111,115,115,105,98,108,101,32,40,102,114,111,109,32,51,32,97,110,100,32,54,41]⟩:=h5;exact absurd rfl h5
    have h4:¬ (exL5:ByteArray)=⟨#[54,46,32,97,47,118,49,32,49,46,48,46,48,32,105,115,32,105,109,112,111,115,115,105,98,108,101,32,40,102,114,111,109,32,52,32,97,110,100,32,53,41]⟩:=h4;exact absurd rfl h4
   have h3:¬ (exL3:ByteArray)=⟨#[52,46,32,97,47,118,49,32,49,46,48,46,48,32,110,101,101,100,115,32,98,47,118,49,32,49,46,50,46,48,46,46,32,40,98,121,32,97,47,118,49,32,49,46,48,46,48,41]⟩:=h3;exact absurd rfl h3
  have h2:¬ (exL2:ByteArray)=⟨#[51,46,32,97,47,118,49,32,49,46,48,46,48,32,105,115,32,110,101,101,100,101,100,32,40,102,114,111,109,32,49,32,97,110,100,32,50,41]⟩:=h2;exact absurd rfl h2
 have h1:¬ (((L.map encStr).length:Int)=(7:Int)):=h1;exact absurd hLl h1
end Go.Eng

namespace Go.Eng
open Go.Proofs
theorem e38b (s p:ByteArray):PC 38 [vs s,vs p] (vb (preB p s)):=by
 have h:=pcall_same [.string s,.string p] (.bool (Go.Lib.hasPrefix s.data.toList p.data.toList)) (ent 38 Tryz.func38 (by kernel_rfl) rfl) rfl (fun g w=>.v _ _) fun w _=>Any.strings_HasPrefix Tryz.layHasP s p w;have e:Go.Lib.hasPrefix s.data.toList p.data.toList=preB p s:=by
  unfold preB Go.Lib.hasPrefix;rw [Bool.eq_iff_iff,List.isPrefixOf_iff_prefix,decide_eq_true_iff,List.prefix_iff_eq_take];exact ⟨Eq.symm,Eq.symm⟩
 rw [e] at h;exact h
theorem e40 (s p:ByteArray) (hs:s.size≤9223372036854775807):PC 40 [vs s,vs p] (vb (Go.Lib.hasSuffix s.data.toList p.data.toList)) :=
 pcall_same [.string s,.string p] (.bool (Go.Lib.hasSuffix s.data.toList p.data.toList)) (ent 40 Tryz.func40 (by kernel_rfl) rfl) rfl (fun g w=>.v _ _) fun w _=>Any.strings_HasSuffix Tryz.layHasS s p w hs
theorem e41 (s p:ByteArray) (hs:s.size<4611686018427387904):PC 41 [vs s,vs p] (vi (Go.Lib.lastIndex s.data.toList p.data.toList)) :=
 pcall_same [.string s,.string p] (.int .i64 (Go.Lib.lastIndex s.data.toList p.data.toList)) (ent 41 Tryz.func41 (by kernel_rfl) rfl) rfl (fun g w=>.v _ _) fun w _=>Any.strings_LastIndex Tryz.layLast s p hs w
theorem e42 (s p:ByteArray) (hs:s.size<4294967281):PC 42 [vs s,vs p] (.tup [vs ⟨(Go.Lib.cut s.data.toList p.data.toList).1.toArray⟩,vs ⟨(Go.Lib.cut s.data.toList p.data.toList).2.1.toArray⟩,vb (Go.Lib.cut s.data.toList p.data.toList).2.2]):=by
 refine pcall_below [.string s,.string p] _ (ent 42 Tryz.func42 (by kernel_rfl) rfl) rfl (fun g w=>rep_vals [.string ⟨(Go.Lib.cut s.data.toList p.data.toList).1.toArray⟩,.string ⟨(Go.Lib.cut s.data.toList p.data.toList).2.1.toArray⟩,.bool (Go.Lib.cut s.data.toList p.data.toList).2.2]) fun w hm _=>?_;obtain ⟨m,hm⟩:=hm;refine (Any.strings_Cut Tryz.layCut2 s p m w hs hm).mono ?_
 rintro e w' ⟨rfl,n,rfl⟩
 exact ⟨rfl,Go.Joins.below_draws _ _ _⟩
theorem e43 (s:ByteArray) (v:Int) (hs:s.size≤9223372036854775806) (h:Go.Lib.atoiAll s.data.toList=.ok v):PC 43 [vs s] (.tup [vi v,.v .nilIface]):=by
 refine pcall_below [.string s] _ (ent 43 Tryz.func43 (by kernel_rfl) rfl) rfl (fun g w=>rep_vals [.int .i64 v,.nilIface]) fun w _ _=>?_;refine (Any.strconv_Atoi_ok Tryz.layAtoi s hs v h w).mono ?_
 rintro e w' ⟨rfl,rfl | ⟨t,rfl⟩⟩
 ·exact ⟨rfl,RowKit.Below.refl _ _⟩
 ·exact ⟨rfl,Go.Joins.below_bytesWorld _ _ _ _ (Nat.le_refl _)⟩
end Go.Eng

namespace Go.Eng
open Go.Proofs

end Go.Eng

namespace Go.Eng
open Go.Proofs

end Go.Eng

namespace Go.Eng
open Go.Proofs
theorem c250 (c:UInt8):PC 294 [vc c] (vb (smallC c)):=by
 refine Ps pl0 Tryz.func294 rfl (Nz rfl) ?_;have e1:decide ((97:UInt8)≤c)=decide ((97:Int)≤(c.toNat:Int)):=u8_le c 97 (by decide);have e2:decide (c≤(122:UInt8))=decide ((c.toNat:Int)≤(122:Int)):=u8_ge c 122 (by decide);have es:smallC c=(decide ((97:Int)≤(c.toNat:Int))&&decide ((c.toNat:Int)≤(122:Int))):=by unfold smallC; rw [e1,e2]
 refine Yi ?_ ?_
 ·intro h;have h:(97:Int)≤(c.toNat:Int):=h;refine Yi ?_ ?_
  ·intro h2;have h2:(c.toNat:Int)≤122:=h2;exact .of_eq (congrArg vb (show true=smallC c by rw [es,decide_eq_true h,decide_eq_true h2]; rfl))
  ·intro h2;have h2:¬ (c.toNat:Int)≤122:=h2;exact .of_eq (congrArg vb (show false=smallC c by rw [es,decide_eq_false h2,Bool.and_false]))
 ·intro h;have h:¬ (97:Int)≤(c.toNat:Int):=h;exact .of_eq (congrArg vb (show false=smallC c by rw [es,decide_eq_false h]; rfl))
theorem c251 (c:UInt8):PC 295 [vc c] (vb (digitC c)):=by
 refine Ps pl0 Tryz.func295 rfl (Nz rfl) ?_;have e1:decide ((48:UInt8)≤c)=decide ((48:Int)≤(c.toNat:Int)):=u8_le c 48 (by decide);have e2:decide (c≤(57:UInt8))=decide ((c.toNat:Int)≤(57:Int)):=u8_ge c 57 (by decide);have es:digitC c=(decide ((48:Int)≤(c.toNat:Int))&&decide ((c.toNat:Int)≤(57:Int))):=by unfold digitC; rw [e1,e2]
 refine Yi ?_ ?_
 ·intro h;have h:(48:Int)≤(c.toNat:Int):=h;refine Yi ?_ ?_
  ·intro h2;have h2:(c.toNat:Int)≤57:=h2;exact .of_eq (congrArg vb (show true=digitC c by rw [es,decide_eq_true h,decide_eq_true h2]; rfl))
  ·intro h2;have h2:¬ (c.toNat:Int)≤57:=h2;exact .of_eq (congrArg vb (show false=digitC c by rw [es,decide_eq_false h2,Bool.and_false]))
 ·intro h;have h:¬ (48:Int)≤(c.toNat:Int):=h;exact .of_eq (congrArg vb (show false=digitC c by rw [es,decide_eq_false h]; rfl))
theorem c279 (c:UInt8):PC 351 [vc c] (vb (capC c)):=by
 refine Ps pl0 Tryz.func351 rfl (Nz rfl) ?_;have e1:decide ((65:UInt8)≤c)=decide ((65:Int)≤(c.toNat:Int)):=u8_le c 65 (by decide);have e2:decide (c≤(90:UInt8))=decide ((c.toNat:Int)≤(90:Int)):=u8_ge c 90 (by decide);have es:capC c=(decide ((65:Int)≤(c.toNat:Int))&&decide ((c.toNat:Int)≤(90:Int))):=by unfold capC; rw [e1,e2]
 refine Yi ?_ ?_
 ·intro h;have h:(65:Int)≤(c.toNat:Int):=h;refine Yi ?_ ?_
  ·intro h2;have h2:(c.toNat:Int)≤90:=h2;exact .of_eq (congrArg vb (show true=capC c by rw [es,decide_eq_true h,decide_eq_true h2]; rfl))
  ·intro h2;have h2:¬ (c.toNat:Int)≤90:=h2;exact .of_eq (congrArg vb (show false=capC c by rw [es,decide_eq_false h2,Bool.and_false]))
 ·intro h;have h:¬ (65:Int)≤(c.toNat:Int):=h;exact .of_eq (congrArg vb (show false=capC c by rw [es,decide_eq_false h]; rfl))
theorem c273 (c:UInt8):PC 345 [vc c] (vb (wordC c)):=by
 have h1:=c250 c;have h2:=c279 c;have h3:=c251 c;have ew:wordC c=(smallC c||capC c||digitC c||decide (c=95)):=rfl;rcases Bt (smallC c) with e | e
 ·rw [e] at h1;refine Ps pl0 Tryz.func345 rfl (Nz rfl) ?_;refine Xi .pure (Xi _ (Yi (h1) ?_));exact .of_eq (congrArg vb (show true=wordC c by rw [ew,e]; rfl))
 rw [e] at h1;rcases Bt (capC c) with e2 | e2
 ·rw [e2] at h2;refine Ps pl0 Tryz.func345 rfl (Nz rfl) ?_;refine Xi .pure (Xi _ (Yi (h1) ?_));refine Xi .pure (Xi _ (Yi (h2) ?_));exact .of_eq (congrArg vb (show true=wordC c by rw [ew,e,e2]; rfl))
 rw [e2] at h2;rcases Bt (digitC c) with e3 | e3
 ·rw [e3] at h3;refine Ps pl0 Tryz.func345 rfl (Nz rfl) ?_;refine Xi .pure (Xi _ (Yi (h1) ?_));refine Xi .pure (Xi _ (Yi (h2) ?_));refine Xi .pure (Xi _ (Yi (h3) ?_));exact .of_eq (congrArg vb (show true=wordC c by rw [ew,e,e2,e3]; rfl))
 rw [e3] at h3;refine Ps pl0 Tryz.func345 rfl (Nz rfl) ?_;refine Xi .pure (Xi _ (Yi (h1) ?_));refine Xi .pure (Xi _ (Yi (h2) ?_));refine Xi .pure (Xi _ (Yi (h3) ?_));have eb:decide (c=95)=decide ((c.toNat:Int)=95):=by
  rw [Bool.eq_iff_iff,decide_eq_true_eq,decide_eq_true_eq];constructor
  ·intro h; subst h; rfl
  ·intro h; exact UInt8.toNat_inj.1 (by show c.toNat=95; omega)
 refine Yi ?_ ?_
 ·intro h;have h:(c.toNat:Int)=95:=h;exact .of_eq (congrArg vb (show true=wordC c by rw [ew,e,e2,e3,eb,decide_eq_true h]; rfl))
 ·intro h;have h:¬ (c.toNat:Int)=95:=h;exact .of_eq (congrArg vb (show false=wordC c by rw [ew,e,e2,e3,eb,decide_eq_false h]; rfl))
theorem c264 (s:ByteArray) (hs:s.data.toList.length<4611686018427387904):PC 330 [vs s] (vb (s.data.toList.all wordC)):=by
 have hsz:s.size=s.data.toList.length:=by simp
 refine Ps pl0 Tryz.func330 rfl (Nz rfl) ?_;refine Xi {i:Nat // i≤s.data.toList.length∧∀ j (hj:j<s.data.toList.length),j<i→wordC s.data.toList[j]=true} (Xi (fun i=>⟨[(0,vs s),(3,vi i.1)],[],hfree⟩) (Xi (fun i=>s.data.toList.length - i.1) (Yi (Xi ⟨0,Nat.zero_le _,fun j _ h=>by omega⟩ ?_) ?_)))
 ·exact ⟨Z2,Tv,Fh,Tv⟩
 intro ⟨i,h1,h2⟩;refine Yi ?_ ?_
 ·intro h;have h:(i:Int)<(s.size:Nat):=h;have h:i<s.data.toList.length:=by omega
  refine Xi s.data.toList[i] (Yi ⟨by show (0:Int)≤i; omega,by show s.data[((i:Nat):Int).toNat]?=_; rw [Int.toNat_natCast]; exact at_data s i h⟩ ?_);have hc:=c273 s.data.toList[i];refine Or.elim (Bt (wordC s.data.toList[i])) (fun e=>?_) (fun e=>?_)
  ·rw [e] at hc;refine Xi .pure (Xi _ (Yi (hc) ?_));refine Yi (Ii i (by omega)) ?_;refine Xi ⟨i+1,by omega,fun j hj hji=>?_⟩ ?_
   ·rcases Nat.lt_or_ge j i with z | z
    ·exact h2 j hj z
    ·have:j=i:=by omega
     subst this; exact e
   ·exact ⟨Dl s.data.toList.length i (by omega),Z2,Tv,Fh,Tv⟩
  ·rw [e] at hc;refine Xi .pure (Xi _ (Yi (hc) ?_));have er:s.data.toList.all wordC=false:=by
    rw [Bool.eq_false_iff];intro ha
    have:=List.all_eq_true.1 ha _ (List.getElem_mem h)
    rw [e] at this; cases this
   exact .of_eq (congrArg vb er.symm)
 ·intro h;have h:¬ (i:Int)<(s.size:Nat):=h;have er:s.data.toList.all wordC=true:=List.all_eq_true.2 fun c hc=>by
   obtain ⟨j,hj,rfl⟩:=List.getElem_of_mem hc;exact h2 j hj (by omega)
  exact .of_eq (congrArg vb er.symm)
end Go.Eng

namespace Go.Eng
open Go.Proofs
abbrev kwB:List ByteArray:=kwW.map bs
theorem c266:PC 332 [] (sl encStr kwB):=by
 refine Ps pl0 Tryz.func332 rfl (Nz rfl) ?_;exact .refl _
theorem c265 (l:List ByteArray) (s:ByteArray) (hl:Few l):PC 331 [sl encStr l,vs s] (vb (l.any fun q=>decide (q=s))):=by
 unfold Few at hl;refine Ps pl0 Tryz.func331 rfl (Nz rfl) ?_;refine Xi {i:Nat // i≤l.length∧∀ j (hj:j<l.length),j<i→l[j]≠s} (Xi (fun i=>⟨[(0,sl encStr l),(1,vs s),(5,vi i.1)],[],hfree⟩) (Xi (fun i=>l.length - i.1) (Yi (Xi ⟨0,Nat.zero_le _,fun j _ h=>by omega⟩ ?_) ?_)))
 ·exact ⟨Z3,Tv,Fh,Tv⟩
 intro ⟨i,h1,h2⟩;refine Yi ?_ ?_
 ·intro h;have h:(i:Int)<(l.map encStr).length:=h;have h:i<l.length:=by simpa using h
  have hg:l[i]?=some l[i]:=Ge h;refine Xi (encStr l[i]) (Yi (Yi (Nn i) (by simp [hg])) (Yi rfl ?_));refine Yi ?_ ?_
  ·intro he;have he:l[i]=s:=he;exact .of_eq (congrArg vb (show true=_ from (List.any_eq_true.2 ⟨l[i],List.getElem_mem h,by simpa using he⟩).symm))
  ·intro he;have he:¬ l[i]=s:=he;refine Yi (Ii i (by omega)) ?_;refine Xi ⟨i+1,by omega,fun j hj hji=>?_⟩ ?_
   ·rcases Nat.lt_or_ge j i with z | z
    ·exact h2 j hj z
    ·have:j=i:=by omega
     subst this; exact he
   ·exact ⟨Dl l.length i (by omega),Z3,Tv,Fh,Tv⟩
 ·intro h;have h:¬ (i:Int)<(l.map encStr).length:=h;have h:¬ i<l.length:=by simpa using h
  have er:(l.any fun q=>decide (q=s))=false:=by
   rw [List.any_eq_false];intro q hq;obtain ⟨j,hj,rfl⟩:=List.getElem_of_mem hq;simpa using h2 j hj (by omega)
  exact .of_eq (congrArg vb er.symm)
theorem bs_eq {w:List UInt8} {s:ByteArray} : bs w=s↔w=s.data.toList:=by
 constructor
 ·intro h; rw [← h]; rfl
 ·intro h; rw [h]; rfl
theorem kw_any (s:ByteArray):(kwB.any fun q=>decide (q=s))=kwW.any (fun w=>decide (w=s.data.toList)):=by
 unfold kwB;rw [List.any_map]
 congr 1
 funext w
 simp only [Function.comp];rw [decide_eq_decide];exact bs_eq
theorem c252 (s:ByteArray) (hs:s.data.toList.length<4611686018427387904):PC 296 [vs s] (vb (isNameL s.data.toList)):=by
 have hsz:s.size=s.data.toList.length:=by simp
 obtain ⟨N,hN⟩ : ∃ N,N=isNameL s.data.toList:=⟨_,rfl⟩;rw [← hN];unfold isNameL at hN;have h264:=c264 s hs;have h265:=c265 kwB s (by decide);rw [kw_any] at h265;refine Ps pl0 Tryz.func296 rfl (Nz rfl) ?_;refine Yi (fun h=>?_) (fun h=>?_)
 rotate_left
 ·have h:¬ (1:Int)≤(s.size:Nat):=h;have e:s.data.toList=[]:=List.eq_nil_of_length_eq_zero (by omega);exact .of_eq (congrArg vb (show false=N by rw [hN,e]; rfl))
 have h:(1:Int)≤(s.size:Nat):=h;have he:s.data.toList.isEmpty=false:=by
  cases e:s.data.toList with
  | nil=>rw [e,List.length_nil] at hsz; omega
  | cons _ _=>rfl
 refine Yi (fun h2=>?_) (fun h2=>?_)
 rotate_left
 ·have h2:¬ ((s.size:Nat):Int)≤32:=h2;exact .of_eq (congrArg vb (show false=N by rw [hN,he,decide_eq_false (by omega)]; rfl))
 have h2:((s.size:Nat):Int)≤32:=h2;refine Exists.elim (show ∃ c l,s.data.toList=c :: l by cases e:s.data.toList with | nil=>rw [e] at he; cases he | cons c l=>exact ⟨c,l,rfl⟩) (fun c hc=>?_);refine Exists.elim hc (fun l hc=>?_);refine Xi c (Yi ⟨by decide,by show s.data[(0:Int).toNat]?=_; rw [← Array.getElem?_toList,hc]; rfl⟩ ?_);have h250:=c250 c;have hN:N=(smallC c&&s.data.toList.all wordC&&!keyB s.data.toList):=by
  rw [hN,he,decide_eq_true (by omega),hc]; rfl
 refine Or.elim (Bt (smallC c)).symm (fun e=>?_) (fun e=>?_)
 ·rw [e] at h250;refine Xi .pure (Xi _ (Yi (h250) ?_));exact .of_eq (congrArg vb (show false=N by rw [hN,e]; rfl))
 rw [e] at h250;refine Xi .pure (Xi _ (Yi (h250) ?_));refine Or.elim (Bt (s.data.toList.all wordC)).symm (fun e2=>?_) (fun e2=>?_)
 ·rw [e2] at h264;refine Xi .pure (Xi _ (Yi (h264) ?_));exact .of_eq (congrArg vb (show false=N by rw [hN,e,e2]; rfl))
 rw [e2] at h264;refine Xi .pure (Xi _ (Yi (h264) ?_));refine Xi .pure (Xi _ (Yi (c266) ?_));rw [keyB_words e2] at hN;refine Or.elim (Bt (kwW.any (fun w=>decide (w=s.data.toList)))) (fun e3=>?_) (fun e3=>?_)
 ·rw [e3] at h265;refine Xi .pure (Xi _ (Yi (h265) ?_));exact .of_eq (congrArg vb (show false=N by rw [hN,e,e2,e3]; rfl))
 ·rw [e3] at h265;refine Xi .pure (Xi _ (Yi (h265) ?_));exact .of_eq (congrArg vb (show true=N by rw [hN,e,e2,e3]; rfl))
end Go.Eng

namespace Go.Eng
open Go.Proofs
theorem segC_and {s:ByteArray} : segOk s.data.toList=(s.data.toList.all segC&&isNameL s.data.toList):=by
 unfold segOk; rw [Bool.and_comm]
theorem c227 (s:ByteArray) (hs:s.data.toList.length<4611686018427387904):PC 231 [vs s] (vb (segOk s.data.toList)):=by
 have hsz:s.size=s.data.toList.length:=by simp
 have h252:=c252 s hs;rw [segC_and];refine Ps pl0 Tryz.func231 rfl (Nz rfl) ?_;refine Xi {i:Nat // i≤s.data.toList.length∧∀ j (hj:j<s.data.toList.length),j<i→segC s.data.toList[j]=true} (Xi (fun i=>⟨[(0,vs s),(3,vi i.1)],[],hfree⟩) (Xi (fun i=>s.data.toList.length - i.1) (Yi (Xi ⟨0,Nat.zero_le _,fun j _ h=>by omega⟩ ?_) ?_)))
 ·exact ⟨Z2,Tv,Fh,Tv⟩
 intro ⟨i,h1,h2⟩;refine Yi ?_ ?_
 ·intro h;have h:(i:Int)<(s.size:Nat):=h;have h:i<s.data.toList.length:=by omega
  have hat:(0:Int)≤i∧s.data[((i:Nat):Int).toNat]?=some s.data.toList[i]:=⟨by omega,by rw [Int.toNat_natCast]; exact at_data s i h⟩;have nx:segC s.data.toList[i]=true→∀ j (hj:j<s.data.toList.length),j<i+1→segC s.data.toList[j]=true:=fun e j hj hji=>by
   rcases Nat.lt_or_ge j i with z | z
   ·exact h2 j hj z
   ·have:j=i:=by omega
    subst this; exact e
  refine Xi s.data.toList[i] (Yi hat ?_);have h3:=c250 s.data.toList[i];have h4:=c251 s.data.toList[i];refine Or.elim (Bt (smallC s.data.toList[i])) (fun e=>?_) (fun e=>?_)
  ·rw [e] at h3;refine Xi .pure (Xi _ (Yi (h3) ?_));refine Yi (Ii i (by omega)) ?_;refine Xi ⟨i+1,by omega,nx (by unfold segC; rw [e]; rfl)⟩ ?_;exact ⟨Dl s.data.toList.length i (by omega),Z2,Tv,Fh,Tv⟩
  rw [e] at h3;refine Xi .pure (Xi _ (Yi (h3) ?_));refine Xi s.data.toList[i] (Yi hat ?_);refine Or.elim (Bt (digitC s.data.toList[i])) (fun e2=>?_) (fun e2=>?_)
  ·rw [e2] at h4;refine Xi .pure (Xi _ (Yi (h4) ?_));refine Yi (Ii i (by omega)) ?_;refine Xi ⟨i+1,by omega,nx (by unfold segC; rw [e2,Bool.or_true])⟩ ?_;exact ⟨Dl s.data.toList.length i (by omega),Z2,Tv,Fh,Tv⟩
  rw [e2] at h4;refine Xi .pure (Xi _ (Yi (h4) ?_));have er:s.data.toList.all segC=false:=by
   rw [Bool.eq_false_iff];intro ha
   have:=List.all_eq_true.1 ha _ (List.getElem_mem h)
   unfold segC at this;rw [e,e2] at this; cases this
  exact .of_eq (congrArg vb (by rw [er]; rfl))
 ·intro h;have h:¬ (i:Int)<(s.size:Nat):=h;have er:s.data.toList.all segC=true:=List.all_eq_true.2 fun c hc=>by
   obtain ⟨j,hj,rfl⟩:=List.getElem_of_mem hc;exact h2 j hj (by omega)
  refine Xi .pure (Xi _ (Yi (h252) ?_));exact .of_eq (congrArg vb (by rw [er]; rfl))
abbrev ver2:Option Int→AV
 | some n=>vi n
 | none=>vi (-1)
theorem c228 (s:ByteArray) (hs:s.data.toList.length<4611686018427387904):PC 232 [vs s] (ver2 (verL s.data.toList)):=by
 have hsz:s.size=s.data.toList.length:=by simp
 refine Ps (plcut [3]) Tryz.func232 rfl (Nz rfl) ?_;refine Yi (fun h=>?_) (fun h=>?_)
 ·have h:((s.size:Nat):Int)<2:=h;exact .of_eq (congrArg ver2 (show (none:Option Int)=verL s.data.toList by
   cases hs:s.data.toList with
   | nil=>rfl
   | cons c r =>
    cases r with
    | nil=>unfold verL; simp
    | cons d r=>rw [hs] at hsz; simp only [List.length_cons] at hsz; omega))
 have h:¬ ((s.size:Nat):Int)<2:=h;refine Exists.elim (show ∃ c r,s.data.toList=c :: r by
  cases e:s.data.toList with
  | nil=>rw [e] at hsz; simp only [List.length_nil] at hsz; omega
  | cons c l=>exact ⟨c,l,rfl⟩) (fun c hc=>?_)
 refine Exists.elim hc (fun r hr0=>?_);have hrl:s.size=r.length+1:=by rw [hsz,hr0]; rfl
 have hv0:verL s.data.toList=if c=118 then (if (r.isEmpty||decide (3<r.length)||(decide (1<r.length)&&decide (r.headD 0=48))||!r.all digitC)=true then none else some (numL r)) else none:=by rw [hr0]; rfl
 refine Yi (fun h2=>?_) (fun h2=>?_)
 ·have h2:(4:Int)<((s.size:Nat):Int):=h2;exact .of_eq (congrArg ver2 (show (none:Option Int)=verL s.data.toList by rw [hv0,decide_eq_true (by omega:3<r.length)]; simp))
 have h2:¬ (4:Int)<((s.size:Nat):Int):=h2;refine Xi c (Yi ⟨by decide,by show s.data[(0:Int).toNat]?=_; rw [← Array.getElem?_toList,hr0]; rfl⟩ ?_);refine Yi (fun h3=>?_) (fun h3=>?_)
 ·have h3:¬ (c.toNat:Int)=118:=h3;have h3:¬ c=118:=fun e=>h3 (by rw [e]; rfl);exact .of_eq (congrArg ver2 (show (none:Option Int)=verL s.data.toList by rw [hv0,if_neg h3]))
 have h3:¬ ¬ (c.toNat:Int)=118:=h3;have h3:(c.toNat:Int)=118:=Classical.not_not.1 h3;have h3:c=118:=UInt8.toNat_inj.1 (by show c.toNat=118; omega);have hr:s.data.toList=118 :: r:=by rw [hr0,h3]
 have hv:verL s.data.toList=if (r.isEmpty||decide (3<r.length)||(decide (1<r.length)&&decide (r.headD 0=48))||!r.all digitC)=true then none else some (numL r):=by rw [hv0,if_pos h3]
 have hlen:0<r.length:=by omega
 have hemp:r.isEmpty=false:=by
  cases hl:r with
  | nil=>rw [hl] at hlen; exact absurd hlen (by decide)
  | cons a l=>rfl
 have hl3:r.length≤3:=by omega
 have d3:decide (3<r.length)=false:=decide_eq_false (by omega);have z0:numL (r.take 0)=0:=rfl;have hh:=headD_zero r hlen;refine Xi r[0] (Yi ⟨by decide,by show s.data[(1:Int).toNat]?=_; rw [← Array.getElem?_toList,hr0]; show r[0]?=_; exact Ge hlen⟩ ?_);refine Yi (fun h4=>?_) (fun h4=>?_)
 ·have h4:(r[0].toNat:Int)=48:=h4;have h4:r[0]=48:=UInt8.toNat_inj.1 (by show r[0].toNat=48; omega);refine Yi (fun h5=>?_) (fun h5=>?_)
  ·have h5:(2:Int)<((s.size:Nat):Int):=h5;exact .of_eq (congrArg ver2 (show (none:Option Int)=verL s.data.toList by rw [hv,hh,h4,decide_eq_true (by omega:1<r.length)]; simp))
  have h5:¬ (2:Int)<((s.size:Nat):Int):=h5;have eo:(decide (1<r.length)&&decide (r.headD 0=48))=false:=by rw [decide_eq_false (by omega:¬ 1<r.length)]; rfl
  refine Xi ⟨[(0,vs s)],[],hfree⟩ (Yi ⟨Z1,Tv,Fh,Tv⟩ ?_)
  refine Xi {i:Nat // i≤r.length∧(∀ j (hj:j<r.length),j<i→digitC r[j]=true)∧0≤numL (r.take i)∧(i=0→numL (r.take i)≤0)∧(i≤1→numL (r.take i)≤9)∧(i≤2→numL (r.take i)≤99)∧numL (r.take i)≤999} (Xi (fun i=>⟨[(0,vs s),(3,vi (numL (r.take i.1))),(4,vi (1+(i.1:Int)))],[],hfree⟩) (Xi (fun i=>r.length - i.1) (Yi (Xi ⟨0,Nat.zero_le _,fun j _ h=>by omega,by omega,fun _=>by omega,fun _=>by omega,fun _=>by omega,by omega⟩ ?_) ?_)))
  ·exact ⟨Z3,Tv,Fh,Tv⟩
  intro ⟨i,i1,i0,i2,i3,i4,i5,i6⟩;refine Yi ?_ ?_
  ·intro h;have h:1+(i:Int)<(s.size:Nat):=h;have h:i<r.length:=by omega
   have hat:(0:Int)≤1+(i:Int)∧s.data[(1+(i:Int)).toNat]?=some r[i]:=⟨by omega,by rw [show (1+(i:Int)).toNat=i+1 by omega,← Array.getElem?_toList,hr,List.getElem?_cons_succ]; exact Ge h⟩;refine Xi r[i] (Yi hat ?_);have hc:=c251 r[i];refine Or.elim (Bt (digitC r[i])).symm (fun e=>?_) (fun e=>?_)
   ·rw [e] at hc;refine Xi .pure (Xi _ (Yi (hc) ?_));have hall:r.all digitC=false:=by
     rw [Bool.eq_false_iff];intro ha
     have:=List.all_eq_true.1 ha _ (List.getElem_mem h)
     rw [e] at this; cases this
    exact .of_eq (congrArg ver2 (show (none:Option Int)=verL s.data.toList by rw [hv,hall]; simp))
   rw [e] at hc;refine Xi .pure (Xi _ (Yi (hc) ?_));have hdr:=digit_rng e;have hnx:=numL_take r i h;have hwr:IntKind.u8.wrap ((r[i].toNat:Int) - 48)=(r[i].toNat:Int) - 48:=wrap_u8 (by omega) (by omega);refine Yi (by show InI64 (10*numL (r.take i)); unfold InI64; omega) ?_;refine Xi r[i] (Yi hat ?_);refine Yi (by show InI64 (IntKind.u8.wrap ((r[i].toNat:Int) - 48)); rw [hwr]; unfold InI64; omega) ?_;refine Yi (by show InI64 (10*numL (r.take i)+IntKind.u8.wrap ((r[i].toNat:Int) - 48)); rw [hwr]; unfold InI64; omega) ?_;refine Yi (by show InI64 (1+(i:Int)+1); unfold InI64; omega) ?_;have e5:vi (10*numL (r.take i)+IntKind.u8.wrap ((r[i].toNat:Int) - 48))=vi (numL (r.take (i+1))):=by rw [hwr,hnx]
   have e6:vi (1+(i:Int)+1)=vi (1+((i+1:Nat):Int)):=congrArg vi (by omega);refine Xi ⟨i+1,by omega,fun j hj hji=>?_,by omega,fun _=>by omega,fun _=>by omega,fun _=>by omega,by omega⟩ ?_
   ·rcases Nat.lt_or_ge j i with z | z
    ·exact i0 j hj z
    ·have:j=i:=by omega
     subst this; exact e
   ·exact ⟨Dl r.length i (by omega),⟨Zr,⟨e5,rfl⟩,⟨e6,rfl⟩,Tv⟩,Tv,Fh,Tv⟩
  ·intro h;have h:¬ 1+(i:Int)<(s.size:Nat):=h;have e3:r.all digitC=true:=List.all_eq_true.2 fun c hc=>by
    obtain ⟨j,hj,rfl⟩:=List.getElem_of_mem hc;exact i0 j hj (by omega)
   have e6:vi (numL (r.take i))=ver2 (verL s.data.toList):=by rw [hv,hemp,d3,eo,e3,List.take_of_length_le (by omega)]; rfl
   exact .of_eq e6
 have h4:¬ (r[0].toNat:Int)=48:=h4;have eo:(decide (1<r.length)&&decide (r.headD 0=48))=false:=by rw [hh,decide_eq_false (show ¬ r[0]=48 from fun e=>h4 (by rw [e]; rfl)),Bool.and_false]
 refine Xi ⟨[(0,vs s)],[],hfree⟩ (Yi ⟨Z1,Tv,Fh,Tv⟩ ?_)
 refine Xi {i:Nat // i≤r.length∧(∀ j (hj:j<r.length),j<i→digitC r[j]=true)∧0≤numL (r.take i)∧(i=0→numL (r.take i)≤0)∧(i≤1→numL (r.take i)≤9)∧(i≤2→numL (r.take i)≤99)∧numL (r.take i)≤999} (Xi (fun i=>⟨[(0,vs s),(3,vi (numL (r.take i.1))),(4,vi (1+(i.1:Int)))],[],hfree⟩) (Xi (fun i=>r.length - i.1) (Yi (Xi ⟨0,Nat.zero_le _,fun j _ h=>by omega,by omega,fun _=>by omega,fun _=>by omega,fun _=>by omega,by omega⟩ ?_) ?_)))
 ·exact ⟨Z3,Tv,Fh,Tv⟩
 intro ⟨i,i1,i0,i2,i3,i4,i5,i6⟩;refine Yi ?_ ?_
 ·intro h;have h:1+(i:Int)<(s.size:Nat):=h;have h:i<r.length:=by omega
  have hat:(0:Int)≤1+(i:Int)∧s.data[(1+(i:Int)).toNat]?=some r[i]:=⟨by omega,by rw [show (1+(i:Int)).toNat=i+1 by omega,← Array.getElem?_toList,hr,List.getElem?_cons_succ]; exact Ge h⟩;refine Xi r[i] (Yi hat ?_);have hc:=c251 r[i];refine Or.elim (Bt (digitC r[i])).symm (fun e=>?_) (fun e=>?_)
  ·rw [e] at hc;refine Xi .pure (Xi _ (Yi (hc) ?_));have hall:r.all digitC=false:=by
    rw [Bool.eq_false_iff];intro ha
    have:=List.all_eq_true.1 ha _ (List.getElem_mem h)
    rw [e] at this; cases this
   exact .of_eq (congrArg ver2 (show (none:Option Int)=verL s.data.toList by rw [hv,hall]; simp))
  rw [e] at hc;refine Xi .pure (Xi _ (Yi (hc) ?_));have hdr:=digit_rng e;have hnx:=numL_take r i h;have hwr:IntKind.u8.wrap ((r[i].toNat:Int) - 48)=(r[i].toNat:Int) - 48:=wrap_u8 (by omega) (by omega);refine Yi (by show InI64 (10*numL (r.take i)); unfold InI64; omega) ?_;refine Xi r[i] (Yi hat ?_);refine Yi (by show InI64 (IntKind.u8.wrap ((r[i].toNat:Int) - 48)); rw [hwr]; unfold InI64; omega) ?_;refine Yi (by show InI64 (10*numL (r.take i)+IntKind.u8.wrap ((r[i].toNat:Int) - 48)); rw [hwr]; unfold InI64; omega) ?_;refine Yi (by show InI64 (1+(i:Int)+1); unfold InI64; omega) ?_;have e5:vi (10*numL (r.take i)+IntKind.u8.wrap ((r[i].toNat:Int) - 48))=vi (numL (r.take (i+1))):=by rw [hwr,hnx]
  have e6:vi (1+(i:Int)+1)=vi (1+((i+1:Nat):Int)):=congrArg vi (by omega);refine Xi ⟨i+1,by omega,fun j hj hji=>?_,by omega,fun _=>by omega,fun _=>by omega,fun _=>by omega,by omega⟩ ?_
  ·rcases Nat.lt_or_ge j i with z | z
   ·exact i0 j hj z
   ·have:j=i:=by omega
    subst this; exact e
  ·exact ⟨Dl r.length i (by omega),⟨Zr,⟨e5,rfl⟩,⟨e6,rfl⟩,Tv⟩,Tv,Fh,Tv⟩
 ·intro h;have h:¬ 1+(i:Int)<(s.size:Nat):=h;have e3:r.all digitC=true:=List.all_eq_true.2 fun c hc=>by
   obtain ⟨j,hj,rfl⟩:=List.getElem_of_mem hc;exact i0 j hj (by omega)
  have e6:vi (numL (r.take i))=ver2 (verL s.data.toList):=by rw [hv,hemp,d3,eo,e3,List.take_of_length_le (by omega)]; rfl
  exact .of_eq e6
end Go.Eng

namespace Go.Eng
open Go.Proofs
abbrev pSL (l:List UInt8):List ByteArray:=(splitL 47 l).map bs
def pushL:List (List UInt8)→UInt8→List (List UInt8)
 | [],_=>[]
 | [x],b=>[x++[b]]
 | x :: l,b=>x :: pushL l b
theorem splitL_ne (c:UInt8) (s:List UInt8):splitL c s≠[]:=by
 cases s with
 | nil=>rw [splitL]; exact List.cons_ne_nil _ _
 | cons b r =>
  rw [splitL];split
  ·exact List.cons_ne_nil _ _
  ·split <;> exact List.cons_ne_nil _ _
theorem splitL_sep (c:UInt8):∀ s:List UInt8,splitL c (s++[c])=splitL c s++[[]]
 | []=>by simp [splitL]
 | b :: r=>by
  rw [List.cons_append,splitL,splitL_sep c r,splitL]
  by_cases e:b=c
  ·rw [if_pos e,if_pos e]; rfl
  ·rw [if_neg e,if_neg e];cases h:splitL c r with
   | nil=>exact absurd h (splitL_ne c r)
   | cons x l=>rfl
theorem pushL_cons (x:List UInt8) {l:List (List UInt8)} (b:UInt8) (h:l≠[]):pushL (x :: l) b=x :: pushL l b:=by
 cases l with
 | nil=>exact absurd rfl h
 | cons y l=>rfl
theorem splitL_byte (c b:UInt8) (hb:b≠c):∀ s:List UInt8,splitL c (s++[b])=pushL (splitL c s) b
 | []=>by simp [splitL,hb,pushL]
 | a :: r=>by
  rw [List.cons_append,splitL,splitL_byte c b hb r,splitL]
  by_cases e:a=c
  ·rw [if_pos e,if_pos e,pushL_cons _ _ (splitL_ne c r)]
  ·rw [if_neg e,if_neg e];cases h:splitL c r with
   | nil=>exact absurd h (splitL_ne c r)
   | cons x l =>
    cases l with
    | nil=>rfl
    | cons y l=>rfl
theorem pushL_set (b:UInt8):∀ (l:List (List UInt8)) (x:List UInt8),l[l.length - 1]?=some x→l.set (l.length - 1) (x++[b])=pushL l b
 | [],_,h=>by cases h
 | [y],x,h=>by
  have h:some y=some x:=h;rw [Option.some.inj h]; rfl
 | y :: z :: l,x,h=>by
  have h:(z :: l)[(z :: l).length - 1]?=some x:=h;rw [pushL_cons y b (List.cons_ne_nil _ _),← pushL_set b (z :: l) x h]; rfl
theorem splitL_few (c:UInt8) (s:List UInt8):(splitL c s).length≤s.length+1:=by
 induction s with
 | nil=>rw [splitL]; exact Nat.le_refl _
 | cons b r ih =>
  rw [splitL,List.length_cons];split
  ·rw [List.length_cons]; omega
  ·split
   ·simp
   ·rename_i x l e;rw [e,List.length_cons] at ih;rw [List.length_cons]; omega
abbrev pl226:Pol:=⟨[],[],[(5,1)],[],[],[],[],[],[],[(36,3)],[4]⟩
theorem pSL_push {l:List UInt8} {c:UInt8} (hc:c≠47) {x:ByteArray} (h:(pSL l)[(pSL l).length - 1]?=some x):(pSL l).set ((pSL l).length - 1) (x++bs [c])=pSL (l++[c]):=by
 have h2:=h;rw [List.getElem?_map,Lm] at h;obtain ⟨y,hy,e⟩:=Option.map_eq_some_iff.1 h;subst e;show _=(splitL 47 (l++[c])).map bs;rw [splitL_byte 47 c hc l,← pushL_set c (splitL 47 l) y hy,List.map_set,Lm]
 congr 1
theorem c226 (s:ByteArray) (hs:FewS s):PC 230 [vs s] (sl encS (pSL s.data.toList)):=by
 unfold FewS at hs;have hsz:s.size=s.data.toList.length:=by simp
 refine Ps pl226 Tryz.func230 rfl (Nz rfl) ?_;refine Xi {p:Nat × List ByteArray // p.1≤s.data.toList.length∧p.2=pSL (s.data.toList.take p.1)} (Xi (fun p=>⟨[(0,vs s),(3,.msl 5 p.1.2.length),(4,vi p.1.1)],[(5,.arr 1 (p.1.2.map encS))],hfree⟩) (Xi (fun p=>s.data.toList.length - p.1.1) (Yi (Xi ⟨(0,[bs []]),Nat.zero_le _,rfl⟩ ?_) ?_)))
 ·exact ⟨Z3,Z1,Fh,Tv⟩
 intro ⟨⟨i,A⟩,h1,hA⟩;have h1:i≤s.data.toList.length:=h1;have hA:A=pSL (s.data.toList.take i):=hA;have hpl:A.length≤i+1:=by
  have:=splitL_few 47 (s.data.toList.take i)
  rw [List.length_take] at this;rw [hA,Lm]; omega
 have hpp:0<A.length:=by
  rw [hA,Lm]; exact List.length_pos_iff.2 (splitL_ne 47 _)
 refine Yi (fun h=>?_) (fun h=>?_)
 ·have h:(i:Int)<(s.size:Nat):=h;have h:i<s.data.toList.length:=by omega
  have hat:(0:Int)≤i∧s.data[((i:Nat):Int).toNat]?=some s.data.toList[i]:=⟨by omega,by rw [Int.toNat_natCast]; exact at_data s i h⟩;have htk:s.data.toList.take (i+1)=s.data.toList.take i++[s.data.toList[i]]:=by rw [List.take_add_one,Ge h]; rfl
  refine Xi s.data.toList[i] (Yi hat ?_);refine Yi (fun h2=>?_) (fun h2=>?_)
  ·have h2:(s.data.toList[i].toNat:Int)=47:=h2;have h2:s.data.toList[i]=47:=UInt8.toNat_inj.1 (by show s.data.toList[i].toNat=47; omega);have bulk:AllLen 1 [[vs (bs [])]]∧(A.map encS).length=A.length∧((A.map encS).length+[[vs (bs [])]].length)*16≤140737488355328∧(A.map encS).length+[[vs (bs [])]].length≤9223372036854775807 :=
    ⟨⟨rfl,trivial⟩,by rw [Lm],by rw [Lm,List.length_singleton]; omega,by rw [Lm,List.length_singleton]; omega⟩
   refine Yi bulk ?_;refine Xi ⟨[(0,vs s),(3,.msl 5 (A++[bs []]).length),(4,vi i)],[(5,.arr 1 ((A++[bs []]).map encS))],hfree⟩ (Yi ?_ ?_)
   ·have e1:AV.msl 5 ((A.map encS).length+[[vs (bs [])]].length)=.msl 5 (A++[bs []]).length:=by simp
    have e2:HO.arr 1 (A.map encS++[[vs (bs [])]])=.arr 1 ((A++[bs []]).map encS):=by rw [List.map_append]; rfl
    exact ⟨⟨Zr,⟨e1,rfl⟩,Zr,Tv⟩,⟨⟨e2,rfl⟩,Tv⟩,Fh,Tv⟩
   refine Yi (Ii i (by omega)) ?_;have eA:A++[bs []]=pSL (s.data.toList.take (i+1)):=by
    rw [hA,htk,h2]; show _=(splitL 47 _).map bs; rw [splitL_sep,List.map_append]; rfl
   refine Xi ⟨(i+1,A++[bs []]),by omega,eA⟩ ?_;exact ⟨Dl s.data.toList.length i (by omega),Z3,Z1,Fh,Tv⟩
  have h2:¬ (s.data.toList[i].toNat:Int)=47:=h2;have h2:s.data.toList[i]≠47:=fun e=>h2 (by rw [e]; rfl);have hi1:InI64 ((A.length:Int) - 1):=by unfold InI64; omega
  have hlt:A.length - 1<A.length:=by omega
  have hn:((A.length:Int) - 1).toNat=A.length - 1:=by omega
  have hg:A[A.length - 1]?=some A[A.length - 1]:=Ge hlt;have hfew:FewS A[A.length - 1]:=by
   have hmm:∀ x ∈ A,x ∈ pSL (s.data.toList.take i):=fun x hx=>hA▸hx;obtain ⟨y,hy,e⟩:=List.mem_map.1 (hmm _ (List.getElem_mem hlt));have h5:=splitL_len 47 _ y hy;rw [List.length_take] at h5;unfold FewS;rw [← e,show (bs y).size=y.length from rfl];omega
  have hsum:((A[A.length - 1].size+(⟨[s.data.toList[i]].toArray⟩ : ByteArray).size:Nat):Int)≤9223372036854775807:=by
   unfold FewS at hfew
   have:(⟨[s.data.toList[i]].toArray⟩ : ByteArray).size=1:=rfl
   omega
  refine Yi hi1 (Yi hi1 ?_);refine Yi (show (0:Int)≤(A.length:Int) - 1∧(A.length:Int) - 1<(A.length:Int) by omega) ?_;refine Yi (by rw [Lm]) ?_;have hgm:(A.map encS)[((A.length:Int) - 1).toNat]?=some (encS A[A.length - 1]):=by rw [hn]; exact map_at hg
  refine Xi (encS A[A.length - 1]) (Yi hgm ?_);refine Xi s.data.toList[i] (Yi hat ?_);refine Xi [s.data.toList[i]] (Yi rfl ?_);refine Yi hsum ?_;refine Yi (show (0:Int)≤(A.length:Int) - 1∧(A.length:Int) - 1<(A.length:Int) by omega) ?_;refine Yi (by rw [Lm]) ?_;refine Xi (encS A[A.length - 1]) (Yi hgm (Yi (Nz rfl) ?_));refine Yi (by kernel_rfl) ?_;refine Exists.elim (show ∃ B,B=A.set (A.length - 1) (A[A.length - 1]++bs [s.data.toList[i]]) from ⟨_,rfl⟩) (fun B hB=>?_);have hBl:B.length=A.length:=by rw [hB,List.length_set]
  have e2:HO.arr 1 ((A.map encS).set ((A.length:Int) - 1).toNat [vs (A[A.length - 1]++⟨[s.data.toList[i]].toArray⟩)])=.arr 1 (B.map encS):=by rw [hn,hB,List.map_set]; rfl
  refine Xi ⟨[(0,vs s),(3,.msl 5 B.length),(4,vi i)],[(5,.arr 1 (B.map encS))],hfree⟩ (Yi ⟨⟨Zr,⟨congrArg (AV.msl 5) hBl.symm,rfl⟩,Zr,Tv⟩,⟨⟨e2,rfl⟩,Tv⟩,Fh,Tv⟩ ?_)
  refine Yi (Ii i (by omega)) ?_;have eB:B=pSL (s.data.toList.take (i+1)):=by
   rw [htk,hB];subst hA;exact pSL_push h2 hg
  refine Xi ⟨(i+1,B),by omega,eB⟩ ?_;exact ⟨Dl s.data.toList.length i (by omega),Z3,Z1,Fh,Tv⟩
 ·have h:¬ (i:Int)<(s.size:Nat):=h;refine Yi (by rw [Lm]) ?_;exact .of_eq (congrArg (sl encS) (show A=pSL s.data.toList by rw [hA,List.take_of_length_le (by omega)]))
end Go.Eng
