/- Lemmas 27. -/
import Derived.Test.YtkjhcikodmiceaaGreatDoorRA26
import Derived.Laws.Rows
import Derived.Laws.ResultCell
namespace Go.Proofs
open Go.Shelf Go.RowKit Go.Lib Go.Sort Go.Eng
abbrev majP(p:ByteArray):Int:=(BF p).getD 0
def setMaj(e:Lo):Lo:=⟨e.path,⟨majP e.path,e.ver.b,e.ver.c⟩,e.arch,e.ifc⟩
def majK(xs:List Lo)(k:Nat):List Lo:=(xs.take k).map setMaj++xs.drop k
theorem majK_len(xs:List Lo)(k:Nat):(majK xs k).length=xs.length:=by
 unfold majK;rw[List.length_append,List.length_map,List.length_take,List.length_drop];omega
theorem majK_get{xs:List Lo}{k:Nat}(h:k<xs.length):(majK xs k)[k]?=some xs[k]:=by
 unfold majK;rw[List.getElem?_append_right (by rw[List.length_map,List.length_take];omega),List.length_map,List.length_take,Nat.min_eq_left B0,Nat.sub_self,List.getElem?_drop,Nat.add_zero,List.getElem?_eq_getElem h]
theorem majK_next{xs:List Lo}{k:Nat}(h:k<xs.length):(majK xs k).set k (setMaj xs[k])=majK xs (k+1):=by
 unfold majK;have e:((xs.take k).map setMaj).length=k:=by rw[List.length_map,List.length_take];omega
 rw[List.set_append_right _ _ B0,e,Nat.sub_self,List.drop_eq_getElem_cons h,List.set_cons_zero,List.take_add_one,List.getElem?_eq_getElem h,List.map_append];simp
theorem majK_all(xs:List Lo):majK xs xs.length=xs.map setMaj:=by
 unfold majK;simp
theorem flat_set{us:List (List Value)}{sz:Nat}{v:Value}(h:∀u∈us,u.length=sz):∀(k j:Nat) (u:List Value),us[k]?=some u->j<sz->us.flatten.set (k*sz+j) v=(us.set k (u.set j v)).flatten:=by
 induction us with
 |nil=>intro k j u e;simp at e
 |cons a l ih=>
  intro k j u e hj;have ha:=h a (.head _)
  match k,e with
  |0,e=>
   cases e
   rw[Nat.zero_mul,Nat.zero_add,List.set_cons_zero,List.flatten_cons,List.flatten_cons,List.set_append_left _ _ B0]
  |k+1,e=>
   rw[List.set_cons_succ,List.flatten_cons,List.flatten_cons,List.set_append_right _ _ (by rw[ha,Nat.succ_mul];omega),ha,show(k+1)*sz+j-sz=k*sz+j by rw[Nat.succ_mul];omega];rw[ih (fun u hu=>h u (.tail _ hu)) k j u e hj]
theorem row_mem{α:Type}{B E sz:Nat}{enc:α->List AV}{S:Nat->Nat->Prop}{w:World}{v:Value}{xs:List α}{us:List (List Value)}(h:LRow B E sz enc S w v xs us):∀u∈us,u.length=sz:=fun u hu=>by
 obtain⟨i,hi⟩:=List.mem_iff_getElem?.1 hu;have bP:i<xs.length:=by rw[<-h.len];exact(List.getElem?_eq_some_iff.1 hi).1
 exact(h.row i xs[i] u (List.getElem?_eq_getElem bP) hi).1
theorem row_set{B:Nat}{S:Nat->Nat->Prop}{w:World}{g cap k n:Nat}{xs:List Lo}{us:List (List Value)}{x:Lo}{m:Int}(h:LRow B 53 6 Cq S w (.slice (some ⟨g,0,none⟩) n cap) xs us)(hx:xs[k]?=some x) :
  ∃vw,LRow B 53 6 Cq S (w.setCell ⟨g,k*6+1,none⟩ (.int .i64 m)) (.slice (some ⟨g,0,none⟩) n cap) (xs.set k ⟨x.path,⟨m,x.ver.b,x.ver.c⟩,x.arch,x.ifc⟩) vw:=by
 have hkx:k<xs.length:=(List.getElem?_eq_some_iff.1 hx).1;have wg:k<us.length:=by rw[h.len];exact hkx
 have hu:=List.getElem?_eq_getElem wg;obtain⟨r1,r2⟩:=h.row k x _ hx hu;have hS:∀b o,S b o->(w.setCell ⟨g,k*6+1,none⟩ (.int .i64 m)).heap[b]?=w.heap[b]?:=fun b o q=>Below.heap_setCell _ _ _ _ (fun e=>(h.fresh b o q).2.2 (by rw[e];rfl));have hz:(w.setCell ⟨g,k*6+1,none⟩ (.int .i64 m)).heap.size=w.heap.size:=by simp[World.setCell]
 have hk:D2 (gS S) w (gS S) (w.setCell ⟨g,k*6+1,none⟩ (.int .i64 m)):=fun b o q=>⟨q,by simp only[World.cell?,hS b o q],fun _ _ z=>(hS b o q).trans z⟩;refine⟨us.set k (us[k].set 1 (.int .i64 m)),⟨?_,?_⟩,by simp[h.len],fun b o q=>by rw[hz];exact h.fresh b o q,fun i y u' e1 e2=>?_⟩
 .rw[List.length_set,<-flat_set (row_mem h) k 1 _ hu B0,List.length_set];exact h.own.1
 .rw[List.length_set,<-flat_set (row_mem h) k 1 _ hu B0];rcases h.own.2 with ⟨e,_⟩ | ⟨g',Ko,Dn,e,h1,h2,h3,h4,h5,h6⟩
  .cases e
  .injection e with e1 en e2
   injection e1 with e1
   injection e1 with e1
   subst e1 e2;refine .inr ⟨g,cap,Dn.setIfInBounds (k*6+1) (.int .i64 m),by rw[en],h1,?_,h3,h4,by rw[Array.size_setIfInBounds];exact h5,?_⟩
   .show(w.heap.modify g _)[g]?=_;rw[Array.getElem?_modify,if_pos rfl,h2];rfl
   .rw[Array.toList_setIfInBounds,<-h6,List.take_set]
 .rcases Nat.decEq i k with CU | rfl
  .rw[List.getElem?_set_ne (Ne.symm CU)]at e1 e2;obtain⟨s1,s2⟩:=h.row i y u' e1 e2;exact⟨s1,fun j av z a1 a2=>⟨(s2 j av z a1 a2).1.mono hk (fun _ q=>q) (.refl _ _),(s2 j av z a1 a2).2⟩⟩
  .rw[List.getElem?_set_self hkx]at e1;rw[List.getElem?_set_self wg]at e2;cases e1;cases e2;refine⟨by rw[List.length_set];exact r1,fun j av z a1 a2=>?_⟩;rcases Nat.decEq j 1 with hj | rfl
   .rw[List.getElem?_set_ne (Ne.symm hj)]at a2;have wU : (Cq x)[j]?=some av:=by
     match j,hj,a1 with
     |0,_,a1 |2,_,a1 |3,_,a1 |4,_,a1 |5,_,a1=>exact a1
     |j+6,_,a1=>simp at a1
    exact⟨(r2 j av z wU a2).1.mono hk (fun _ q=>q) (.refl _ _),(r2 j av z wU a2).2⟩
   .rw[List.getElem?_set_self B0]at a2;cases a1;cases a2;exact⟨.v _ _,rfl⟩
theorem yu_line(p:ByteArray)(hp:Fx p)(W:World)(hM:HM W):∃(nm:ByteArray) (e:Int),Calls Tryz.prog 66 #[.string p] W fun x w'=>x=.returned (.tuple #[.string nm,.int .i64 (majP p),.int .i64 e])/\Below W.heap.size W w':=by
 have h:=bm p hp;have go:∀(nm:ByteArray) (m e:Int),PC 66 [vs p] (.tup [vs nm,vi m,vi e])->Calls Tryz.prog 66 #[.string p] W fun x w'=>x=.returned (.tuple #[.string nm,.int .i64 m,.int .i64 e])/\Below W.heap.size W w':=fun nm m e hc=>by
  refine(below_of (vals:=#[.string p]) hc hM rfl (fun i av x e1 e2=>?_)).mono fun x W' ⟨⟨v,g',U,e1,e2⟩,hb⟩=>⟨by rw[e1,tup_vals (vs:=[.string nm,.int .i64 m,.int .i64 e]) e2],hb⟩
  match i with
  |0=>cases e1;cases e2;exact .v _ _
  |_+1=>simp at e1
 unfold majP;cases e:BF p with
 |none=>rw[e]at h;exact⟨_,_,go _ _ _ h⟩
 |some m=>rw[e]at h;exact⟨_,_,go _ _ _ h⟩
abbrev majL(l:Lk):Lk:=⟨l.roots,l.ents.map setMaj,l.infs,l.skips⟩
abbrev rdS(s:ByteArray):Lk×RS:=rdLk s s.size (0,0)
def decB(s:ByteArray):Bool:=decide ((rdS s).2.2=0/\¬(rdS s).2.1<s.size)&&DT (majL (rdS s).1)
def decL(s:ByteArray):Lk×Int:=if decB s=true then(majL (rdS s).1,0)else(⟨[],[],[],[]⟩,9)
theorem row_cell{α:Type}{B E sz:Nat}{enc:α->List AV}{S:Nat->Nat->Prop}{w:World}{g cap n:Nat}{xs:List α}{us:List (List Value)}(h:LRow B E sz enc S w (.slice (some ⟨g,0,none⟩) n cap) xs us){k j:Nat}{u:List Value}{y:Value}(hu:us[k]?=some u)(hj:u[j]?=some y):w.cell? ⟨g,k*sz+j,none⟩=some y/\w.frozen? ⟨g,k*sz+j,none⟩=false:=by
 rcases h.own.2 with ⟨e,_⟩ | ⟨g',Ko,Dn,e,h1,h2,h3,h4,h5,h6⟩
 .cases e
 .injection e with e1 _ _
  injection e1 with e1
  injection e1 with e1
  subst e1;have hul:=row_mem h u (List.mem_of_getElem? hu);have hk:k<us.length:=(List.getElem?_eq_some_iff.1 hu).1;have hjl:j<sz:=by rw[<-hul];exact(List.getElem?_eq_some_iff.1 hj).1
  refine⟨?_,Lib.frozen_of_heap h2 _⟩;rw[Lib.cell_of_heap h2,<-Array.getElem?_toList];have hf:=(flat_get (row_mem h) k j u hu hjl).trans hj;have BW:k*sz+j<xs.length*sz:=by
   rw[h.len]at hk
   have:=Nat.mul_le_mul_right sz (show k+1<=xs.length by omega)
   rw[Nat.succ_mul]at this;omega
  rw[<-hf,<-h6,List.getElem?_take_of_lt BW]
theorem lk_rep{B c1 c2 d:Nat}{W w:World}{l:Lk}{v0 v1 v2 v3:Value}(hW:W.heap.size=B)(b1:B<=c1)(b2:c1<=c2)(r0:LRB B c1 68 2 Af w v0 l.roots)(r1:LRB c1 c2 53 6 Cq w v1 l.ents)(r2:LRB c2 d 96 6 AR w v2 l.infs)(r3:LRB c2 d 92 3 AJ w v3 l.skips) :
  ∃S,(∀b o,S b o->B<=b/\b<w.heap.size)/\A3 (gS S) w DR (.agg (BH l)) (.agg #[v0,v1,v2,v3]):=by
 obtain⟨S0,u0,h0,_,_⟩:=r0;obtain⟨S1,u1,h1,_,_⟩:=r1;obtain⟨S2,u2,h2,_,_⟩:=r2;obtain⟨S3,u3,h3,_,_⟩:=r3;have e0:=h0.done (W:=W) B0 (fun _=>rfl);have e1:=h1.done (W:=W) B0 (fun _=>rfl);have e2:=h2.done (W:=W) B0 (fun _=>rfl);have e3:=h3.done (W:=W) B0 (fun _=>rfl);subst hW;have up:∀{S S' : Nat->Nat->Prop} {av:AV} {v:Value},(∀b o,S b o->S' b o)->ElemR S W w [av] [v]->A3 (gS S') w DR av v/\v.oneCell'=true:=fun hS e=>
  ⟨(e.rep 0 _ _ rfl rfl).1.mono (fun b o q=>⟨hS b o q,rfl,fun _ _ z=>z⟩) (fun _ z=>z) (.refl _ _),(e.rep 0 _ _ rfl rfl).2⟩
 have key:∀T:Nat->Nat->Prop,(∀b o,(S0 b o\/some b=v0.ownBlock)->T b o)->(∀b o,(S1 b o\/some b=v1.ownBlock)->T b o)->(∀b o,(S2 b o\/some b=v2.ownBlock)->T b o)->(∀b o,(S3 b o\/some b=v3.ownBlock)->T b o)->A3 (gS T) w DR (.agg (BH l)) (.agg #[v0,v1,v2,v3]):=fun T t0 t1 t2 t3=>by
  have k0:=up t0 e0;have k1:=up t1 e1;have k2:=up t2 e2;have k3:=up t3 e3;refine .agg _ _ _ rfl (fun j x e=>?_) (fun j av x a1 a2=>?_)
  .match j,e with
   |0,e=>cases e;exact k0.2
   |1,e=>cases e;exact k1.2
   |2,e=>cases e;exact k2.2
   |3,e=>cases e;exact k3.2
  .match j,a1,a2 with
   |0,a1,a2=>cases a1;cases a2;exact k0.1
   |1,a1,a2=>cases a1;cases a2;exact k1.1
   |2,a1,a2=>cases a1;cases a2;exact k2.1
   |3,a1,a2=>cases a1;cases a2;exact k3.1
 refine⟨fun b o=>(S0 b o\/some b=v0.ownBlock)\/(S1 b o\/some b=v1.ownBlock)\/(S2 b o\/some b=v2.ownBlock)\/(S3 b o\/some b=v3.ownBlock),fun b o q=>?_,key _ (fun _ _ q=>.inl q) (fun _ _ q=>.inr (.inl q)) (fun _ _ q=>.inr (.inr (.inl q))) (fun _ _ q=>.inr (.inr (.inr q)))⟩;rcases q with q | q | q | q
 .exact e0.fresh b o q
 .exact e1.fresh b o q
 .exact e2.fresh b o q
 .exact e3.fresh b o q
abbrev nil4:Array Value:=#[.slice none 0 0,.slice none 0 0,.slice none 0 0,.slice none 0 0]
set_option maxRecDepth 100000 in
theorem res28(tmps:Array Value)(w:World)(g:Nat)(cs:Array Value)(e:Value)(hp:tmps.getD 2 undef=pA g 0)(he:tmps.getD 3 undef=e)(hg:w.heap[g]?=some (.cells cs 33 (0,0)))(EQ:cs.size=4):(results Tryz.f28 tmps).run Tryz.prog w=.ok (.tuple #[.agg cs,e]) w:=by
 rw[results_cell_tmp (p:=2) (u:=3) (ty:=33) rfl,hp,he];show((loadVar 33 ⟨g,0,none⟩).run Tryz.prog w).andThen _=_;rw[run_loadVar_row w g 33 33 cs (0,0) _ hg Tryz.underlying33 rfl (by rw[EQ];kernel_rfl)]
 rfl
theorem set_get{w:World}{g k T:Nat}{cs:Array Value}{v:Value}(h:w.heap[g]?=some (.cells cs T (0,0))):(w.setCell ⟨g,k,none⟩ v).heap[g]?=some (.cells (cs.setIfInBounds k v) T (0,0)):=by
 show(w.heap.modify g _)[g]?=_;rw[Array.getElem?_modify,if_pos rfl,h];rfl
abbrev set4(w:World)(g:Nat)(a b c d:Value):World:=(((w.setCell ⟨g,0,none⟩ a).setCell ⟨g,1,none⟩ b).setCell ⟨g,2,none⟩ c).setCell ⟨g,3,none⟩ d
theorem set4_get{w:World}{g:Nat}(a b c d:Value)(h:w.heap[g]?=some (.cells nil4 33 (0,0))):(set4 w g a b c d).heap[g]?=some (.cells #[a,b,c,d] 33 (0,0)):=set_get (set_get (set_get (set_get h)))
theorem set4_ne{w:World}{g k:Nat}{a b c d:Value}(h:k≠g):(set4 w g a b c d).heap[k]?=w.heap[k]?:=
 (Below.heap_setCell _ _ _ _ h).trans ((Below.heap_setCell _ _ _ _ h).trans ((Below.heap_setCell _ _ _ _ h).trans (Below.heap_setCell _ _ _ _ h)))
theorem set4_size{w:World}{g:Nat}{a b c d:Value}:(set4 w g a b c d).heap.size=w.heap.size:=by simp[set4,World.setCell]
theorem set4_below{W w:World}{a b c d:Value}(h:Below W.heap.size W w):Below W.heap.size W (set4 w W.heap.size a b c d):=
 ⟨h.os,h.tape,h.output,by rw[set4_size];exact h.size,fun k hk=>(set4_ne B0).trans (h.block k hk)⟩
theorem nil_rep(w:World):A3 (gS fun _ _=>False) w DR (.agg (BH ⟨[],[],[],[]⟩)) (.agg nil4):=by
 refine .agg _ _ _ rfl (fun j x e=>?_) (fun j av x a1 a2=>?_)
 .match j,e with
  |0,e |1,e |2,e |3,e=>cases e;rfl
 .match j,a1,a2 with
  |0,a1,a2 |1,a1,a2 |2,a1,a2 |3,a1,a2=>cases a1;cases a2;exact .snil _ _ _
structure Fr(c1 c2:Nat)(w w' : World):Prop where
 os:w'.os=w.os
 tape:w'.tape=w.tape
 output:w'.output=w.output
 size:w.heap.size<=w'.heap.size
 blk:∀k,k<w.heap.size->(k<c1\/c2<=k)->w'.heap[k]?=w.heap[k]?
abbrev decW(W:World)(s:ByteArray):World:=(((W.alloc (.cells nil4 33)).alloc (rdO s 0 0)).alloc (lrO (W.heap.size+1) s.size)).alloc (.cells nil4 33)
theorem decW_ok(s:ByteArray)(hs:s.size<=1000000)(W:World)(hM:HM W):RW (W.heap.size+1) (W.heap.size+1+1) s s.size (0,0) (decW W s)/\(decW W s).heap[W.heap.size+1+1+1]?=some (.cells nil4 33)/\(decW W s).heap[W.heap.size]?=some (.cells nil4 33)/\Below W.heap.size W (decW W s)/\(decW W s).heap.size=W.heap.size+4:=by
 have z1:(W.alloc (.cells nil4 33)).heap.size=W.heap.size+1:=aa0
 have z2:((W.alloc (.cells nil4 33)).alloc (rdO s 0 0)).heap.size=W.heap.size+1+1:=aa0
 have z3:(((W.alloc (.cells nil4 33)).alloc (rdO s 0 0)).alloc (lrO (W.heap.size+1) s.size)).heap.size=W.heap.size+1+1+1:=aa0
 have k0:=new_heap W (.cells nil4 33);have k1:=new_heap (W.alloc (.cells nil4 33)) (rdO s 0 0);have k2:=new_heap ((W.alloc (.cells nil4 33)).alloc (rdO s 0 0)) (lrO (W.heap.size+1) s.size);have k3:=new_heap (((W.alloc (.cells nil4 33)).alloc (rdO s 0 0)).alloc (lrO (W.heap.size+1) s.size)) (.cells nil4 33);rw[z1]at k1;rw[z2]at k2;rw[z3]at k3;refine⟨⟨⟨?_,((hM.alloc _).alloc _).alloc _ |>.alloc _,Nat.zero_le _,by omega,.inl rfl⟩,?_,by omega⟩,k3,?_,?_,by simp⟩
 .exact(Below.heap_alloc _ _ _ (by rw[z3];omega)).trans ((Below.heap_alloc _ _ _ (by rw[z2];omega)).trans k1)
 .exact(Below.heap_alloc _ _ _ (by rw[z3];omega)).trans k2
 .exact(Below.heap_alloc _ _ _ (by rw[z3];omega)).trans ((Below.heap_alloc _ _ _ (by rw[z2];omega)).trans ((Below.heap_alloc _ _ _ (by rw[z1];omega)).trans k0))
 .exact((((Below.refl _ W).alloc (Nat.le_refl _) _).alloc (by rw[z1];omega) _).alloc (by rw[z2];omega) _).alloc (by rw[z3];omega) _
theorem row_slice{α:Type}{B c E sz:Nat}{enc:α->List AV}{w:World}{v:Value}{xs:List α}(h:LRB B c E sz enc w v xs):∃a k,v=.slice a xs.length k:=by
 obtain⟨S,us,h1,_,_⟩:=h;rcases h1.own.2 with ⟨e,e0⟩ | ⟨g,cap,Dn,e,_⟩
 .exact⟨none,0,by rw[e,e0]⟩
 .exact⟨_,_,e⟩
set_option maxRecDepth 100000 in
set_option maxHeartbeats 8000000 in
theorem yu_decode(s:ByteArray)(hs:s.size<=1000000)(hp:∀e∈(rdS s).1.ents,Fx e.path)(hf:(rdS s).2.2=0->¬(rdS s).2.1<s.size->PC 48 [.agg (BH (majL (rdS s).1))] (vb (DT (majL (rdS s).1))))(W:World)(hM:HM W) :
  Calls Tryz.prog 28 #[.string s] W fun x w'=>∃v0 v1 v2 v3 S,x=.returned (.tuple #[.agg #[v0,v1,v2,v3],.int .i64 (decL s).2])/\Below W.heap.size W w'/\(∀b o,S b o->W.heap.size<=b/\b<w'.heap.size)/\A3 (gS S) w' DR (.agg (BH (decL s).1)) (.agg #[v0,v1,v2,v3]):=by
 go_enter Tryz.func28,Tryz.ntmps28
 obtain⟨f1,f2,f3,f4,f5⟩:=decW_ok s hs W hM
 go_wp2_with (first
  |(go_at_call 64;refine(yo_new s _).mono ?_;rintro x w1 ⟨rfl,rfl⟩)
  |(go_at_call 63;go_loud (refine(yt_parts (W.heap.size+1) (W.heap.size+1+1) (W.heap.size+1+1+1) 33 s.size s (0,0) (decW W s) f1 B0 B0 B0 f2 hs).mono ?_;rintro x w5 ⟨rfl,v0,v1,v2,v3,⟨q5,k5,d5⟩,c1,c2,lk⟩;obtain⟨a1,n1,rfl⟩:=row_slice lk.r1;obtain⟨a0,n0,rfl⟩:=row_slice lk.r0;obtain⟨a2,n2,rfl⟩:=row_slice lk.r2;obtain⟨a3,n3,rfl⟩:=row_slice lk.r3;have vV:=(d5.block (W.heap.size+1+1) B0 B0 B0).trans f1.hD;have x0:=Lib.cell_of_heap vV 0;have x1:=Lib.cell_of_heap k5 1)))
 generalize hl0:(rdLk s s.size (0,0)).1=l0 at lk hp k5 x1⊢
 go_loopw [29] (fun i wr=>∃k:Nat,i=.int .i64 k/\k<=l0.ents.length/\LRB c1 c2 53 6 Cq wr (.slice a1 l0.ents.length n1) (majK l0.ents k)/\Fr c1 c2 w5 wr) (fun i _=>l0.ents.length-(intOf i).toNat)
 case atStart=>exact⟨0,rfl,Nat.zero_le _,lk.r1,rfl,rfl,rfl,Nat.le_refl _,fun _ _ _=>rfl⟩
 case round=>
  obtain⟨k,rfl,hk,⟨S,us,DC,hS,hO⟩,Rs⟩:=hrel;rcases Nat.lt_or_ge k l0.ents.length with BW | WT
  .have hx:=majK_get BW;have wl:=majK_len l0.ents k;obtain⟨g,rfl,bO,hnl⟩:∃g,a1=some ⟨g,0,none⟩/\c1<=g/\l0.ents.length<=9223372036854775807:=by
    rcases DC.own.2 with ⟨e,e0⟩ | ⟨g,cap,Dn,e,e2,_,e3,e4,_⟩
    .omega
    .injection e with e1 _ _
     exact⟨g,e1,e2,by unfold maxLen at e4;omega⟩
   have oK:=hO g rfl;have wg:k<us.length:=by rw[DC.len,wl];exact BW
   have hu:=List.getElem?_eq_getElem wg;obtain⟨r1,r2⟩:=DC.row k _ _ hx hu;obtain⟨u0,u1,u2,u3,u4,u5,LQ⟩:=len6 r1;rw[LQ]at hu r2;obtain rfl:u0=.string l0.ents[k].path:=(r2 0 _ u0 rfl rfl).1.v_eq;obtain rfl:u1=.int .i64 l0.ents[k].ver.a:=(r2 1 _ u1 rfl rfl).1.v_eq;obtain rfl:u2=.int .i64 l0.ents[k].ver.b:=(r2 2 _ u2 rfl rfl).1.v_eq;obtain rfl:u3=.int .i64 l0.ents[k].ver.c:=(r2 3 _ u3 rfl rfl).1.v_eq;obtain rfl:u4=.string l0.ents[k].arch:=(r2 4 _ u4 rfl rfl).1.v_eq;obtain rfl:u5=.string l0.ents[k].ifc:=(r2 5 _ u5 rfl rfl).1.v_eq;have g0:=(row_cell DC hu (j:=0) rfl).1;have g1:=(row_cell DC hu (j:=1) rfl).1;have g2:=(row_cell DC hu (j:=2) rfl).1;have g3:=(row_cell DC hu (j:=3) rfl).1;have g4:=(row_cell DC hu (j:=4) rfl).1;have g5:=(row_cell DC hu (j:=5) rfl).1;rw[Nat.add_zero]at g0;have yt:W.heap.size+1+1+1<c1:=by have:=lk.b1;omega
   have z5:=lk.b3;have yd:HM w5:=f1.hM.imp fun m hm=>by
    rw[<-hm];simp only[World.cell?,d5.block 0 (Fz hm) B0 B0]
   have ye:HM wr:=yd.imp fun m hm=>by
    rw[<-hm];simp only[World.cell?,Rs.blk 0 (Fz hm) (.inl B0)]
   have EQ:=Rs.size;have hgr:=(Array.getElem?_eq_some_iff.1 (show ∃Dn,wr.heap[g]?=some Dn from(by rcases DC.own.2 with ⟨e,_⟩ | ⟨g',Ko,Dn,e,_,h2,_⟩;cases e;injection e with e1 _ _;injection e1 with e1;injection e1 with e1;subst e1;exact⟨_,h2⟩)).choose_spec).1;have kb:=(Rs.blk (W.heap.size+1+1+1) B0 (.inl yt)).trans k5;obtain⟨nm,er,tO⟩:=yu_line l0.ents[k].path (hp _ (List.getElem_mem BW)) (wr.alloc (.cells #[.string l0.ents[k].path,.int .i64 l0.ents[k].ver.a,.int .i64 l0.ents[k].ver.b,.int .i64 l0.ents[k].ver.c,.string l0.ents[k].arch,.string l0.ents[k].ifc] 53)) (ye.alloc _)
   go_wp2_with (go_at_call 66;go_loud (refine tO.mono ?_;rintro x w6 ⟨rfl,d6⟩;have s6:∀j,j<wr.heap.size->w6.heap[j]?=wr.heap[j]?:=(fun j hj=>(d6.block j (by simp;omega)).trans (Below.heap_alloc _ _ _ hj));have kb6:=(s6 (W.heap.size+1+1+1) B0).trans kb;have cb6:=Lib.cell_of_heap kb6 1;have kk:=DC.keep (w':=w6) (by have:=d6.size;simp at this;omega) (fun j _ j2 _=>s6 j j2);have cg6:=(row_cell kk hu (j:=1) rfl).1;have fg6:=(row_cell kk hu (j:=1) rfl).2))
   obtain⟨vw,nL⟩:=row_set (m:=majP l0.ents[k].path) kk hx;rw[show(⟨l0.ents[k].path,⟨majP l0.ents[k].path,l0.ents[k].ver.b,l0.ents[k].ver.c⟩,l0.ents[k].arch,l0.ents[k].ifc⟩:Lo)=setMaj l0.ents[k]from rfl,majK_next BW]at nL
   go_roundw
   case rel=>
    refine⟨k+1,by go_num,BW,⟨S,vw,nL,hS,hO⟩,d6.os.trans Rs.os,d6.tape.trans Rs.tape,d6.output.trans Rs.output,?_,fun j j1 j2=>?_⟩
    .have:=d6.size
     simp[World.setCell]at this⊢;omega
    .exact(Below.heap_setCell _ _ _ _ (show j≠g by omega)).trans ((s6 j B0).trans (Rs.blk j j1 j2))
   case measure=>simp[intOf];omega
  .obtain rfl:k=l0.ents.length:=B0
   have yt:W.heap.size+1+1+1<c1:=by have:=lk.b1;omega
   have z5:=lk.b3;have z6:=lk.b2;have EQ:=Rs.size;rw[majK_all]at DC;have kR:=(Rs.blk (W.heap.size+1) B0 (.inl B0)).trans q5;have kb:=(Rs.blk (W.heap.size+1+1+1) B0 (.inl yt)).trans k5;have k0:wr.heap[W.heap.size]?=some (.cells nil4 33):=(Rs.blk W.heap.size B0 (.inl B0)).trans ((d5.block W.heap.size B0 B0 B0).trans f3);have yd:HM w5:=f1.hM.imp fun m hm=>by
    rw[<-hm];simp only[World.cell?,d5.block 0 (Fz hm) B0 B0]
   have ye:HM wr:=yd.imp fun m hm=>by
    rw[<-hm];simp only[World.cell?,Rs.blk 0 (Fz hm) (.inl B0)]
   have iN:Below W.heap.size W wr:=f4.trans ⟨Rs.os.trans d5.os,Rs.tape.trans d5.tape,Rs.output.trans d5.output,Nat.le_trans d5.size Rs.size,fun j j1=>(Rs.blk j B0 (.inl B0)).trans (d5.block j B0 B0 B0)⟩;have bQ:∀j,j<w5.heap.size->(j<c1\/c2<=j)->wr.heap[j]?=w5.heap[j]?:=Rs.blk;obtain⟨S',OA,DH⟩:=lk_rep (W:=decW W s) (w:=wr) (l:=majL l0) rfl lk.b1 lk.b2 (lk.r0.keep EQ fun j _ j2 j3=>bQ j j3 (.inl j2)) ⟨S,us,DC,hS,hO⟩ (lk.r2.keep EQ fun j j1 _ j3=>bQ j j3 (.inr j1)) (lk.r3.keep EQ fun j j1 _ j3=>bQ j j3 (.inr j1));have e65:∀args w,(callFunc 65 args).run Tryz.prog w=.ok (.enter 65 args) w:=enters_of Tryz.func65 aa3 rfl;have LK:=yo_end (W.heap.size+1) _ _ s wr (rdLk_ok (q:=(0,0)) ⟨Nat.zero_le _,.inl rfl⟩).2 kR;have qv:majL (rdS s).1=majL l0:=by rw[<-hl0]
   by_cases hE:(rdS s).2.2=0/\¬(rdS s).2.1<s.size
   .have hv:(if(rdLk s s.size (0,0)).2.2=0 then(if(rdLk s s.size (0,0)).2.1<s.size then 9 else 0)else(rdLk s s.size (0,0)).2.2)=(0:Int):=by rw[if_pos hE.1,if_neg hE.2]
    rw[hv]at LK;have hf:=hf hE.1 hE.2;rw[qv]at hf;have y0:wr.drew.cell? ⟨W.heap.size+1+1+1,0,none⟩=some (.slice a0 l0.roots.length n0):=Lib.cell_of_heap (w:=wr.drew) kb 0;have y1:wr.drew.cell? ⟨W.heap.size+1+1+1,1,none⟩=some (.slice a1 l0.ents.length n1):=Lib.cell_of_heap (w:=wr.drew) kb 1;have y2:wr.drew.cell? ⟨W.heap.size+1+1+1,2,none⟩=some (.slice a2 l0.infs.length n2):=Lib.cell_of_heap (w:=wr.drew) kb 2;have y3:wr.drew.cell? ⟨W.heap.size+1+1+1,3,none⟩=some (.slice a3 l0.skips.length n3):=Lib.cell_of_heap (w:=wr.drew) kb 3;have yK:Calls Tryz.prog 48 #[.agg #[.slice a0 l0.roots.length n0,.slice a1 l0.ents.length n1,.slice a2 l0.infs.length n2,.slice a3 l0.skips.length n3]] wr.drew fun e w'=>e=.returned (.bool (DT (majL l0)))/\Below wr.drew.heap.size wr.drew w':=by
     refine(below_of (vals:=#[.agg #[.slice a0 l0.roots.length n0,.slice a1 l0.ents.length n1,.slice a2 l0.infs.length n2,.slice a3 l0.skips.length n3]]) hf ye.drew rfl (fun i av y e1 e2=>?_)).mono fun e W' ⟨⟨v,g',U,e1,e2⟩,hb⟩=>⟨by rw[e1,e2.v_eq],hb⟩
     match i with
     |0=>cases e1;cases e2;exact A3.mono (g:=gS S') (w:=wr) (g':=WR wr.drew) (w':=wr.drew) (fun b o q=>⟨(OA b o q).2,rfl,fun _ _ z=>z⟩) DH (fun _ z=>z) (fun _ z=>z.elim)
     |_+1=>simp at e1
    generalize dW:DT (majL l0)=fb at yK;cases fb with
    |true=>
     have XL:decL s=(majL l0,0):=by unfold decL decB;rw[qv,dW,decide_eq_true hE];rfl
     go_wp2_with (first
      |(go_at_call 65;refine LK.mono ?_;rintro x w' ⟨rfl,rfl⟩)
      |(go_at_fn 65;refine LK.mono ?_;rintro x w' ⟨rfl,rfl⟩)
      |(go_at_call 48;go_loud (refine yK.mono ?_;rintro x w8 ⟨rfl,b8⟩;have wD:=(b8.block (W.heap.size+1+1+1) (by show _<wr.heap.size;omega)).trans kb;have Wn:=(b8.block W.heap.size (by show _<wr.heap.size;omega)).trans k0;have t0:=Lib.cell_of_heap wD 0;have t1:=Lib.cell_of_heap wD 1;have t2:=Lib.cell_of_heap wD 2;have t3:=Lib.cell_of_heap wD 3;have m0:=Lib.cell_of_heap Wn 0;have m1:=Lib.cell_of_heap Wn 1;have m2:=Lib.cell_of_heap Wn 2;have m3:=Lib.cell_of_heap Wn 3;have j0:=Lib.frozen_of_heap Wn 0;have j1:=Lib.frozen_of_heap Wn 1;have j2:=Lib.frozen_of_heap Wn 2;have j3:=Lib.frozen_of_heap Wn 3)))
     have s9:∀k,k<wr.heap.size->k≠W.heap.size->(set4 w8 W.heap.size (.slice a0 l0.roots.length n0) (.slice a1 l0.ents.length n1) (.slice a2 l0.infs.length n2) (.slice a3 l0.skips.length n3)).heap[k]?=wr.heap[k]?:=fun k k1 k2=>(set4_ne k2).trans (b8.block k k1);have z9:wr.heap.size<=w8.heap.size:=b8.size;exact bodyPost_ret (res28 _ _ W.heap.size _ (.int .i64 0) rfl rfl (set4_get _ _ _ _ Wn) rfl) rfl ⟨_,_,_,_,S',by rw[XL],set4_below (iN.drew.trans (b8.mono iN.size)),fun b o q=>⟨by have:=(OA b o q).1;omega,by rw[set4_size];have:=(OA b o q).2;omega⟩,by
      rw[XL];exact A3.mono (g:=gS S') (w:=wr) (fun b o q=>by
       have e:=s9 b (OA b o q).2 (by have:=(OA b o q).1;omega);exact⟨q,by simp only[World.cell?,e],fun _ _ z=>e.trans z⟩) DH (fun _ z=>z) (.refl _ _)⟩
    |false=>
     have XL:decL s=(⟨[],[],[],[]⟩,9):=by unfold decL decB;rw[qv,dW,Bool.and_false];rfl
     go_wp2_with (first
      |(go_at_call 65;refine LK.mono ?_;rintro x w' ⟨rfl,rfl⟩)
      |(go_at_fn 65;refine LK.mono ?_;rintro x w' ⟨rfl,rfl⟩)
      |(go_at_call 48;go_loud (refine yK.mono ?_;rintro x w8 ⟨rfl,b8⟩;have Wn:=(b8.block W.heap.size (by show _<wr.heap.size;omega)).trans k0;have m0:=Lib.cell_of_heap Wn 0;have m1:=Lib.cell_of_heap Wn 1;have m2:=Lib.cell_of_heap Wn 2;have m3:=Lib.cell_of_heap Wn 3;have j0:=Lib.frozen_of_heap Wn 0;have j1:=Lib.frozen_of_heap Wn 1;have j2:=Lib.frozen_of_heap Wn 2;have j3:=Lib.frozen_of_heap Wn 3)))
     exact bodyPost_ret (res28 _ _ W.heap.size nil4 (.int .i64 9) rfl rfl (set4_get _ _ _ _ Wn) rfl) rfl ⟨.slice none 0 0,.slice none 0 0,.slice none 0 0,.slice none 0 0,fun _ _=>False,by rw[XL],set4_below (iN.drew.trans (b8.mono iN.size)),fun _ _ q=>q.elim,by rw[XL];exact nil_rep _⟩
   .have XL:decL s=(⟨[],[],[],[]⟩,9):=by unfold decL decB;rw[decide_eq_false hE];rfl
    have hv:(if(rdLk s s.size (0,0)).2.2=0 then(if(rdLk s s.size (0,0)).2.1<s.size then 9 else 0)else(rdLk s s.size (0,0)).2.2)=(9:Int):=by
     by_cases h1:(rdLk s s.size (0,0)).2.2=0
     .rw[if_pos h1,if_pos (Classical.byContradiction fun h2=>hE ⟨h1,h2⟩)]
     .rw[if_neg h1];exact(rdLk_ok (q:=(0,0)) ⟨Nat.zero_le _,.inl rfl⟩).2.resolve_left h1
    rw[hv]at LK
    go_wp2_with (first
     |(go_at_call 65;refine LK.mono ?_;rintro x w' ⟨rfl,hw'⟩;have kd:w'.heap[W.heap.size]?=some (.cells nil4 33):=(by rw[hw'];exact k0);have m0:=Lib.cell_of_heap kd 0;have m1:=Lib.cell_of_heap kd 1;have m2:=Lib.cell_of_heap kd 2;have m3:=Lib.cell_of_heap kd 3;have j0:=Lib.frozen_of_heap kd 0;have j1:=Lib.frozen_of_heap kd 1;have j2:=Lib.frozen_of_heap kd 2;have j3:=Lib.frozen_of_heap kd 3;have hw2:Hid (w'=wr.drew):=hw';clear hw')
     |(go_at_fn 65;refine LK.mono ?_;rintro x w' ⟨rfl,hw'⟩;have kd:w'.heap[W.heap.size]?=some (.cells nil4 33):=(by rw[hw'];exact k0);have m0:=Lib.cell_of_heap kd 0;have m1:=Lib.cell_of_heap kd 1;have m2:=Lib.cell_of_heap kd 2;have m3:=Lib.cell_of_heap kd 3;have j0:=Lib.frozen_of_heap kd 0;have j1:=Lib.frozen_of_heap kd 1;have j2:=Lib.frozen_of_heap kd 2;have j3:=Lib.frozen_of_heap kd 3;have hw2:Hid (w'=wr.drew):=hw';clear hw'))
    exact bodyPost_ret (res28 _ _ W.heap.size nil4 (.int .i64 9) rfl rfl (set4_get _ _ _ _ kd) rfl) rfl ⟨.slice none 0 0,.slice none 0 0,.slice none 0 0,.slice none 0 0,fun _ _=>False,by rw[XL],set4_below (by rw[hw2.out];exact iN.drew),fun _ _ q=>q.elim,by rw[XL];exact nil_rep _⟩
end Go.Proofs
namespace Go.Proofs
open Go.Eng
abbrev dr(s:ByteArray)(p:Nat):List UInt8:=s.data.toList.drop p
theorem dr_app{s:ByteArray}{p:Nat}{a r:List UInt8}(h:dr s p=a++r):dr s (p+a.length)=r:=by
 have:=congrArg (List.drop a.length) h
 rw[List.drop_left]at this;unfold dr at this⊢;rw[<-this,List.drop_drop]
structure Cod{α:Type}(s:ByteArray)(rd:RS->α×RS)(enc:α->List UInt8)(V:α->Prop):Prop where
 err:∀q:RS,q.2≠0->(rd q).2=q
 snd:∀p p',(rd (p,0)).2=(p',0)->V (rd (p,0)).1/\dr s p=enc (rd (p,0)).1++dr s p'/\p'=p+(enc (rd (p,0)).1).length
 cpl:∀p x r,V x->dr s p=enc x++r->rd (p,0)=(x,(p+(enc x).length,0))
theorem Cod.seq{α β:Type}{s:ByteArray}{r1:RS->α×RS}{r2:RS->β×RS}{e1:α->List UInt8}{e2:β->List UInt8}{V1:α->Prop}{V2:β->Prop}(h1:Cod s r1 e1 V1)(h2:Cod s r2 e2 V2) :
  Cod s (fun q=>(((r1 q).1,(r2 (r1 q).2).1),(r2 (r1 q).2).2)) (fun x=>e1 x.1++e2 x.2) (fun x=>V1 x.1/\V2 x.2) where
 err:=fun q hq=>by
  have a:=h1.err q hq;show(r2 (r1 q).2).2=q;rw[a];exact h2.err q hq
 snd:=fun p p' hq=>by
  have hq:(r2 (r1 (p,0)).2).2=(p',0):=hq;obtain⟨⟨p1,e⟩,qA⟩:∃q,q=(r1 (p,0)).2:=⟨_,rfl⟩;rw[<-qA]at hq;have he:e=0:=Classical.byContradiction fun he=>by
   rw[h2.err (p1,e) he]at hq
   injection hq with _ k
   exact he k
  subst he;obtain⟨a1,a2,a3⟩:=h1.snd p p1 qA.symm;obtain⟨b1,b2,b3⟩:=h2.snd p1 p' hq;show(V1 _/\V2 (r2 (r1 (p,0)).2).1)/\dr s p=(e1 _++e2 (r2 (r1 (p,0)).2).1)++_/\p'=p+(e1 _++e2 (r2 (r1 (p,0)).2).1).length;rw[<-qA];refine⟨⟨a1,b1⟩,?_,?_⟩
  .rw[List.append_assoc,<-b2];exact a2
  .show p'=p+(e1 (r1 (p,0)).1++e2 (r2 (p1,0)).1).length;rw[List.length_append];omega
 cpl:=fun p x r hv hq=>by
  have hq:dr s p=(e1 x.1++e2 x.2)++r:=hq;rw[List.append_assoc]at hq;have a:=h1.cpl p x.1 _ hv.1 hq;have b:=h2.cpl (p+(e1 x.1).length) x.2 r hv.2 (dr_app hq);show(((r1 (p,0)).1,(r2 (r1 (p,0)).2).1),(r2 (r1 (p,0)).2).2)=(x,(p+(e1 x.1++e2 x.2).length,0));rw[a];show((x.1,(r2 (p+(e1 x.1).length,0)).1),(r2 (p+(e1 x.1).length,0)).2)=_;rw[b,List.length_append,<-Nat.add_assoc]
theorem Cod.map{α β:Type}{s:ByteArray}{rd:RS->α×RS}{enc:α->List UInt8}{V:α->Prop}(h:Cod s rd enc V)(f:α->β)(g:β->α)(en:β->List UInt8)(W:β->Prop)(hf:∀x,V x->W (f x)/\en (f x)=enc x)(hg:∀y,W y->V (g y)/\f (g y)=y/\en y=enc (g y)) :
  Cod s (fun q=>(f (rd q).1,(rd q).2)) en W where
 err:=h.err
 snd:=fun p p' hq=>by
  obtain⟨a1,a2,a3⟩:=h.snd p p' hq;obtain⟨b1,b2⟩:=hf _ a1;exact⟨b1,by rw[b2];exact a2,by rw[b2];exact a3⟩
 cpl:=fun p y r hv hq=>by
  obtain⟨a1,a2,a3⟩:=hg y hv;have b:=h.cpl p (g y) r a1 (by rw[<-a3];exact hq);show(f (rd (p,0)).1,(rd (p,0)).2)=_;rw[b,a3];show(f (g y),_)=_;rw[a2]
theorem uL_pos(n:Nat):1<=(uL n).length:=by
 rw[uL];split<;>simp
theorem scU_snd:∀(l:List UInt8) (j m p n e:Nat),Mg j m p l=(n,e,true)->∃k,n=m+k*128 ^ j/\(∃r,l=uL k++r)/\e=p+(uL k).length/\(0<k\/j=0)
 | [],j,m,p,n,e,h=>by simp[Mg]at h
 |b::r,j,m,p,n,e,h=>by
  have hB:b.toNat<256:=b.toNat_lt
  by_cases c1:10<=j
  .simp[Mg,c1]at h
  by_cases c2:j=9/\1<b.toNat
  .simp only[Mg,if_neg c1,if_pos c2]at h;cases h
  by_cases c3:b.toNat<128
  .simp only[Mg,if_neg c1,if_neg c2,if_pos c3,Prod.mk.injEq]at h;obtain⟨rfl,rfl,h3⟩:=h;have h3:=of_decide_eq_true h3;refine⟨b.toNat,rfl,⟨r,?_⟩,?_,h3⟩
   .rw[Zd c3];simp
   .rw[Zd c3];rfl
  .simp only[Mg,if_neg c1,if_neg c2,if_neg c3]at h;obtain⟨k,k1,⟨r',k2⟩,k3,k4⟩:=scU_snd r (j+1) _ (p+1) n e h;have hk:0<k:=k4.resolve_right B0;have e1:(b.toNat-128+128*k) % 128=b.toNat-128:=B0
   have e2:(b.toNat-128+128*k) / 128=k:=B0
   have hu:uL (b.toNat-128+128*k)=b::uL k:=by
    rw[cR B0,e1,e2,show b.toNat-128+128=b.toNat by omega];simp
   refine⟨b.toNat-128+128*k,?_,⟨r',?_⟩,?_,.inl B0⟩
   .rw[k1,Nat.pow_succ,Nat.add_mul,<-Nat.add_assoc,Nat.mul_comm (128 ^ j) 128,<-Nat.mul_assoc,Nat.mul_comm k 128]
   .rw[hu,k2];rfl
   .rw[hu,k3,List.length_cons];omega
theorem scU_cpl:∀(l:List UInt8) (j m p k:Nat) (r:List UInt8),l=uL k++r->(0<k\/j=0)->k*128 ^ j<18446744073709551616->Mg j m p l=(m+k*128 ^ j,p+(uL k).length,true)
 | [],j,m,p,k,r,h,_,_=>by
  have:=congrArg List.length h
  have u:=uL_pos k;rw[List.length_append]at this;simp at this;omega
 |b::t,j,m,p,k,r,h,h0,hk=>by
  have hj:¬10<=j:=fun hj=>by
   have h1:0<k:=h0.resolve_right B0;have h2:128 ^ 10<=128 ^ j:=Nat.pow_le_pow_right aa2 hj;have h3:1*128 ^ j<=k*128 ^ j:=Nat.mul_le_mul_right _ h1;have h4:(128:Nat) ^ 10=1180591620717411303424:=aa2
   omega
  have h9:j=9->k<=1:=fun hj=>by
   subst hj;have h4:(128:Nat) ^ 9=9223372036854775808:=aa2
   omega
  by_cases c:k<128
  .rw[Zd c]at h⊢
   injection h with h1 h2
   subst h1;have hb:(UInt8.ofNat k).toNat=k:=by simp;omega
   simp only[Mg,if_neg hj,hb];rw[if_neg B0,if_pos c,decide_eq_true h0]
   rfl
  .rw[cR c]at h⊢
   injection h with h1 h2
   subst h1;have hb:(UInt8.ofNat (k % 128+128)).toNat=k % 128+128:=by simp;omega
   simp only[Mg,if_neg hj,hb];rw[if_neg B0,if_neg B0];have Im:k / 128*128 ^ (j+1)<=k*128 ^ j:=by
    rw[Nat.pow_succ,Nat.mul_comm (128 ^ j) 128,<-Nat.mul_assoc];exact Nat.mul_le_mul_right _ (Nat.div_mul_le_self k 128)
   rw[scU_cpl t (j+1) _ (p+1) (k / 128) r h2 (.inl B0) B0];have e1:m+(k % 128+128-128)*128 ^ j+k / 128*128 ^ (j+1)=m+k*128 ^ j:=by
    rw[Nat.add_sub_cancel,Nat.pow_succ,Nat.mul_comm (128 ^ j) 128,<-Nat.mul_assoc,Nat.add_assoc,<-Nat.add_mul]
    congr 2;omega
   rw[e1,List.length_cons,show p+1+(uL (k / 128)).length=p+((uL (k / 128)).length+1) by omega]
end Go.Proofs
namespace Go.Proofs
open Go.Eng
variable {s:ByteArray}
theorem tk_err{α:Type}{z:α}{r:α×Nat×Bool}{q:RS}(h:q.2≠0):tk z r q=(z,q):=by
 unfold tk;rw[if_neg h]
theorem tk_zero{α:Type}{z:α}{r:α×Nat×Bool}{p:Nat}:tk z r (p,0)=bif r.2.2 then(r.1,(r.2.1,0))else(z,(p,9)):=by
 unfold tk;rw[if_pos rfl]
theorem tk_snd{α:Type}{z:α}{r:α×Nat×Bool}{p p' : Nat}(h:(tk z r (p,0)).2=(p',0)):r.2.2=true/\r.2.1=p'/\(tk z r (p,0)).1=r.1:=by
 rw[tk_zero]at h⊢;cases e:r.2.2 with
 |true=>rw[e]at h;injection h with h1 _;exact⟨rfl,h1,rfl⟩
 |false=>
  rw[e]at h
  injection h with _ h2
  cases h2
theorem sc_num{p:Nat}(h:(Fs s p).2.2=true):dr s p=uL (Fs s p).1++dr s (Fs s p).2.1/\(Fs s p).2.1=p+(uL (Fs s p).1).length:=by
 obtain⟨n,e,t⟩:∃n e,Fs s p=(n,e,true):=⟨_,_,by rw[<-h]⟩;obtain⟨k,k1,⟨r,k2⟩,k3,_⟩:=scU_snd _ _ _ _ _ _ t;rw[t];have k1:n=k:=by rw[k1];simp
 subst k1;subst k3;exact⟨by rw[dr_app k2];exact k2,rfl⟩
theorem sc_cpl{p k:Nat}{r:List UInt8}(h:dr s p=uL k++r)(hk:k<9223372036854775808):Fs s p=(k,p+(uL k).length,true):=by
 have:=scU_cpl _ 0 0 p k r h (.inr rfl) B0
 rw[Fs,this];simp
theorem cod_num:Cod s (rNum s) uL (fun n=>n<9223372036854775808) where
 err:=fun q hq=>by unfold rNum;rw[tk_err hq]
 snd:=fun p p' hq=>by
  obtain⟨a1,a2,a3⟩:=tk_snd hq;have a3:(rNum s (p,0)).1=(Fs s p).1:=a3;have a2:(Fs s p).2.1=p':=a2;obtain⟨b1,b2⟩:=sc_num (szB_scan a1);rw[a3,<-a2];exact⟨szB_lt a1,b1,b2⟩
 cpl:=fun p x r hv hq=>by
  have e:=sc_cpl hq hv;unfold rNum;rw[tk_zero];simp[szB,e,hv]
theorem cod_cnt(most:Nat):Cod s (rCnt s most) uL (fun n=>n<9223372036854775808/\n<=most) where
 err:=fun q hq=>by unfold rCnt;rw[tk_err hq]
 snd:=fun p p' hq=>by
  obtain⟨a1,a2,a3⟩:=tk_snd hq;have a3:(rCnt s most (p,0)).1=(Fs s p).1:=a3;have a2:(Fs s p).2.1=p':=a2;have a1:szB s p=true/\(Fs s p).1<=most:=by simpa[ctR]using a1
  obtain⟨b1,b2⟩:=sc_num (szB_scan a1.1);rw[a3,<-a2];exact⟨⟨szB_lt a1.1,a1.2⟩,b1,b2⟩
 cpl:=fun p x r hv hq=>by
  have e:=sc_cpl hq hv.1;unfold rCnt;rw[tk_zero];simp[szB,e,hv.1,hv.2]
theorem ext_data{k n:Nat}:(s.extract k (k+n)).data.toList=(dr s k).take n:=by
 rw[ByteArray.data_extract,Array.toList_extract];show(s.data.toList.drop k).take (k+n-k)=_;rw[Nat.add_sub_cancel_left]
theorem cod_txt:Cod s (rTxt s) tL (fun x=>x.size<9223372036854775808) where
 err:=fun q hq=>by unfold rTxt;rw[tk_err hq]
 snd:=fun p p' hq=>by
  obtain⟨a1,a2,a3⟩:=tk_snd hq;have a3:(rTxt s (p,0)).1=(txA s p).1:=a3;rw[a3];unfold txA at a1 a2⊢;split at a1
  .rename_i c;rw[if_pos c]at a2⊢;have a2:(Fs s p).2.1+(Fs s p).1=p':=a2;obtain⟨b1,b2⟩:dr s p=uL (Fs s p).1++dr s (Fs s p).2.1/\(Fs s p).2.1=p+(uL (Fs s p).1).length:=sc_num (szB_scan c.1);have hl:=congrArg List.length b1;have hu:=uL_pos (Fs s p).1;have z1:(dr s p).length=s.size-p:=List.length_drop ..;have z2:(dr s (Fs s p).2.1).length=s.size-(Fs s p).2.1:=List.length_drop ..;rw[List.length_append,z1,z2]at hl;have c2:(Fs s p).1<=s.size-(Fs s p).2.1:=c.2;have EQ:(s.extract (Fs s p).2.1 ((Fs s p).2.1+(Fs s p).1)).size=(Fs s p).1:=by
    rw[ByteArray.size_extract];omega
   show(s.extract _ _).size<_/\dr s p=tL (s.extract _ _)++_/\p'=p+(tL (s.extract _ _)).length;unfold tL;rw[EQ,ext_data];refine⟨szB_lt c.1,?_,?_⟩
   .rw[List.append_assoc,<-a2]
    have:dr s ((Fs s p).2.1+(Fs s p).1)=(dr s (Fs s p).2.1).drop (Fs s p).1:=by unfold dr;rw[List.drop_drop]
    rw[this,List.take_append_drop];exact b1
   .rw[List.length_append,List.length_take,z2,Nat.min_eq_left c2];omega
  .cases a1
 cpl:=fun p x r hv hq=>by
  have hq:dr s p=(uL x.size++x.data.toList)++r:=hq;rw[List.append_assoc]at hq;have e:=sc_cpl hq hv;have ws:=dr_app hq;have hl:=congrArg List.length ws;have z2:(dr s (p+(uL x.size).length)).length=s.size-(p+(uL x.size).length):=List.length_drop ..;have hx:x.data.toList.length=x.size:=rfl;rw[List.length_append,z2,hx]at hl;unfold rTxt;rw[tk_zero];have et:txA s p=(x,p+(uL x.size).length+x.size,true):=by
   unfold txA;rw[if_pos ⟨by simp[szB,e,hv],by rw[e];show x.size<=_-(p+_);omega⟩,e]
   have:s.extract (p+(uL x.size).length) (p+(uL x.size).length+x.size)=x:=by
    refine ByteArray.ext (Array.toList_inj.1 ?_);rw[ext_data,ws,<-hx,List.take_left]
   rw[this]
  rw[et];show(x,(p+(uL x.size).length+x.size,0))=(x,(p+(uL x.size++x.data.toList).length,0));rw[List.length_append,hx,Nat.add_assoc]
theorem rLoop_snd{α:Type}{rd:RS->α×RS}{enc:α->List UInt8}{V:α->Prop}(h:Cod s rd enc V):∀(n p p' : Nat) (acc ys:List α),rLoop rd n (p,0) acc=(ys,(p',0))->∃xs,ys=acc++xs/\xs.length=n/\(∀x∈xs,V x)/\dr s p=xs.flatMap enc++dr s p'/\p'=p+(xs.flatMap enc).length
 |0,p,p',acc,ys,e=>by
  rw[rLoop]at e
  injection e with e1 e2
  injection e2 with e2 _
  subst e1 e2;exact⟨[],by simp,rfl,fun _ q=>(nomatch q),by simp,by simp⟩
 |n+1,p,p',acc,ys,e=>by
  rw[rLoop]at e;obtain⟨⟨p1,e1⟩,hp⟩:∃q,q=(rd (p,0)).2:=⟨_,rfl⟩;rw[<-hp]at e;split at e
  .rename_i c;have c:e1=0:=c;subst c;obtain⟨a1,a2,a3⟩:=h.snd p p1 hp.symm;obtain⟨xs,b1,b2,b3,b4,b5⟩:=rLoop_snd h n p1 p' _ ys e;refine⟨(rd (p,0)).1::xs,by rw[b1];simp,by simp[b2],fun x q=>?_,?_,?_⟩
   .rcases List.mem_cons.1 q with rfl | q
    .exact a1
    .exact b3 x q
   .rw[List.flatMap_cons,List.append_assoc,<-b4];exact a2
   .rw[List.flatMap_cons,List.length_append];omega
  .rename_i c
   injection e with _ e2
   injection e2 with _ e2
   exact absurd e2 c
theorem rLoop_cpl{α:Type}{rd:RS->α×RS}{enc:α->List UInt8}{V:α->Prop}(h:Cod s rd enc V):∀(xs:List α) (p:Nat) (r:List UInt8) (acc:List α),(∀x∈xs,V x)->dr s p=xs.flatMap enc++r->rLoop rd xs.length (p,0) acc=(acc++xs,(p+(xs.flatMap enc).length,0))
 | [],p,r,acc,_,_=>by simp[rLoop]
 |x::xs,p,r,acc,hv,e=>by
  rw[List.flatMap_cons,List.append_assoc]at e;have a:=h.cpl p x _ (hv x (.head _)) e;have b:=rLoop_cpl h xs (p+(enc x).length) r (acc++[x]) (fun y q=>hv y (.tail _ q)) (dr_app e);rw[List.length_cons,rLoop,a];show(if(0:Int)=0 then rLoop rd xs.length (p+(enc x).length,0) (acc++[x])else _)=_;rw[if_pos rfl,b,List.flatMap_cons,List.length_append,<-Nat.add_assoc];simp
theorem cod_list{α:Type}{rd:ByteArray->Nat->RS->α×RS}{most:Nat}{enc:α->List UInt8}{V:α->Prop}(h:Cod s (rd s most) enc V):Cod s (rList rd s most) (liL enc) (fun xs=>(∀x∈xs,V x)/\xs.length<9223372036854775808/\xs.length<=most) where
 err:=fun q hq=>by
  unfold rList rCnt;rw[tk_err hq];rfl
 snd:=fun p p' hq=>by
  unfold rList at hq⊢;obtain⟨⟨p1,e1⟩,hp⟩:∃q,q=(rCnt s most (p,0)).2:=⟨_,rfl⟩;rw[<-hp]at hq⊢;have he:e1=0:=Classical.byContradiction fun he=>by
   have:∀n acc,(rLoop (rd s most) n (p1,e1) acc).2.2≠0:=fun n=>by
    induction n with
    |zero=>intro acc;exact he
    |succ n ih=>
     intro acc;have e:=h.err (p1,e1) he;rw[rLoop,e];rw[if_neg he];exact he
   exact this _ _ (by rw[hq])
  subst he;obtain⟨a1,a2,a3⟩:=(cod_cnt most).snd p p1 hp.symm;obtain⟨xs,b1,b2,b3,b4,b5⟩:=rLoop_snd h _ p1 p' [] (rLoop (rd s most) (rCnt s most (p,0)).1 (p1,0) []).1 (by rw[<-hq]);rw[b1,List.nil_append];unfold liL;rw[b2];refine⟨⟨b3,a1⟩,?_,?_⟩
  .rw[List.append_assoc,<-b4];exact a2
  .rw[List.length_append];omega
 cpl:=fun p xs r hv hq=>by
  unfold liL at hq⊢;rw[List.append_assoc]at hq;have a:=(cod_cnt most).cpl p xs.length _ hv.2 hq;have b:=rLoop_cpl h xs (p+(uL xs.length).length) r [] hv.1 (dr_app hq);unfold rList;rw[a];show rLoop (rd s most) xs.length (p+(uL xs.length).length,0) []=_;rw[b,List.length_append,Nat.add_assoc,List.nil_append]
end Go.Proofs
namespace Go.Proofs
open Go.Eng
variable {s:ByteArray}
abbrev TOk(x:ByteArray):Prop:=x.size<9223372036854775808
theorem iok_nat{n:Nat}(h:n<9223372036854775808):IOk (n:Int):=⟨Int.natCast_nonneg n,by omega⟩
theorem nsL2(a b:Nat):nsL [a,b]=uL a++uL b:=by simp[nsL]
theorem nsL4(a b c d:Nat):nsL [a,b,c,d]=uL a++(uL b++(uL c++uL d)):=by simp[nsL]
theorem IOk.cast{n:Int}(h:IOk n):((n.toNat:Nat):Int)=n:=Int.toNat_of_nonneg h.1
theorem cod_sp(most:Nat):Cod s (rdSp s most) spL (fun x=>IOk x.1/\IOk x.2):=
 (cod_num.seq cod_num).map (fun x=>((x.1:Int),(x.2:Int))) (fun y=>(y.1.toNat,y.2.toNat)) spL _ (fun _ hx=>⟨⟨iok_nat hx.1,iok_nat hx.2⟩,nsL2 _ _⟩) (fun _ hy=>⟨⟨hy.1.nat,hy.2.nat⟩,Prod.ext hy.1.cast hy.2.cast,nsL2 _ _⟩)
structure LoW(e:Lo):Prop where
 a:e.ver.a=0
 p:TOk e.path
 b:IOk e.ver.b
 c:IOk e.ver.c
 d:TOk e.arch
 i:TOk e.ifc
theorem cod_lo(most:Nat):Cod s (rdLo s most) loL LoW:=
 (cod_txt.seq (cod_num.seq (cod_num.seq (cod_txt.seq cod_txt)))).map (fun x=>(⟨x.1,⟨0,(x.2.1:Int),(x.2.2.1:Int)⟩,x.2.2.2.1,x.2.2.2.2⟩:Lo)) (fun y=>(y.path,y.ver.b.toNat,y.ver.c.toNat,y.arch,y.ifc)) loL _
  (fun x hx=>⟨⟨rfl,hx.1,iok_nat hx.2.1,iok_nat hx.2.2.1,hx.2.2.2.1,hx.2.2.2.2⟩,by simp only[loL,nsL2,Int.toNat_natCast,List.append_assoc]⟩)
  (fun y hy=>⟨⟨hy.p,hy.b.nat,hy.c.nat,hy.d,hy.i⟩,by
   obtain⟨p,⟨a,b,c⟩,d,i⟩:=y;have ha:a=0:=hy.a;have hb:((b.toNat:Nat):Int)=b:=hy.b.cast;have hc:((c.toNat:Nat):Int)=c:=hy.c.cast;show(⟨p,⟨0,((b.toNat:Nat):Int),((c.toNat:Nat):Int)⟩,d,i⟩:Lo)=_;rw[hb,hc,ha],by simp only[loL,nsL2,List.append_assoc]⟩)
structure NfW(i:Nf):Prop where
 k:IOk i.kind
 p:TOk i.path
 a:IOk i.place
 b:IOk i.number
 c:IOk i.left
 d:IOk i.right
theorem cod_nf(most:Nat):Cod s (rdNf s most) nfL NfW:=
 (cod_num.seq (cod_txt.seq (cod_num.seq (cod_num.seq (cod_num.seq cod_num))))).map (fun x=>(⟨(x.1:Int),x.2.1,(x.2.2.1:Int),(x.2.2.2.1:Int),(x.2.2.2.2.1:Int),(x.2.2.2.2.2:Int)⟩:Nf)) (fun y=>(y.kind.toNat,y.path,y.place.toNat,y.number.toNat,y.left.toNat,y.right.toNat)) nfL _
  (fun x hx=>⟨⟨iok_nat hx.1,hx.2.1,iok_nat hx.2.2.1,iok_nat hx.2.2.2.1,iok_nat hx.2.2.2.2.1,iok_nat hx.2.2.2.2.2⟩,by simp only[nfL,nsL4,Int.toNat_natCast,List.append_assoc]⟩)
  (fun y hy=>⟨⟨hy.k.nat,hy.p,hy.a.nat,hy.b.nat,hy.c.nat,hy.d.nat⟩,by
   obtain⟨k,p,a,b,c,d⟩:=y;have hk:((k.toNat:Nat):Int)=k:=hy.k.cast;have ha:((a.toNat:Nat):Int)=a:=hy.a.cast;have hb:((b.toNat:Nat):Int)=b:=hy.b.cast;have hc:((c.toNat:Nat):Int)=c:=hy.c.cast;have hd:((d.toNat:Nat):Int)=d:=hy.d.cast;show(⟨((k.toNat:Nat):Int),p,((a.toNat:Nat):Int),((b.toNat:Nat):Int),((c.toNat:Nat):Int),((d.toNat:Nat):Int)⟩:Nf)=_;rw[hk,ha,hb,hc,hd],by simp only[nfL,nsL4,List.append_assoc]⟩)
structure SkW(i:Sk):Prop where
 p:TOk i.path
 a:IOk i.place
 b:IOk i.inf
theorem cod_sk(most:Nat):Cod s (rdSk s most) skL SkW:=
 (cod_txt.seq (cod_num.seq cod_num)).map (fun x=>(⟨x.1,(x.2.1:Int),(x.2.2:Int)⟩:Sk)) (fun y=>(y.path,y.place.toNat,y.inf.toNat)) skL _
  (fun x hx=>⟨⟨hx.1,iok_nat hx.2.1,iok_nat hx.2.2⟩,by simp only[skL,nsL2,Int.toNat_natCast]⟩)
  (fun y hy=>⟨⟨hy.p,hy.a.nat,hy.b.nat⟩,by
   obtain⟨p,a,b⟩:=y;have ha:((a.toNat:Nat):Int)=a:=hy.a.cast;have hb:((b.toNat:Nat):Int)=b:=hy.b.cast;show(⟨p,((a.toNat:Nat):Int),((b.toNat:Nat):Int)⟩:Sk)=_;rw[ha,hb],by simp only[skL,nsL2]⟩)
abbrev LW{α:Type}(V:α->Prop)(most:Nat)(xs:List α):Prop:=(∀x∈xs,V x)/\xs.length<9223372036854775808/\xs.length<=most
structure RqW(most:Nat)(q:Rq):Prop where
 p:TOk q.path
 s:LW (fun x:Int×Int=>IOk x.1/\IOk x.2) most q.set
theorem cod_rq(most:Nat):Cod s (rdRq s most) rqL (RqW most):=
 (cod_txt.seq (cod_list (cod_sp most))).map (fun x=>(⟨x.1,x.2⟩:Rq)) (fun y=>(y.path,y.set)) rqL _ (fun _ hx=>⟨⟨hx.1,hx.2⟩,rfl⟩) (fun _ hy=>⟨⟨hy.p,hy.s⟩,rfl,rfl⟩)
end Go.Proofs
namespace Go.Proofs
open Go.Shelf Go.RowKit Go.Lib Go.Sort Go.Eng
theorem rTxt_size(s:ByteArray)(q:RS):(rTxt s q).1.size<=s.size:=by
 unfold rTxt tk;split
 .cases (txA s q.1).2.2 with
  |false=>exact Nat.zero_le _
  |true=>
   show(txA s q.1).1.size<=_;unfold txA;split
   .show(s.extract _ _).size<=_;rw[ByteArray.size_extract];omega
   .exact Nat.zero_le _
 .exact Nat.zero_le _
theorem rLoop_all{α:Type}{one:RS->α×RS}{P:α->Prop}(h:∀q,P (one q).1):∀(n:Nat) (q:RS) (acc:List α),(∀x∈acc,P x)->∀x∈(rLoop one n q acc).1,P x
 |0,_,_,ha=>ha
 |n+1,q,acc,ha=>by
  have hx:∀x∈acc++[(one q).1],P x:=fun x hx=>by
   rcases List.mem_append.1 hx with k | k
   .exact ha x k
   .rw[List.mem_singleton.1 k];exact h q
  rw[rLoop];split
  .exact rLoop_all h n _ _ hx
  .exact hx
theorem rLoop_len{α:Type}{one:RS->α×RS}:∀(n:Nat) (q:RS) (acc:List α),(rLoop one n q acc).1.length<=acc.length+n
 |0,_,_=>Nat.le_refl _
 |n+1,q,acc=>by
  rw[rLoop];split
  .have:=rLoop_len (one:=one) n (one q).2 (acc++[(one q).1])
   rw[List.length_append,List.length_singleton]at this;omega
  .show(acc++[(one q).1]).length<=_;rw[List.length_append,List.length_singleton];omega
theorem rList_all{α:Type}{rd:ByteArray->Nat->RS->α×RS}{s:ByteArray}{most:Nat}{P:α->Prop}(h:∀q,P (rd s most q).1)(q:RS):∀x∈(rList rd s most q).1,P x:=rLoop_all h _ _ _ (fun _ k=>nomatch k)
theorem rList_len{α:Type}{rd:ByteArray->Nat->RS->α×RS}{s:ByteArray}{most:Nat}(q:RS):(rList rd s most q).1.length<=most:=by
 have h1:=rLoop_len (one:=rd s most) (rCnt s most q).1 (rCnt s most q).2 [];have h2:=rCnt_le (s:=s) (most:=most) (q:=q);unfold rList;simp only[List.length_nil]at h1;omega
theorem dec_hp(s:ByteArray)(hs:s.size<=1000000):∀e∈(rdS s).1.ents,Fx e.path:=rList_all (P:=fun e:Lo=>Fx e.path) (fun q=>by have:=rTxt_size s q;show(rTxt s q).1.size<=_;omega) _
theorem dec_hq(s:ByteArray)(hs:s.size<=1000000):∀e∈(rdS s).1.roots,Jz e:=rList_all (P:=fun e:Rq=>Jz e) (fun q=>by
 have h1:=rTxt_size s q;have h2:=rList_len (rd:=rdSp) (s:=s) (most:=s.size) (rTxt s q).2;exact⟨by show(rList rdSp s s.size (rTxt s q).2).1.length<=_;omega,by show(rTxt s q).1.size<=_;omega⟩) _
theorem dec_form(s:ByteArray)(hs:s.size<=1000000):PC 48 [.agg (BH (majL (rdS s).1))] (vb (DT (majL (rdS s).1))):=
 Qu _ (dec_hq s hs) (fun e he=>by
  obtain⟨x,hx,rfl⟩:=List.mem_map.1 he;exact dec_hp s hs x hx) (by rw[List.length_map];exact Nat.le_trans (rList_len _) hs) (Nat.le_trans (rList_len _) hs) (Nat.le_trans (rList_len _) hs)
theorem y_decode(s:ByteArray)(hs:s.size<=1000000):PC 28 [vs s] (.tup [.agg (BH (decL s).1),vi (decL s).2]):=by
 refine⟨Py Tryz.func28 aa3 rfl,fun g w us hz hv hI=>?_⟩;have hz:us.size=1:=hz;have h0:=hv 0 _ (us[0]' B0) rfl (Array.getElem?_eq_getElem B0);have hu:us=#[.string s]:=by
  refine Array.ext hz fun i i1 i2=>?_;obtain rfl:i=0:=B0
  exact h0.v_eq
 subst hu;refine(yu_decode s hs (dec_hp s hs) (fun _ _=>dec_form s hs) w hI.glob.1.2).mono ?_
 rintro e w' ⟨v0,v1,v2,v3,S,rfl,q,hS,hr⟩
 have hK:D2 g w ⟨g.ρ,g.ln,g.tk,g.own,fun b o=>g.S b o\/S b o⟩ w':=fun b o hb=>by
  have BW:=hI.slt b o hb;have e:=q.block b BW;exact⟨.inl hb,by simp only[World.cell?,e],fun _ _ z=>e.trans z⟩
 refine⟨_,_,Ad,⟨g.ρ,g.ln,g.tk,g.own,fun b o=>g.S b o\/S b o⟩,rfl,⟨rfl,rfl⟩,.tup _ _ _ rfl fun i av x e1 e2=>?_,⟨q.os,q.tape,q.output,q.size,fun b hb _=>q.block b hb,fun b o hs=>hs.elim (fun z=>Nat.lt_of_lt_of_le (hI.slt b o z) q.size) (fun z=>(hS b o z).2),fun _=>trivial,fun _ _ _ h=>h.elim,fun _ _ h=>h.elim,fun b o hs=>hs.elim .inl (fun z=>.inr (.inl (hS b o z).1)),hI.glob.keep hK⟩,⟨fun i z=>(z rfl).elim,fun _ h=>h,hK⟩⟩
 match i with
 |0=>
  cases e1;cases e2
  exact A3.mono (g:=gS S) (w:=w') (g':=⟨g.ρ,g.ln,g.tk,g.own,fun b o=>g.S b o\/S b o⟩) (w':=w') (fun b o z=>⟨Or.inr z,rfl,fun _ _ y=>y⟩) hr (fun _ z=>z.elim) (fun _ z=>z.elim)
 |1=>cases e1;cases e2;exact .v _ _
 |_+2=>simp at e1
end Go.Proofs
namespace Go.Proofs
open Go.Shelf Go.RowKit Go.Lib Go.Sort Go.Eng
theorem nums_at0{W:World}{b C:Nat}{o:Nat->Nat}{ns:List Nat}{vs:Array Value}{T:Nat}(hC:C=W.heap.size)(hv:∀i,i<ns.length->vs[i]?=some (pA b (o i)))(hp:∀i (hi:i<ns.length),W.cell? ⟨b,o i,none⟩=some (.int .i64 (ns[i]:Int))/\ns[i]<9223372036854775808) :
  ∀i (hi:i<ns.length),(W.alloc (.cells vs T)).cell? ⟨C,i,none⟩=some (pA b (o i))/\(W.alloc (.cells vs T)).cell? ⟨b,o i,none⟩=some (.int .i64 (ns[i]:Int))/\ns[i]<9223372036854775808:=by
 intro i hi;subst hC;obtain⟨h1,h2⟩:=hp i hi;refine⟨?_,?_,h2⟩
 .rw[Lib.cell_of_heap (new_heap W _) i];exact hv i hi
 .rw[<-h1];simp only[World.cell?];rw[Below.heap_alloc _ _ _ (Fz h1)]
theorem nums_at{W:World}{b C:Nat}{o:Nat->Nat}{ns:List Nat}{vs:Array Value}{T:Nat}(hC:C=W.heap.size)(hv:∀i,i<ns.length->vs[i]?=some (pA b (o i)))(hp:∀i (hi:i<ns.length),W.cell? ⟨b,o i,none⟩=some (.int .i64 (ns[i]:Int))/\ns[i]<9223372036854775808) :
  ∀i (hi:i<ns.length),(W.alloc (.cells vs T)).drew.cell? ⟨C,i,none⟩=some (pA b (o i))/\(W.alloc (.cells vs T)).drew.cell? ⟨b,o i,none⟩=some (.int .i64 (ns[i]:Int))/\ns[i]<9223372036854775808:=nums_at0 hC hv hp
set_option maxRecDepth 100000 in
set_option maxHeartbeats 4000000 in
theorem yg_span(s:Int×Int)(h1:IOk s.1)(h2:IOk s.2):WC 123 (Ap s) (spL s):=by
 intro g A b off l W h hg hr hs;have hb:=(hg _ _ (rcells hr 0 _ rfl).1);have BW:=h.lt;unfold spL at hs⊢;have p0:∀i (hi:i<[s.1.toNat,s.2.toNat].length),W.cell? ⟨b,off+(0+i),none⟩=some (.int .i64 (([s.1.toNat,s.2.toNat][i]:Nat):Int))/\[s.1.toNat,s.2.toNat][i]<9223372036854775808:=fun i hi=>by
  match i,hi with
  |0,_=>exact⟨rcell_i hr 0 h1 rfl,h1.nat⟩
  |1,_=>exact⟨rcell_i hr 1 h2 rfl,h2.nat⟩
 simp only[List.length_append]at hs
 go_enter Tryz.func123,Tryz.ntmps123
 go_wp2
 go_region_with (go_at_call 124;go_loud (refine(yg_numbers A W.heap.size 2 b (fun i=>off+(0+i)) [s.1.toNat,s.2.toNat] (l) _ ?_ hb.2 ?_ ?_ (by simp only[List.length_append];omega) ?_).mono ?_;exact(h.alloc _).drew;have:=h.lt;omega;exact nums_at rfl (fun i hi=>(by match i,hi with | 0,_=>rfl | 1,_=>rfl)) (p0);exact Nat.le_of_ble_eq_true rfl;rintro e w1 ⟨rfl,LG,c1⟩))
 all_goals exact bodyPost_end (results_none rfl _ _ _) rfl ⟨rfl,by simpa only[List.append_assoc]using LG,c1.undrew.alloc⟩
set_option maxRecDepth 100000 in
set_option maxHeartbeats 4000000 in
theorem yg_ent(x:Lo)(k1:IOk x.ver.b)(k2:IOk x.ver.c):WC 126 (Cq x) (loL x):=by
 intro g A b off l W h hg hr hs;have hb:=(hg _ _ (rcells hr 0 _ rfl).1);have BW:=h.lt;unfold loL at hs⊢;have tn:=yg_tn ⟨A,0,none⟩;have tm:=yg_tm ⟨A,0,none⟩;have p0:=rcell_v hr 0 _ rfl;have p1:∀i (hi:i<[x.ver.b.toNat,x.ver.c.toNat].length),W.cell? ⟨b,off+(2+i),none⟩=some (.int .i64 (([x.ver.b.toNat,x.ver.c.toNat][i]:Nat):Int))/\[x.ver.b.toNat,x.ver.c.toNat][i]<9223372036854775808:=fun i hi=>by
  match i,hi with
  |0,_=>exact⟨rcell_i hr 2 k1 rfl,k1.nat⟩
  |1,_=>exact⟨rcell_i hr 3 k2 rfl,k2.nat⟩
 have p2:=rcell_v hr 4 _ rfl;have p3:=rcell_v hr 5 _ rfl;simp only[List.length_append]at hs
 go_enter Tryz.func126,Tryz.ntmps126
 go_wp2
 go_region_with (go_at_call 436;go_loud (refine(yg_text A b (off+0) x.path (l) _ ?_ ?_ (by simp only[List.length_append];omega)).mono ?_;exact h.drew;exact p0;rintro e w1 ⟨rfl,LG,c1⟩))
 all_goals (have d1:WrB W.heap.size A W w1:=c1.undrew)
 all_goals (have h1:=h.step LG d1)
 all_goals (
  go_wp2
  go_region_with (go_at_call 124;go_loud (refine(yg_numbers A w1.heap.size 2 b (fun i=>off+(2+i)) [x.ver.b.toNat,x.ver.c.toNat] (l++tL x.path) _ ?_ hb.2 ?_ ?_ (by simp only[List.length_append];omega) ?_).mono ?_;exact(h1.alloc _).drew;have:=h1.lt;omega;exact nums_at rfl (fun i hi=>(by match i,hi with | 0,_=>rfl | 1,_=>rfl)) (fun i hi=>⟨d1.cell hb.2 (p1 i hi).1,(p1 i hi).2⟩);exact Nat.le_of_ble_eq_true rfl;rintro e w2 ⟨rfl,Ki,c2⟩)))
 all_goals (have d2:WrB W.heap.size A W w2:=d1.trans (c2.undrew.alloc))
 all_goals (have h2:=h.step Ki d2)
 all_goals (
  go_wp2
  go_region_with (go_at_call 436;go_loud (refine(yg_text A b (off+4) x.arch (l++tL x.path++nsL [x.ver.b.toNat,x.ver.c.toNat]) _ ?_ ?_ (by simp only[List.length_append];omega)).mono ?_;exact h2.drew;exact d2.cell hb.2 (p2);rintro e w3 ⟨rfl,hA3,c3⟩)))
 all_goals (have d3:WrB W.heap.size A W w3:=d2.trans (c3.undrew))
 all_goals (have h3:=h.step hA3 d3)
 all_goals (
  go_wp2
  go_region_with (go_at_call 436;go_loud (refine(yg_text A b (off+5) x.ifc (l++tL x.path++nsL [x.ver.b.toNat,x.ver.c.toNat]++tL x.arch) _ ?_ ?_ (by simp only[List.length_append];omega)).mono ?_;exact h3.drew;exact d3.cell hb.2 (p3);rintro e w4 ⟨rfl,hA4,c4⟩)))
 all_goals exact bodyPost_end (results_none rfl _ _ _) rfl ⟨rfl,by simpa only[List.append_assoc]using hA4,d3.trans (c4.undrew)⟩
set_option maxRecDepth 100000 in
set_option maxHeartbeats 4000000 in
theorem yg_inf(x:Nf)(k0:IOk x.kind)(k1:IOk x.place)(k2:IOk x.number)(k3:IOk x.left)(k4:IOk x.right):WC 128 (AR x) (nfL x):=by
 intro g A b off l W h hg hr hs;have hb:=(hg _ _ (rcells hr 0 _ rfl).1);have BW:=h.lt;unfold nfL at hs⊢;have tn:=yg_tn ⟨A,0,none⟩;have tm:=yg_tm ⟨A,0,none⟩;have nn:=yg_nn ⟨A,0,none⟩;have nm:=yg_nm ⟨A,0,none⟩;have p0:=rcell_i hr 0 k0 rfl;have p1:=rcell_v hr 1 _ rfl;have p2:∀i (hi:i<[x.place.toNat,x.number.toNat,x.left.toNat,x.right.toNat].length),W.cell? ⟨b,off+(2+i),none⟩=some (.int .i64 (([x.place.toNat,x.number.toNat,x.left.toNat,x.right.toNat][i]:Nat):Int))/\[x.place.toNat,x.number.toNat,x.left.toNat,x.right.toNat][i]<9223372036854775808:=fun i hi=>by
  match i,hi with
  |0,_=>exact⟨rcell_i hr 2 k1 rfl,k1.nat⟩
  |1,_=>exact⟨rcell_i hr 3 k2 rfl,k2.nat⟩
  |2,_=>exact⟨rcell_i hr 4 k3 rfl,k3.nat⟩
  |3,_=>exact⟨rcell_i hr 5 k4 rfl,k4.nat⟩
 simp only[List.length_append]at hs
 go_enter Tryz.func128,Tryz.ntmps128
 go_wp2
 go_region_with (go_at_call 435;go_loud (refine(yg_number A b (off+0) x.kind.toNat (l) _ ?_ ?_ k0.nat (by simp only[List.length_append];omega)).mono ?_;exact h.drew;exact p0;rintro e w1 ⟨rfl,LG,c1⟩))
 all_goals (have d1:WrB W.heap.size A W w1:=c1.undrew)
 all_goals (have h1:=h.step LG d1)
 all_goals (
  go_wp2
  go_region_with (go_at_call 436;go_loud (refine(yg_text A b (off+1) x.path (l++uL x.kind.toNat) _ ?_ ?_ (by simp only[List.length_append];omega)).mono ?_;exact h1.drew;exact d1.cell hb.2 (p1);rintro e w2 ⟨rfl,Ki,c2⟩)))
 all_goals (have d2:WrB W.heap.size A W w2:=d1.trans (c2.undrew))
 all_goals (have h2:=h.step Ki d2)
 all_goals (
  go_wp2
  go_region_with (go_at_call 124;go_loud (refine(yg_numbers A w2.heap.size 4 b (fun i=>off+(2+i)) [x.place.toNat,x.number.toNat,x.left.toNat,x.right.toNat] (l++uL x.kind.toNat++tL x.path) _ ?_ hb.2 ?_ ?_ (by simp only[List.length_append];omega) ?_).mono ?_;exact(h2.alloc _).drew;have:=h2.lt;omega;exact nums_at rfl (fun i hi=>(by match i,hi with | 0,_=>rfl | 1,_=>rfl | 2,_=>rfl | 3,_=>rfl)) (fun i hi=>⟨d2.cell hb.2 (p2 i hi).1,(p2 i hi).2⟩);exact Nat.le_of_ble_eq_true rfl;rintro e w3 ⟨rfl,hA3,c3⟩)))
 all_goals exact bodyPost_end (results_none rfl _ _ _) rfl ⟨rfl,by simpa only[List.append_assoc]using hA3,d2.trans (c3.undrew.alloc)⟩
set_option maxRecDepth 100000 in
set_option maxHeartbeats 4000000 in
theorem yg_skip(x:Sk)(k1:IOk x.place)(k2:IOk x.inf):WC 130 (AJ x) (skL x):=by
 intro g A b off l W h hg hr hs;have hb:=(hg _ _ (rcells hr 0 _ rfl).1);have BW:=h.lt;unfold skL at hs⊢;have tn:=yg_tn ⟨A,0,none⟩;have tm:=yg_tm ⟨A,0,none⟩;have p0:=rcell_v hr 0 _ rfl;have p1:∀i (hi:i<[x.place.toNat,x.inf.toNat].length),W.cell? ⟨b,off+(1+i),none⟩=some (.int .i64 (([x.place.toNat,x.inf.toNat][i]:Nat):Int))/\[x.place.toNat,x.inf.toNat][i]<9223372036854775808:=fun i hi=>by
  match i,hi with
  |0,_=>exact⟨rcell_i hr 1 k1 rfl,k1.nat⟩
  |1,_=>exact⟨rcell_i hr 2 k2 rfl,k2.nat⟩
 simp only[List.length_append]at hs
 go_enter Tryz.func130,Tryz.ntmps130
 go_wp2
 go_region_with (go_at_call 436;go_loud (refine(yg_text A b (off+0) x.path (l) _ ?_ ?_ (by simp only[List.length_append];omega)).mono ?_;exact h.drew;exact p0;rintro e w1 ⟨rfl,LG,c1⟩))
 all_goals (have d1:WrB W.heap.size A W w1:=c1.undrew)
 all_goals (have h1:=h.step LG d1)
 all_goals (
  go_wp2
  go_region_with (go_at_call 124;go_loud (refine(yg_numbers A w1.heap.size 2 b (fun i=>off+(1+i)) [x.place.toNat,x.inf.toNat] (l++tL x.path) _ ?_ hb.2 ?_ ?_ (by simp only[List.length_append];omega) ?_).mono ?_;exact(h1.alloc _).drew;have:=h1.lt;omega;exact nums_at rfl (fun i hi=>(by match i,hi with | 0,_=>rfl | 1,_=>rfl)) (fun i hi=>⟨d1.cell hb.2 (p1 i hi).1,(p1 i hi).2⟩);exact Nat.le_of_ble_eq_true rfl;rintro e w2 ⟨rfl,Ki,c2⟩)))
 all_goals exact bodyPost_end (results_none rfl _ _ _) rfl ⟨rfl,by simpa only[List.append_assoc]using Ki,d1.trans (c2.undrew.alloc)⟩
end Go.Proofs
