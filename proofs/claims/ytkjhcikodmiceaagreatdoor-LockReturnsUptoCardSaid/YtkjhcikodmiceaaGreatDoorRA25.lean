/- Lemmas 25. -/
import Derived.Test.YtkjhcikodmiceaaGreatDoorRA24
import Derived.Deep.RegionLaw
import Derived.Maps.AppendAt
namespace Go.Proofs
open Go.Shelf Go.RowKit Go.Lib Go.Sort Go.Eng
theorem step_append_own{P:Program}{ops:Array Oper}{o:Oper}{a:Act}{w:World}{K:Act->World->Prop}{Q:Exit->Act->World->Prop}{E:Prop}
  (hg:o.guard=none) (s x:Operand) (t:TypeId) (hop:o.op=Op.call { callee:=Callee.builtin Builtin.append,args:=#[s,x],argTypes:=#[t,t] })
  (base:Nat) (e:TypeId) (i:TypeInfo) (z:Value) (size bytes:Nat) (ht:P.underlying t=some (.slice e)) (hi:P.info? e=some i) (hz:i.zero=some z)
  (uc:i.size=size) (hby:i.bytes=bytes) (hzs:z.cells.size=size) (EQ:0<size)
  (v:Value) (n:Nat) (xs:List Value) (hs:a.eval s=v) (PF:w.ownsRow base e size v n xs)
  (ad:Addr) (m c:Nat) (news:List Value) (hx:a.eval x=.slice (some ad) m c) (hl:news.length=m*size) (HE:∀j u,news[j]?=some u->w.cell? (ad.add j)=some u) (h1:∀u∈news,u.oneCell'=true)
  (h63:n+m<=maxLen) (ql:(n+m)*bytes<=140737488355328) (tq:base<=w.heap.size)
  (hK:∀v' w',w'.ownsRow base e size v' (n+m) (xs++news)->w.grownBy w' v.ownBlock->(v'.ownBlock=v.ownBlock\/v'.ownBlock=some w.heap.size)->(∃q k c,v'=.slice q k c)->K (a.put o.dst v') w') :
  if Region.wanted o (yielded ops a.tmps)=true then Oper.wp P o a w K Q else E:=by
 have hw:Region.wanted o (yielded ops a.tmps)=true:=by simp[Region.wanted,hg]
 rw[if_pos hw];obtain⟨v',w',hr,h2,h3,h4,h5⟩:=run_append_own_at (P:=P) w base t o.type e i z size bytes ht hi hz uc hby hzs EQ v n xs PF ad m c news hl HE h1 h63 ql tq;unfold Oper.wp execOp;simp only[hop,resolve,invoke,builtin,Sem.run_bind,Sem.run_pure,Result.andThen_ok,List.map_toArray,List.map_cons,List.map_nil,hs,hx,hr];exact hK v' w' h2 h3 h5 (by rcases h2.2 with ⟨e,_⟩ | ⟨g,cap,Dn,e,_⟩<;>exact⟨_,_,_,e⟩)
def rLoop{α:Type}(one:RS->α×RS):Nat->RS->List α->List α×RS
 |0,q,acc=>(acc,q)
 |n+1,q,acc=>if(one q).2.2=0 then rLoop one n (one q).2 (acc++[(one q).1])else(acc++[(one q).1],(one q).2)
def rList{α:Type}(rd:ByteArray->Nat->RS->α×RS)(s:ByteArray)(most:Nat)(q:RS):List α×RS:=rLoop (rd s most) (rCnt s most q).1 (rCnt s most q).2 []
structure LRow{α:Type}(B E sz:Nat)(enc:α->List AV)(S:Nat->Nat->Prop)(w:World)(v:Value)(xs:List α)(us:List (List Value)):Prop where
 own:w.ownsRow B E sz v xs.length us.flatten
 len:us.length=xs.length
 fresh:∀b o,S b o->B<=b/\b<w.heap.size/\some b≠v.ownBlock
 row:∀(i:Nat) (x:α) (u:List Value),xs[i]?=some x->us[i]?=some u->u.length=sz/\∀(j:Nat) (av:AV) (y:Value),(enc x)[j]?=some av->u[j]?=some y->A3 (gS S) w DR av y/\y.oneCell'=true
def RF{α:Type}(f c E sz:Nat)(enc:α->List AV)(rd:ByteArray->Nat->RS->α×RS):Prop:=
 ∀(R D b off T most:Nat) (s:ByteArray) (q:RS) (W:World) (cs:Array Value),RW R D s most q W->b≠R->b≠D->b≠0->W.heap[b]?=some (.cells cs T (0,0))->cs[off]?=some (.slice none 0 0)->most<=1000000 ->
 Calls Tryz.prog f #[ifR D,pA b off,.func (.func c) #[] #[]] W fun x w'=>x=.returned (.tuple #[])/\∃v S us,RPost2 R b s (rList rd s most q).2 (cs.setIfInBounds off v) T W w'/\LRow W.heap.size E sz enc S w' v (rList rd s most q).1 us
theorem len2{vs:List Value}(h:vs.length=2):∃a b,vs=[a,b]:=by
 match vs,h with
 | [a,b],_=>exact⟨a,b,rfl⟩
theorem row_keep{B E sz n:Nat}{v:Value}{xs:List Value}{w w' : World}(h:w.ownsRow B E sz v n xs)(hb:∀k,B<=k->k<w.heap.size->some k=v.ownBlock->w'.heap[k]?=w.heap[k]?):w'.ownsRow B E sz v n xs:=by
 refine⟨h.1,h.2.imp id fun⟨g,cap,Dn,h1,h2,h3,h4⟩=>⟨g,cap,Dn,h1,h2,?_,h4⟩⟩;rw[hb g h2 (Array.getElem?_eq_some_iff.1 h3).1 (by rw[h1];rfl)];exact h3
theorem row_own{B E sz n:Nat}{v:Value}{xs:List Value}{w:World}(h:w.ownsRow B E sz v n xs){g:Nat}(hg:some g=v.ownBlock):B<=g/\g<w.heap.size:=by
 rcases h.2 with ⟨e,_⟩ | ⟨g',cap,Dn,e,h1,h2,_⟩
 .rw[e]at hg;cases hg
 .rw[e]at hg;cases hg;exact⟨h1,(Array.getElem?_eq_some_iff.1 h2).1⟩
theorem LRow.push{α:Type}{B E sz:Nat}{enc:α->List AV}{S S2:Nat->Nat->Prop}{wr wa w2 w4:World}{v v' : Value}{xs:List α}{us:List (List Value)}{x:α}{u:List Value}
  (h:LRow B E sz enc S wr v xs us) (za:wr.heap.size<=wa.heap.size) (he:ElemR S2 wa w2 (enc x) u) (EQ:u.length=sz) (k2:∀k,B<=k->k<wr.heap.size->w2.heap[k]?=wr.heap[k]?) (z2:wa.heap.size<=w2.heap.size)
  (k4:∀k,B<=k->k<w2.heap.size->some k≠v.ownBlock->w4.heap[k]?=w2.heap[k]?) (PF:w4.ownsRow B E sz v' (xs.length+1) (us.flatten++u)) (Pl:∀g,some g=v'.ownBlock->some g=v.ownBlock\/w2.heap.size<=g)
  (z4:w2.heap.size<=w4.heap.size) (hBw:B<=wr.heap.size):LRow B E sz enc (fun b o=>S b o\/S2 b o) w4 v' (xs++[x]) (us++[u]):=by
 have hS:∀b o,S b o->w4.heap[b]?=wr.heap[b]?:=fun b o q=>
  have f:=h.fresh b o q
  (k4 b f.1 B0 f.2.2).trans (k2 b f.1 f.2.1)
 have hv:∀g,some g=v.ownBlock->g<wr.heap.size:=fun g q=>(row_own h.own q).2;have vY:∀b o,S2 b o->w4.heap[b]?=w2.heap[b]?:=fun b o q=>
  have f:=he.fresh b o q
  k4 b B0 f.2 (fun e=>by have:=hv b e;omega)
 refine⟨?_,by simp[h.len],fun b o q=>?_,fun i y vw e1 e2=>?_⟩
 .rw[List.length_append,List.flatten_append];simpa using PF
 .rcases q with q | q
  .have f:=h.fresh b o q;exact⟨f.1,by omega,fun e=>(Pl b e).elim f.2.2 (fun z=>by omega)⟩
  .have f:=he.fresh b o q;exact⟨by omega,by omega,fun e=>(Pl b e).elim (fun z=>by have:=hv b z;omega) (fun z=>by omega)⟩
 .rcases Nat.lt_or_ge i xs.length with hi | hi
  .rw[List.getElem?_append_left hi]at e1;rw[List.getElem?_append_left (by rw[h.len];exact hi)]at e2;obtain⟨r1,r2⟩:=h.row i y vw e1 e2;refine⟨r1,fun j av z a1 a2=>⟨(r2 j av z a1 a2).1.mono (fun b o q=>?_) (fun _ q=>q) (.refl _ _),(r2 j av z a1 a2).2⟩⟩;exact⟨.inl q,by simp only[World.cell?,hS b o q],fun es ck q'=>(hS b o q).trans q'⟩
  .rw[List.getElem?_append_right hi]at e1;rw[List.getElem?_append_right (by rw[h.len];exact hi),h.len]at e2;obtain⟨i',LN⟩:∃i',i-xs.length=i':=⟨_,rfl⟩;rw[LN]at e1 e2
   match i',e1,e2 with
   |0,e1,e2=>
    cases e1;cases e2
    refine⟨EQ,fun j av z a1 a2=>⟨(he.rep j av z a1 a2).1.mono (fun b o q=>?_) (fun _ q=>q) (.refl _ _),(he.rep j av z a1 a2).2⟩⟩;exact⟨.inr q,by simp only[World.cell?,vY b o q],fun es ck q'=>(vY b o q).trans q'⟩
theorem flat_get{us:List (List Value)}{sz:Nat}(h:∀u∈us,u.length=sz):∀(i j:Nat) (u:List Value),us[i]?=some u->j<sz->us.flatten[i*sz+j]?=u[j]?:=by
 induction us with
 |nil=>intro i j u e;simp at e
 |cons a l ih=>
  intro i j u e hj;have ha:=h a (.head _);rw[List.flatten_cons]
  match i,e with
  |0,e=>
   cases e
   rw[Nat.zero_mul,Nat.zero_add,List.getElem?_append_left B0]
  |i+1,e=>
   rw[List.getElem?_append_right (by rw[ha,Nat.succ_mul];omega),ha,show(i+1)*sz+j-sz=i*sz+j by rw[Nat.succ_mul];omega];exact ih (fun u hu=>h u (.tail _ hu)) i j u e hj
theorem LRow.done{α:Type}{B E sz:Nat}{enc:α->List AV}{S:Nat->Nat->Prop}{W w:World}{v:Value}{xs:List α}{us:List (List Value)}(h:LRow B E sz enc S w v xs us)(hB:W.heap.size<=B)(hz:∀x,(enc x).length=sz) :
  ElemR (fun b o=>S b o\/some b=v.ownBlock) W w [sl enc xs] [v]:=by
 refine⟨rfl,fun b o q=>?_,fun j av y e1 e2=>?_⟩
 .rcases q with q | q
  .have f:=h.fresh b o q;exact⟨by omega,f.2.1⟩
  .have f:=row_own h.own q;exact⟨by omega,f.2⟩
 .match j,e1,e2 with
  |0,e1,e2=>
   cases e1;cases e2
   rcases h.own.2 with ⟨e,e0⟩ | ⟨g,cap,Dn,e,h1,h2,h3,h4,h5,h6⟩
   .subst e
    have:xs=[]:=List.eq_nil_of_length_eq_zero e0
    subst this;exact⟨.snil _ _ _,rfl⟩
   .subst e;refine⟨?_,rfl⟩;have hu:∀u∈us,u.length=sz:=fun u hu=>by
     obtain⟨i,hi⟩:=List.mem_iff_getElem?.1 hu;have bP:i<xs.length:=by rw[<-h.len];exact(List.getElem?_eq_some_iff.1 hi).1
     exact(h.row i xs[i] u (List.getElem?_eq_getElem bP) hi).1
    have key:∀(i:Nat) (cs:List AV) (j:Nat) (av:AV),(xs.map enc)[i]?=some cs->cs[j]?=some av->∃y,w.cell? ⟨g,0+i*sz+j,none⟩=some y/\A3 (gS S) w DR av y/\y.oneCell'=true:=fun i cs j av e1 e2=>by
     rw[List.getElem?_map]at e1;obtain⟨x,ex,rfl⟩:=Option.map_eq_some_iff.1 e1;have bP:i<us.length:=by rw[h.len];exact(List.getElem?_eq_some_iff.1 ex).1
     have eu:=List.getElem?_eq_getElem bP;obtain⟨r1,r2⟩:=h.row i x us[i] ex eu;have hj:j<sz:=by rw[<-hz x];exact(List.getElem?_eq_some_iff.1 e2).1
     have ey:=List.getElem?_eq_getElem (l:=us[i]) (i:=j) (by rw[r1];exact hj);obtain⟨r3,r4⟩:=r2 j av _ e2 ey;refine⟨_,?_,r3,r4⟩;rw[Lib.cell_of_heap h2,Nat.zero_add,<-Array.getElem?_toList];have hf:=(flat_get hu i j us[i] eu hj).trans ey;have AdF : i<xs.length:=by rw[<-h.len];exact bP
     have BW:i*sz+j<xs.length*sz:=by
      have:=Nat.mul_le_mul_right sz (show i+1<=xs.length by omega)
      rw[Nat.succ_mul]at this;omega
     rw[<-hf,<-h6,List.getElem?_take_of_lt BW]
    have hm:(xs.map enc).length=xs.length:=List.length_map _;have hk:D2 (gS S) w (gS fun b o=>S b o\/some b=(Value.slice (some ⟨g,0,none⟩) xs.length cap).ownBlock) w:=fun b o q=>⟨.inl q,rfl,fun _ _ z=>z⟩
    have hs:=A3.slice (g:=gS fun b o=>S b o\/some b=(Value.slice (some ⟨g,0,none⟩) xs.length cap).ownBlock) (w:=w) DR (xs.map enc) g 0 sz cap (fun i j=>(w.cell? ⟨g,0+i*sz+j,none⟩).getD undef) (by rw[hm];exact h3)
     (fun i cs q=>by rw[List.getElem?_map]at q;obtain⟨x,ex,rfl⟩:=Option.map_eq_some_iff.1 q;exact hz x)
     (fun i cs j av a1 a2=>by
      obtain⟨y,y1,y2,y3⟩:=key i cs j av a1 a2;rw[y1];exact⟨.inr rfl,rfl,y3⟩)
     (fun i cs j av a1 a2=>by
      obtain⟨y,y1,y2,y3⟩:=key i cs j av a1 a2;rw[y1];exact y2.mono hk (fun _ z=>z) (.refl _ _))
    rw[hm]at hs;exact hs
theorem rCnt_le{s:ByteArray}{most:Nat}{q:RS}:(rCnt s most q).1<=most:=by
 unfold rCnt tk;split
 .cases hu:(ctR s most q.1).2.2 with
  |true=>
   have h2:=(Bool.and_eq_true _ _▸hu:_/\_).2;simpa using h2
  |false=>exact Nat.zero_le _
 .exact Nat.zero_le _
end Go.Proofs
namespace Go.Proofs
open Go.Shelf Go.RowKit Go.Lib Go.Sort Go.Eng
theorem cells_new(w:World)(vs:List Value)(T:Nat):∀j u,vs[j]?=some u->(w.alloc (.cells vs.toArray T)).drew.cell? ((⟨w.heap.size,0,none⟩:Addr).add j)=some u:=fun j u e=>by
 have h:(w.alloc (.cells vs.toArray T)).drew.cell? ⟨w.heap.size,j,none⟩=some u:=(Lib.cell_of_heap (new_heap w (.cells vs.toArray T)) j).trans (by rw[<-Array.getElem?_toList];exact e);unfold Addr.add;split
 .rename_i z;subst z;exact h
 .rw[Nat.zero_add];exact h
theorem rLoop_next{α:Type}{one:RS->α×RS}{n k:Nat}{q:RS}{xs:List α}(h:k<n)(e:(one q).2.2=0):rLoop one (n-k) q xs=rLoop one (n-(k+1)) (one q).2 (xs++[(one q).1]):=by
 rw[show n-k=(n-(k+1))+1 by omega,rLoop,if_pos e]
theorem rLoop_stop{α:Type}{one:RS->α×RS}{n k:Nat}{q:RS}{xs:List α}(h:k<n)(e:(one q).2.2=9):rLoop one (n-k) q xs=(xs++[(one q).1],(one q).2):=by
 rw[show n-k=(n-(k+1))+1 by omega,rLoop,if_neg (by rw[e];decide)]
structure Chain(R b:Nat)(W w2 w4:World)(own:Option Nat):Prop where
 rb:RB R b W w4
 hR:w4.heap[R]?=w2.heap[R]?
 old:∀k,W.heap.size<=k->k<w2.heap.size->some k≠own->w4.heap[k]?=w2.heap[k]?
 z4:w2.heap.size<=w4.heap.size
theorem chain{R b off:Nat}{W wr w2 w3:World}{o o2:Obj}{own:Option Nat}{v:Value}(hw:RB R b W wr)(d2:RB R wr.heap.size (wr.alloc o) w2)(hg:(w2.alloc o2).drew.grownBy w3 own)(CU:∀k,k<W.heap.size->some k≠own)(BW:b<W.heap.size)(hR:R<W.heap.size)(G7:b≠R) :
  Chain R b W w2 (w3.setCell ⟨b,off,none⟩ v) own:=by
 have z1:=hw.size;have z2:=d2.size;have z3:=hg.size;have za:(wr.alloc o).heap.size=wr.heap.size+1:=aa0
 have zb:(w2.alloc o2).drew.heap.size=w2.heap.size+1:=by show(w2.alloc o2).heap.size=_;simp
 have zc:(w3.setCell ⟨b,off,none⟩ v).heap.size=w3.heap.size:=by simp[World.setCell]
 have s3:∀k,k<w2.heap.size->some k≠own->w3.heap[k]?=w2.heap[k]?:=fun k k1 k2=>(hg.block k B0 k2).trans (Below.heap_alloc w2 _ _ k1);have s4:∀k,k≠b->(w3.setCell ⟨b,off,none⟩ v).heap[k]?=w3.heap[k]?:=fun k k1=>Below.heap_setCell _ _ _ _ k1;refine⟨⟨?_,?_,?_,by omega,fun k k1 k2 k3=>?_⟩,?_,fun k k1 k2 k3=>?_,by omega⟩
 .exact hg.os.trans (d2.os.trans hw.os)
 .exact hg.tape.trans (d2.tape.trans hw.tape)
 .exact hg.output.trans (d2.output.trans hw.output)
 .exact(s4 k k3).trans ((s3 k B0 (CU k k1)).trans ((d2.block k B0 k2 B0).trans ((Below.heap_alloc _ _ _ B0).trans (hw.block k k1 k2 k3))))
 .exact(s4 R G7.symm).trans (s3 R B0 (CU R hR))
 .exact(s4 k B0).trans (s3 k k2 k3)
theorem set_twice{w3:World}{b off T:Nat}{cs:Array Value}{v v' : Value}(h:w3.heap[b]?=some (.cells (cs.setIfInBounds off v) T (0,0))):(w3.setCell ⟨b,off,none⟩ v').heap[b]?=some (.cells (cs.setIfInBounds off v') T (0,0)):=by
 show(w3.heap.modify b _)[b]?=_;rw[Array.getElem?_modify,if_pos rfl,h];exact congrArg (fun z=>some (Obj.cells z T (0,0))) aa0
theorem len3{vs:List Value}(h:vs.length=3):∃a b c,vs=[a,b,c]:=by
 match vs,h with
 | [a,b,c],_=>exact⟨a,b,c,rfl⟩
theorem len6{vs:List Value}(h:vs.length=6):∃a b c d e f,vs=[a,b,c,d,e,f]:=by
 match vs,h with
 | [a,b,c,d,e,f],_=>exact⟨a,b,c,d,e,f,rfl⟩
theorem rdSp_ok{s:ByteArray}{most:Nat}{q:RS}(h:QOk s q):QOk s (rdSp s most q).2:=stN_ok h 2
theorem rdLo_ok{s:ByteArray}{most:Nat}{q:RS}(h:QOk s q):QOk s (rdLo s most q).2:=rTxt_ok (rTxt_ok (stN_ok (rTxt_ok h) 2))
theorem rdNf_ok{s:ByteArray}{most:Nat}{q:RS}(h:QOk s q):QOk s (rdNf s most q).2:=stN_ok (rTxt_ok (rNum_ok h)) 4
theorem rdSk_ok{s:ByteArray}{most:Nat}{q:RS}(h:QOk s q):QOk s (rdSk s most q).2:=stN_ok (rTxt_ok h) 2
theorem rLoop_ok{α:Type}{s:ByteArray}{one:RS->α×RS}(h1:∀q,QOk s q->QOk s (one q).2):∀(n:Nat) (q:RS) (xs:List α),QOk s q->QOk s (rLoop one n q xs).2
 |0,_,_,h=>h
 |n+1,q,xs,h=>by
  rw[rLoop];split
  .exact rLoop_ok h1 n _ _ (h1 q h)
  .exact h1 q h
theorem rList_ok{α:Type}{s:ByteArray}{most:Nat}{rd:ByteArray->Nat->RS->α×RS}{q:RS}(h1:∀q,QOk s q->QOk s (rd s most q).2)(h:QOk s q):QOk s (rList rd s most q).2:=rLoop_ok h1 _ _ _ (rCnt_ok h)
def rdRq(s:ByteArray)(most:Nat)(q:RS):Rq×RS:=(⟨(rTxt s q).1,(rList rdSp s most (rTxt s q).2).1⟩,(rList rdSp s most (rTxt s q).2).2)
theorem rdRq_ok{s:ByteArray}{most:Nat}{q:RS}(h:QOk s q):QOk s (rdRq s most q).2:=rList_ok (fun _ k=>rdSp_ok k) (rTxt_ok h)
set_option maxRecDepth 100000 in
set_option maxHeartbeats 4000000 in
theorem yr_list122:RF 122 123 64 2 Ap rdSp:=by
 intro R D b off T most s q W cs h G7 Jd IK hB hz GF;have BW:b<W.heap.size:=(Array.getElem?_eq_some_iff.1 hB).1;have Gn:off<cs.size:=(Array.getElem?_eq_some_iff.1 hz).1;obtain⟨i0,hi,T6,bW,bX⟩:=info_parts (P:=Tryz.prog) (e:=64) (z:=.agg #[zI,zI]) (size:=2) (bytes:=16) aa3;have n1:=yp_cn ⟨D,0,none⟩;have m1:=yp_cm ⟨D,0,none⟩;have ta:=yp_ta ⟨D,0,none⟩;have tb:=yp_tb ⟨D,0,none⟩;have c0:W.drew.cell? ⟨b,off,none⟩=some (.slice none 0 0):=(Lib.cell_of_heap (w:=W.drew) hB off).trans hz;have sP:∀args w,(callFunc 123 args).run Tryz.prog w=.ok (.enter 123 args) w:=enters_of Tryz.func123 aa3 rfl
 go_enter Tryz.func122,Tryz.ntmps122
 go_wp2
 go_region_with (go_at_call 440;(refine(yo_cnt R D most _ s q _ ?_).mono ?_;exact h.drew;rintro x w1 ⟨rfl,hR1,c1⟩))
 all_goals (have d1:WrB W.heap.size R W w1:=c1.undrew)
 all_goals (have V7:=(d1.block b BW G7).trans hB)
 all_goals (have f1:=Lib.frozen_of_heap V7 off)
 all_goals (have g1:w1.cell? ⟨b,off,none⟩=some (.slice none 0 0):=(Lib.cell_of_heap V7 off).trans hz)
 all_goals
  go_wp2
  go_loopw [30] (fun i wr=>∃(k:Nat) (q' : RS) (xs:List (Int×Int)) (v:Value) (S:Nat->Nat->Prop) (us:List (List Value)),i=.int .i64 k/\k<=(rCnt s most q).1/\xs.length=k/\rLoop (rdSp s most) ((rCnt s most q).1-k) q' xs=rList rdSp s most q/\QOk s q'/\wr.heap[R]?=some (rdO s q'.1 q'.2)/\wr.heap[b]?=some (.cells (cs.setIfInBounds off v) T (0,0))/\RB R b W wr/\LRow W.heap.size 64 2 Ap S wr v xs us) (fun i _=>(rCnt s most q).1-(intOf i).toNat)
  case atStart=>exact⟨0,(rCnt s most q).2,[],.slice none 0 0,fun _ _=>False,[],rfl,Nat.zero_le _,rfl,rfl,rCnt_ok h.qok,(Below.heap_setCell _ _ _ _ (show R≠b from G7.symm)).trans hR1,by show(w1.heap.modify b _)[b]?=_;rw[Array.getElem?_modify,if_pos rfl,V7];rfl,⟨d1.os,d1.tape,d1.output,by simp[World.setCell];exact d1.size,fun k k1 k2 k3=>(Below.heap_setCell _ _ _ _ k3).trans (d1.block k k1 k2)⟩,⟨rfl,.inl ⟨rfl,rfl⟩⟩,rfl,fun _ _ e=>e.elim,fun i x u e _=>by simp at e⟩
  case round=>
   obtain⟨k,q',xs,v,S,us,rfl,hk,Wh,hl,LP,XI,MP,hw,DC⟩:=hrel;rcases Nat.lt_or_ge k (rCnt s most q).1 with JE | WT
   .have QN:=h.step XI hw Jd IK LP;have LI:=(Array.getElem?_eq_some_iff.1 MP).1;have ml:=QN.toROk.lt;have mg:=(Array.getElem?_eq_some_iff.1 QN.hD).1;obtain⟨va,vn,vc,rfl⟩:∃q k c,v=.slice q k c:=by rcases DC.own.2 with ⟨e,_⟩ | ⟨g,cap,Dn,e,_⟩<;>exact⟨_,_,_,e⟩
    rcases(rdSp_ok (most:=most) LP).2 with hE | hE
    .go_wp2_with (go_at_call 123;(refine(yq_span R D wr.heap.size 0 64 most s q' _ #[zI,zI] (QN.alloc _) B0 B0 (by have:=BW;omega) (new_heap _ _) (fun j z e=>by rw[Nat.zero_add,<-Array.getElem?_toList];exact e) GF).mono ?_;rintro x w2 ⟨rfl,vs,S2,⟨hR2,hX2,d2⟩,he⟩;obtain⟨u0,u1,rfl⟩:=len2 he.len;have HB:w2.heap[wr.heap.size]?=some (.cells #[u0,u1] 64 (0,0)):=hX2;have NC:=(d2.block b (by simp;omega) G7 B0).trans ((Below.heap_alloc _ _ _ LI).trans MP);have x0:w2.drew.cell? ⟨wr.heap.size,0,none⟩=some u0:=Lib.cell_of_heap (w:=w2.drew) HB 0;have x1:w2.drew.cell? ⟨wr.heap.size,1,none⟩=some u1:=Lib.cell_of_heap (w:=w2.drew) HB 1;have c2:w2.drew.cell? ⟨b,off,none⟩=some (.slice va vn vc):=(Lib.cell_of_heap (w:=w2.drew) NC off).trans (by rw[Array.getElem?_setIfInBounds,if_pos rfl,if_pos Gn])))
     have V9:=h.toROk.lt;have zw:=hw.size;have oh:=(Array.getElem?_eq_some_iff.1 HB).1;have DY:=he.rep;have Ho:∀u∈[u0,u1],u.oneCell'=true:=fun u hu=>by
      obtain⟨j,hj⟩:=List.mem_iff_getElem?.1 hu
      match j,hj with
      |0,e=>exact(DY 0 _ u rfl e).2
      |1,e=>exact(DY 1 _ u rfl e).2
     have hcl:xs.length+1<=1000000:=by have:=rCnt_le (s:=s) (most:=most) (q:=q);omega
     have Im:∀k,W.heap.size<=k->k<wr.heap.size->w2.heap[k]?=wr.heap[k]?:=fun k k1 k2=>(d2.block k (by simp;omega) B0 B0).trans (Below.heap_alloc _ _ _ k2);have Hq:(w2.alloc (.cells #[u0,u1] 64)).drew.ownsRow W.heap.size 64 2 (.slice va vn vc) xs.length us.flatten:=row_keep DC.own (fun k k1 k2 _=>(Below.heap_alloc w2 _ _ B0).trans (Im k k1 k2));have Db:∀j u,[u0,u1][j]?=some u->(w2.alloc (.cells #[u0,u1] 64)).drew.cell? ((⟨w2.heap.size,0,none⟩:Addr).add j)=some u:=cells_new w2 [u0,u1] 64;have CU:∀k,k<W.heap.size->some k≠(Value.slice va vn vc).ownBlock:=fun k k1 e=>by have:=(row_own DC.own e).1;omega
     have Hh : (w2.alloc (.cells #[u0,u1] 64)).drew.heap[b]?=some (.cells (cs.setIfInBounds off (.slice va vn vc)) T (0,0)):=(Below.heap_alloc w2 _ _ B0).trans NC;have c3:(w2.alloc (.cells #[u0,u1] 64)).drew.cell? ⟨b,off,none⟩=some (.slice va vn vc):=(Lib.cell_of_heap Hh off).trans (by rw[Array.getElem?_setIfInBounds,if_pos rfl,if_pos Gn])
     go_region_law (refine step_append_own rfl (.tmp 38) (.tmp 40) 65 rfl W.heap.size 64 i0 (.agg #[zI,zI]) 2 16 Tryz.underlying65 hi T6 bW bX rfl aa2 (.slice va vn vc) xs.length us.flatten (by simp[Act.eval]) Hq ⟨w2.heap.size,0,none⟩ 1 1 [u0,u1] (by simp[Act.eval]) rfl Db Ho (by unfold maxLen;omega) B0 (by show _<=(w2.alloc _).heap.size;simp;omega) ?_;intro v' w3 Hp Es Pl JZ;obtain⟨wa,wn,wc,rfl⟩:=JZ;have Kz:w3.heap[b]?=some (.cells (cs.setIfInBounds off (.slice va vn vc)) T (0,0)):=(Es.block b (by show b<(w2.alloc _).heap.size;simp;omega) (CU b BW)).trans Hh;have f3:=Lib.frozen_of_heap Kz off;have c4:w3.cell? ⟨b,off,none⟩=some (.slice va vn vc):=(Lib.cell_of_heap Kz off).trans (by rw[Array.getElem?_setIfInBounds,if_pos rfl,if_pos Gn]))
     all_goals have ch:=chain (v:=Value.slice wa wn wc) (off:=off) hw d2 Es CU BW V9 G7
     all_goals have V8:=set_twice (v':=.slice wa wn wc) Kz
     all_goals have Hi:=ch.hR.trans hR2
     all_goals have UW:=h.step Hi ch.rb Jd IK (rdSp_ok LP)
     all_goals have c5:(w3.setCell ⟨b,off,none⟩ (.slice wa wn wc)).cell? ⟨D,0,none⟩=some (pA R 0):=Lib.cell_of_heap UW.hD 0
     all_goals have Hr:=DC.push (v':=.slice wa wn wc) (w4:=w3.setCell ⟨b,off,none⟩ (.slice wa wn wc)) (wa:=wr.alloc (.cells #[zI,zI] 64)) aa0 he rfl Im d2.size ch.old (row_keep Hp (fun k k1 _ _=>Below.heap_setCell _ _ _ _ (show k≠b by omega))) (fun g e=>Pl.elim (fun z=>.inl (e.trans z)) (fun z=>.inr (by rw[z]at e;cases e;show _<=(w2.alloc _).heap.size;simp))) ch.z4 zw
     all_goals (rw[hE]at Hi)
     all_goals go_wp2_with (go_at_call 193;(refine(yo_error R _ _ s _ Hi).mono ?_;rintro x w' ⟨rfl,rfl⟩))
     all_goals (rw[<-hE]at Hi)
     all_goals (try go_roundw)
     all_goals first
      |exact⟨k+1,(rdSp s most q').2,xs++[(rdSp s most q').1],.slice wa wn wc,_,us++[[u0,u1]],by go_num,JE,by simp[Wh],by rw[<-hl,rLoop_next JE hE],rdSp_ok LP,Hi,V8,ch.rb,Hr⟩
      |(show _-_<_-_;simp only[intOf];omega)
    .go_wp2_with (go_at_call 123;(refine(yq_span R D wr.heap.size 0 64 most s q' _ #[zI,zI] (QN.alloc _) B0 B0 (by have:=BW;omega) (new_heap _ _) (fun j z e=>by rw[Nat.zero_add,<-Array.getElem?_toList];exact e) GF).mono ?_;rintro x w2 ⟨rfl,vs,S2,⟨hR2,hX2,d2⟩,he⟩;obtain⟨u0,u1,rfl⟩:=len2 he.len;have HB:w2.heap[wr.heap.size]?=some (.cells #[u0,u1] 64 (0,0)):=hX2;have NC:=(d2.block b (by simp;omega) G7 B0).trans ((Below.heap_alloc _ _ _ LI).trans MP);have x0:w2.drew.cell? ⟨wr.heap.size,0,none⟩=some u0:=Lib.cell_of_heap (w:=w2.drew) HB 0;have x1:w2.drew.cell? ⟨wr.heap.size,1,none⟩=some u1:=Lib.cell_of_heap (w:=w2.drew) HB 1;have c2:w2.drew.cell? ⟨b,off,none⟩=some (.slice va vn vc):=(Lib.cell_of_heap (w:=w2.drew) NC off).trans (by rw[Array.getElem?_setIfInBounds,if_pos rfl,if_pos Gn])))
     have V9:=h.toROk.lt;have zw:=hw.size;have oh:=(Array.getElem?_eq_some_iff.1 HB).1;have DY:=he.rep;have Ho:∀u∈[u0,u1],u.oneCell'=true:=fun u hu=>by
      obtain⟨j,hj⟩:=List.mem_iff_getElem?.1 hu
      match j,hj with
      |0,e=>exact(DY 0 _ u rfl e).2
      |1,e=>exact(DY 1 _ u rfl e).2
     have hcl:xs.length+1<=1000000:=by have:=rCnt_le (s:=s) (most:=most) (q:=q);omega
     have Im:∀k,W.heap.size<=k->k<wr.heap.size->w2.heap[k]?=wr.heap[k]?:=fun k k1 k2=>(d2.block k (by simp;omega) B0 B0).trans (Below.heap_alloc _ _ _ k2);have Hq:(w2.alloc (.cells #[u0,u1] 64)).drew.ownsRow W.heap.size 64 2 (.slice va vn vc) xs.length us.flatten:=row_keep DC.own (fun k k1 k2 _=>(Below.heap_alloc w2 _ _ B0).trans (Im k k1 k2));have Db:∀j u,[u0,u1][j]?=some u->(w2.alloc (.cells #[u0,u1] 64)).drew.cell? ((⟨w2.heap.size,0,none⟩:Addr).add j)=some u:=cells_new w2 [u0,u1] 64;have CU:∀k,k<W.heap.size->some k≠(Value.slice va vn vc).ownBlock:=fun k k1 e=>by have:=(row_own DC.own e).1;omega
     have Hh : (w2.alloc (.cells #[u0,u1] 64)).drew.heap[b]?=some (.cells (cs.setIfInBounds off (.slice va vn vc)) T (0,0)):=(Below.heap_alloc w2 _ _ B0).trans NC;have c3:(w2.alloc (.cells #[u0,u1] 64)).drew.cell? ⟨b,off,none⟩=some (.slice va vn vc):=(Lib.cell_of_heap Hh off).trans (by rw[Array.getElem?_setIfInBounds,if_pos rfl,if_pos Gn])
     go_region_law (refine step_append_own rfl (.tmp 38) (.tmp 40) 65 rfl W.heap.size 64 i0 (.agg #[zI,zI]) 2 16 Tryz.underlying65 hi T6 bW bX rfl aa2 (.slice va vn vc) xs.length us.flatten (by simp[Act.eval]) Hq ⟨w2.heap.size,0,none⟩ 1 1 [u0,u1] (by simp[Act.eval]) rfl Db Ho (by unfold maxLen;omega) B0 (by show _<=(w2.alloc _).heap.size;simp;omega) ?_;intro v' w3 Hp Es Pl JZ;obtain⟨wa,wn,wc,rfl⟩:=JZ;have Kz:w3.heap[b]?=some (.cells (cs.setIfInBounds off (.slice va vn vc)) T (0,0)):=(Es.block b (by show b<(w2.alloc _).heap.size;simp;omega) (CU b BW)).trans Hh;have f3:=Lib.frozen_of_heap Kz off;have c4:w3.cell? ⟨b,off,none⟩=some (.slice va vn vc):=(Lib.cell_of_heap Kz off).trans (by rw[Array.getElem?_setIfInBounds,if_pos rfl,if_pos Gn]))
     all_goals have ch:=chain (v:=Value.slice wa wn wc) (off:=off) hw d2 Es CU BW V9 G7
     all_goals have V8:=set_twice (v':=.slice wa wn wc) Kz
     all_goals have Hi:=ch.hR.trans hR2
     all_goals have UW:=h.step Hi ch.rb Jd IK (rdSp_ok LP)
     all_goals have c5:(w3.setCell ⟨b,off,none⟩ (.slice wa wn wc)).cell? ⟨D,0,none⟩=some (pA R 0):=Lib.cell_of_heap UW.hD 0
     all_goals have Hr:=DC.push (v':=.slice wa wn wc) (w4:=w3.setCell ⟨b,off,none⟩ (.slice wa wn wc)) (wa:=wr.alloc (.cells #[zI,zI] 64)) aa0 he rfl Im d2.size ch.old (row_keep Hp (fun k k1 _ _=>Below.heap_setCell _ _ _ _ (show k≠b by omega))) (fun g e=>Pl.elim (fun z=>.inl (e.trans z)) (fun z=>.inr (by rw[z]at e;cases e;show _<=(w2.alloc _).heap.size;simp))) ch.z4 zw
     all_goals (rw[hE]at Hi)
     all_goals go_wp2_with (go_at_call 193;(refine(yo_error R _ _ s _ Hi).mono ?_;rintro x w' ⟨rfl,rfl⟩))
     all_goals (rw[<-hE]at Hi)
     all_goals (have Hm:rList rdSp s most q=(xs++[(rdSp s most q').1],(rdSp s most q').2):=by rw[<-hl,rLoop_stop JE hE])
     all_goals first
      |exact bodyPost_ret (results_none rfl _ _ _) rfl ⟨rfl,.slice wa wn wc,_,_,⟨by rw[Hm];exact Hi,V8,ch.rb⟩,by rw[Hm];exact Hr⟩
      |trace_state
   .obtain rfl:k=(rCnt s most q).1:=B0
    have Hm:rList rdSp s most q=(xs,q'):=by rw[<-hl,Nat.sub_self,rLoop]
    go_wp2
    all_goals first
     |exact bodyPost_ret (results_none rfl _ _ _) rfl ⟨rfl,v,_,_,⟨by rw[Hm];exact XI,MP,hw⟩,by rw[Hm];exact DC⟩
     |trace_state
set_option maxRecDepth 100000 in
set_option maxHeartbeats 4000000 in
theorem yq_root:RC 121 Af rdRq [zT,.slice none 0 0]:=by
 intro R D b off T most s q W cs h G7 Jd IK hB hz GF;have EQ:off+1<cs.size:=(Array.getElem?_eq_some_iff.1 (hz 1 _ rfl)).1;have tn:=yp_tn ⟨D,0,none⟩;have tm:=yp_tm ⟨D,0,none⟩
 go_enter Tryz.func121,Tryz.ntmps121
 go_wp2
 go_region_with (go_at_call 442;(refine(yo_txt R D most b (off+0) T s q _ ?_ cs G7 ?_ B0).mono ?_;exact h.drew;exact hB;rintro x w1 ⟨rfl,r1,k1,c1⟩))
 all_goals (have d1:RB R b W w1:=c1.undrew)
 all_goals (have h1:=h.step r1 d1 Jd IK (rTxt_ok h.qok))
 all_goals go_wp2_with (go_at_call 122;(refine(yr_list122 R D b (off+1) T most s (rTxt s q).2 _ (cs.setIfInBounds off (.string (rTxt s q).1)) h1 G7 Jd IK k1 (by rw[Array.getElem?_setIfInBounds,if_neg B0];exact hz 1 _ rfl) GF).mono ?_;rintro x w2 ⟨rfl,v,S,us,⟨r2,k2,c2⟩,hr⟩;have he:ElemR _ w1 w2 _ _:=hr.done (Nat.le_refl _) (fun _=>rfl)))
 all_goals refine bodyPost_end (results_none rfl _ _ _) rfl ⟨rfl,[.string (rTxt s q).1,v],_,⟨r2,k2,d1.trans c2⟩,rfl,fun b o y=>⟨Nat.le_trans d1.size (he.fresh b o y).1,(he.fresh b o y).2⟩,fun j av y e1 e2=>?_⟩
 all_goals
  match j,e1,e2 with
  |0,e1,e2=>cases e1;cases e2;exact⟨.v _ _,rfl⟩
  |1,e1,e2=>cases e1;cases e2;exact he.rep 0 _ _ rfl rfl
set_option maxRecDepth 100000 in
set_option maxHeartbeats 4000000 in
theorem yr_list120:RF 120 121 68 2 Af rdRq:=by
 intro R D b off T most s q W cs h G7 Jd IK hB hz GF;have BW:b<W.heap.size:=(Array.getElem?_eq_some_iff.1 hB).1;have Gn:off<cs.size:=(Array.getElem?_eq_some_iff.1 hz).1;obtain⟨i0,hi,T6,bW,bX⟩:=info_parts (P:=Tryz.prog) (e:=68) (z:=.agg #[zT,.slice none 0 0]) (size:=2) (bytes:=40) aa3;have n1:=yp_cn ⟨D,0,none⟩;have m1:=yp_cm ⟨D,0,none⟩;have ta:=yp_ta ⟨D,0,none⟩;have tb:=yp_tb ⟨D,0,none⟩;have c0:W.drew.cell? ⟨b,off,none⟩=some (.slice none 0 0):=(Lib.cell_of_heap (w:=W.drew) hB off).trans hz;have xW:∀args w,(callFunc 121 args).run Tryz.prog w=.ok (.enter 121 args) w:=enters_of Tryz.func121 aa3 rfl
 go_enter Tryz.func120,Tryz.ntmps120
 go_wp2
 go_region_with (go_at_call 440;(refine(yo_cnt R D most _ s q _ ?_).mono ?_;exact h.drew;rintro x w1 ⟨rfl,hR1,c1⟩))
 all_goals (have d1:WrB W.heap.size R W w1:=c1.undrew)
 all_goals (have V7:=(d1.block b BW G7).trans hB)
 all_goals (have f1:=Lib.frozen_of_heap V7 off)
 all_goals (have g1:w1.cell? ⟨b,off,none⟩=some (.slice none 0 0):=(Lib.cell_of_heap V7 off).trans hz)
 all_goals
  go_wp2
  go_loopw [30] (fun i wr=>∃(k:Nat) (q' : RS) (xs:List Rq) (v:Value) (S:Nat->Nat->Prop) (us:List (List Value)),i=.int .i64 k/\k<=(rCnt s most q).1/\xs.length=k/\rLoop (rdRq s most) ((rCnt s most q).1-k) q' xs=rList rdRq s most q/\QOk s q'/\wr.heap[R]?=some (rdO s q'.1 q'.2)/\wr.heap[b]?=some (.cells (cs.setIfInBounds off v) T (0,0))/\RB R b W wr/\LRow W.heap.size 68 2 Af S wr v xs us) (fun i _=>(rCnt s most q).1-(intOf i).toNat)
  case atStart=>exact⟨0,(rCnt s most q).2,[],.slice none 0 0,fun _ _=>False,[],rfl,Nat.zero_le _,rfl,rfl,rCnt_ok h.qok,(Below.heap_setCell _ _ _ _ (show R≠b from G7.symm)).trans hR1,by show(w1.heap.modify b _)[b]?=_;rw[Array.getElem?_modify,if_pos rfl,V7];rfl,⟨d1.os,d1.tape,d1.output,by simp[World.setCell];exact d1.size,fun k k1 k2 k3=>(Below.heap_setCell _ _ _ _ k3).trans (d1.block k k1 k2)⟩,⟨rfl,.inl ⟨rfl,rfl⟩⟩,rfl,fun _ _ e=>e.elim,fun i x u e _=>by simp at e⟩
  case round=>
   obtain⟨k,q',xs,v,S,us,rfl,hk,Wh,hl,LP,XI,MP,hw,DC⟩:=hrel;rcases Nat.lt_or_ge k (rCnt s most q).1 with JE | WT
   .have QN:=h.step XI hw Jd IK LP;have LI:=(Array.getElem?_eq_some_iff.1 MP).1;have ml:=QN.toROk.lt;have mg:=(Array.getElem?_eq_some_iff.1 QN.hD).1;obtain⟨va,vn,vc,rfl⟩:∃q k c,v=.slice q k c:=by rcases DC.own.2 with ⟨e,_⟩ | ⟨g,cap,Dn,e,_⟩<;>exact⟨_,_,_,e⟩
    rcases(rdRq_ok (most:=most) LP).2 with hE | hE
    .go_wp2_with (go_at_call 121;(refine(yq_root R D wr.heap.size 0 68 most s q' _ #[zT,.slice none 0 0] (QN.alloc _) B0 B0 (by have:=BW;omega) (new_heap _ _) (fun j z e=>by rw[Nat.zero_add,<-Array.getElem?_toList];exact e) GF).mono ?_;rintro x w2 ⟨rfl,vs,S2,⟨hR2,hX2,d2⟩,he⟩;obtain⟨u0,u1,rfl⟩:=len2 he.len;have HB:w2.heap[wr.heap.size]?=some (.cells #[u0,u1] 68 (0,0)):=hX2;have NC:=(d2.block b (by simp;omega) G7 B0).trans ((Below.heap_alloc _ _ _ LI).trans MP);have x0:w2.drew.cell? ⟨wr.heap.size,0,none⟩=some u0:=Lib.cell_of_heap (w:=w2.drew) HB 0;have x1:w2.drew.cell? ⟨wr.heap.size,1,none⟩=some u1:=Lib.cell_of_heap (w:=w2.drew) HB 1;have c2:w2.drew.cell? ⟨b,off,none⟩=some (.slice va vn vc):=(Lib.cell_of_heap (w:=w2.drew) NC off).trans (by rw[Array.getElem?_setIfInBounds,if_pos rfl,if_pos Gn])))
     have V9:=h.toROk.lt;have zw:=hw.size;have oh:=(Array.getElem?_eq_some_iff.1 HB).1;have DY:=he.rep;have Ho:∀u∈[u0,u1],u.oneCell'=true:=fun u hu=>by
      obtain⟨j,hj⟩:=List.mem_iff_getElem?.1 hu
      match j,hj with
      |0,e=>exact(DY 0 _ u rfl e).2
      |1,e=>exact(DY 1 _ u rfl e).2
     have hcl:xs.length+1<=1000000:=by have:=rCnt_le (s:=s) (most:=most) (q:=q);omega
     have Im:∀k,W.heap.size<=k->k<wr.heap.size->w2.heap[k]?=wr.heap[k]?:=fun k k1 k2=>(d2.block k (by simp;omega) B0 B0).trans (Below.heap_alloc _ _ _ k2);have Hq:(w2.alloc (.cells #[u0,u1] 68)).drew.ownsRow W.heap.size 68 2 (.slice va vn vc) xs.length us.flatten:=row_keep DC.own (fun k k1 k2 _=>(Below.heap_alloc w2 _ _ B0).trans (Im k k1 k2));have Db:∀j u,[u0,u1][j]?=some u->(w2.alloc (.cells #[u0,u1] 68)).drew.cell? ((⟨w2.heap.size,0,none⟩:Addr).add j)=some u:=cells_new w2 [u0,u1] 68;have CU:∀k,k<W.heap.size->some k≠(Value.slice va vn vc).ownBlock:=fun k k1 e=>by have:=(row_own DC.own e).1;omega
     have Hh : (w2.alloc (.cells #[u0,u1] 68)).drew.heap[b]?=some (.cells (cs.setIfInBounds off (.slice va vn vc)) T (0,0)):=(Below.heap_alloc w2 _ _ B0).trans NC;have c3:(w2.alloc (.cells #[u0,u1] 68)).drew.cell? ⟨b,off,none⟩=some (.slice va vn vc):=(Lib.cell_of_heap Hh off).trans (by rw[Array.getElem?_setIfInBounds,if_pos rfl,if_pos Gn])
     go_region_law (refine step_append_own rfl (.tmp 38) (.tmp 40) 26 rfl W.heap.size 68 i0 (.agg #[zT,.slice none 0 0]) 2 40 Tryz.underlying26 hi T6 bW bX rfl aa2 (.slice va vn vc) xs.length us.flatten (by simp[Act.eval]) Hq ⟨w2.heap.size,0,none⟩ 1 1 [u0,u1] (by simp[Act.eval]) rfl Db Ho (by unfold maxLen;omega) B0 (by show _<=(w2.alloc _).heap.size;simp;omega) ?_;intro v' w3 Hp Es Pl JZ;obtain⟨wa,wn,wc,rfl⟩:=JZ;have Kz:w3.heap[b]?=some (.cells (cs.setIfInBounds off (.slice va vn vc)) T (0,0)):=(Es.block b (by show b<(w2.alloc _).heap.size;simp;omega) (CU b BW)).trans Hh;have f3:=Lib.frozen_of_heap Kz off;have c4:w3.cell? ⟨b,off,none⟩=some (.slice va vn vc):=(Lib.cell_of_heap Kz off).trans (by rw[Array.getElem?_setIfInBounds,if_pos rfl,if_pos Gn]))
     all_goals have ch:=chain (v:=Value.slice wa wn wc) (off:=off) hw d2 Es CU BW V9 G7
     all_goals have V8:=set_twice (v':=.slice wa wn wc) Kz
     all_goals have Hi:=ch.hR.trans hR2
     all_goals have UW:=h.step Hi ch.rb Jd IK (rdRq_ok LP)
     all_goals have c5:(w3.setCell ⟨b,off,none⟩ (.slice wa wn wc)).cell? ⟨D,0,none⟩=some (pA R 0):=Lib.cell_of_heap UW.hD 0
     all_goals have Hr:=DC.push (v':=.slice wa wn wc) (w4:=w3.setCell ⟨b,off,none⟩ (.slice wa wn wc)) (wa:=wr.alloc (.cells #[zT,.slice none 0 0] 68)) aa0 he rfl Im d2.size ch.old (row_keep Hp (fun k k1 _ _=>Below.heap_setCell _ _ _ _ (show k≠b by omega))) (fun g e=>Pl.elim (fun z=>.inl (e.trans z)) (fun z=>.inr (by rw[z]at e;cases e;show _<=(w2.alloc _).heap.size;simp))) ch.z4 zw
     all_goals (rw[hE]at Hi)
     all_goals go_wp2_with (go_at_call 193;(refine(yo_error R _ _ s _ Hi).mono ?_;rintro x w' ⟨rfl,rfl⟩))
     all_goals (rw[<-hE]at Hi)
     all_goals (try go_roundw)
     all_goals first
      |exact⟨k+1,(rdRq s most q').2,xs++[(rdRq s most q').1],.slice wa wn wc,_,us++[[u0,u1]],by go_num,JE,by simp[Wh],by rw[<-hl,rLoop_next JE hE],rdRq_ok LP,Hi,V8,ch.rb,Hr⟩
      |(show _-_<_-_;simp only[intOf];omega)
    .go_wp2_with (go_at_call 121;(refine(yq_root R D wr.heap.size 0 68 most s q' _ #[zT,.slice none 0 0] (QN.alloc _) B0 B0 (by have:=BW;omega) (new_heap _ _) (fun j z e=>by rw[Nat.zero_add,<-Array.getElem?_toList];exact e) GF).mono ?_;rintro x w2 ⟨rfl,vs,S2,⟨hR2,hX2,d2⟩,he⟩;obtain⟨u0,u1,rfl⟩:=len2 he.len;have HB:w2.heap[wr.heap.size]?=some (.cells #[u0,u1] 68 (0,0)):=hX2;have NC:=(d2.block b (by simp;omega) G7 B0).trans ((Below.heap_alloc _ _ _ LI).trans MP);have x0:w2.drew.cell? ⟨wr.heap.size,0,none⟩=some u0:=Lib.cell_of_heap (w:=w2.drew) HB 0;have x1:w2.drew.cell? ⟨wr.heap.size,1,none⟩=some u1:=Lib.cell_of_heap (w:=w2.drew) HB 1;have c2:w2.drew.cell? ⟨b,off,none⟩=some (.slice va vn vc):=(Lib.cell_of_heap (w:=w2.drew) NC off).trans (by rw[Array.getElem?_setIfInBounds,if_pos rfl,if_pos Gn])))
     have V9:=h.toROk.lt;have zw:=hw.size;have oh:=(Array.getElem?_eq_some_iff.1 HB).1;have DY:=he.rep;have Ho:∀u∈[u0,u1],u.oneCell'=true:=fun u hu=>by
      obtain⟨j,hj⟩:=List.mem_iff_getElem?.1 hu
      match j,hj with
      |0,e=>exact(DY 0 _ u rfl e).2
      |1,e=>exact(DY 1 _ u rfl e).2
     have hcl:xs.length+1<=1000000:=by have:=rCnt_le (s:=s) (most:=most) (q:=q);omega
     have Im:∀k,W.heap.size<=k->k<wr.heap.size->w2.heap[k]?=wr.heap[k]?:=fun k k1 k2=>(d2.block k (by simp;omega) B0 B0).trans (Below.heap_alloc _ _ _ k2);have Hq:(w2.alloc (.cells #[u0,u1] 68)).drew.ownsRow W.heap.size 68 2 (.slice va vn vc) xs.length us.flatten:=row_keep DC.own (fun k k1 k2 _=>(Below.heap_alloc w2 _ _ B0).trans (Im k k1 k2));have Db:∀j u,[u0,u1][j]?=some u->(w2.alloc (.cells #[u0,u1] 68)).drew.cell? ((⟨w2.heap.size,0,none⟩:Addr).add j)=some u:=cells_new w2 [u0,u1] 68;have CU:∀k,k<W.heap.size->some k≠(Value.slice va vn vc).ownBlock:=fun k k1 e=>by have:=(row_own DC.own e).1;omega
     have Hh : (w2.alloc (.cells #[u0,u1] 68)).drew.heap[b]?=some (.cells (cs.setIfInBounds off (.slice va vn vc)) T (0,0)):=(Below.heap_alloc w2 _ _ B0).trans NC;have c3:(w2.alloc (.cells #[u0,u1] 68)).drew.cell? ⟨b,off,none⟩=some (.slice va vn vc):=(Lib.cell_of_heap Hh off).trans (by rw[Array.getElem?_setIfInBounds,if_pos rfl,if_pos Gn])
     go_region_law (refine step_append_own rfl (.tmp 38) (.tmp 40) 26 rfl W.heap.size 68 i0 (.agg #[zT,.slice none 0 0]) 2 40 Tryz.underlying26 hi T6 bW bX rfl aa2 (.slice va vn vc) xs.length us.flatten (by simp[Act.eval]) Hq ⟨w2.heap.size,0,none⟩ 1 1 [u0,u1] (by simp[Act.eval]) rfl Db Ho (by unfold maxLen;omega) B0 (by show _<=(w2.alloc _).heap.size;simp;omega) ?_;intro v' w3 Hp Es Pl JZ;obtain⟨wa,wn,wc,rfl⟩:=JZ;have Kz:w3.heap[b]?=some (.cells (cs.setIfInBounds off (.slice va vn vc)) T (0,0)):=(Es.block b (by show b<(w2.alloc _).heap.size;simp;omega) (CU b BW)).trans Hh;have f3:=Lib.frozen_of_heap Kz off;have c4:w3.cell? ⟨b,off,none⟩=some (.slice va vn vc):=(Lib.cell_of_heap Kz off).trans (by rw[Array.getElem?_setIfInBounds,if_pos rfl,if_pos Gn]))
     all_goals have ch:=chain (v:=Value.slice wa wn wc) (off:=off) hw d2 Es CU BW V9 G7
     all_goals have V8:=set_twice (v':=.slice wa wn wc) Kz
     all_goals have Hi:=ch.hR.trans hR2
     all_goals have UW:=h.step Hi ch.rb Jd IK (rdRq_ok LP)
     all_goals have c5:(w3.setCell ⟨b,off,none⟩ (.slice wa wn wc)).cell? ⟨D,0,none⟩=some (pA R 0):=Lib.cell_of_heap UW.hD 0
     all_goals have Hr:=DC.push (v':=.slice wa wn wc) (w4:=w3.setCell ⟨b,off,none⟩ (.slice wa wn wc)) (wa:=wr.alloc (.cells #[zT,.slice none 0 0] 68)) aa0 he rfl Im d2.size ch.old (row_keep Hp (fun k k1 _ _=>Below.heap_setCell _ _ _ _ (show k≠b by omega))) (fun g e=>Pl.elim (fun z=>.inl (e.trans z)) (fun z=>.inr (by rw[z]at e;cases e;show _<=(w2.alloc _).heap.size;simp))) ch.z4 zw
     all_goals (rw[hE]at Hi)
     all_goals go_wp2_with (go_at_call 193;(refine(yo_error R _ _ s _ Hi).mono ?_;rintro x w' ⟨rfl,rfl⟩))
     all_goals (rw[<-hE]at Hi)
     all_goals (have Hm:rList rdRq s most q=(xs++[(rdRq s most q').1],(rdRq s most q').2):=by rw[<-hl,rLoop_stop JE hE])
     all_goals first
      |exact bodyPost_ret (results_none rfl _ _ _) rfl ⟨rfl,.slice wa wn wc,_,_,⟨by rw[Hm];exact Hi,V8,ch.rb⟩,by rw[Hm];exact Hr⟩
      |trace_state
   .obtain rfl:k=(rCnt s most q).1:=B0
    have Hm:rList rdRq s most q=(xs,q'):=by rw[<-hl,Nat.sub_self,rLoop]
    go_wp2
    all_goals first
     |exact bodyPost_ret (results_none rfl _ _ _) rfl ⟨rfl,v,_,_,⟨by rw[Hm];exact XI,MP,hw⟩,by rw[Hm];exact DC⟩
     |trace_state
end Go.Proofs
