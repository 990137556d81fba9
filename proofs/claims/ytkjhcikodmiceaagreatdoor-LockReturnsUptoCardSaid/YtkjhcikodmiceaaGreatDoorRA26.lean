/- Lemmas 26. -/
import Derived.Test.YtkjhcikodmiceaaGreatDoorRA25
namespace Go.Proofs
open Go.Shelf Go.RowKit Go.Lib Go.Sort Go.Eng
set_option maxRecDepth 100000 in
set_option maxHeartbeats 4000000 in
theorem yr_list125:RF 125 126 53 6 Cq rdLo:=by
 intro R D b off T most s q W cs h G7 Jd IK hB hz GF;have BW:b<W.heap.size:=(Array.getElem?_eq_some_iff.1 hB).1;have Gn:off<cs.size:=(Array.getElem?_eq_some_iff.1 hz).1;obtain⟨i0,hi,T6,bW,bX⟩:=info_parts (P:=Tryz.prog) (e:=53) (z:=.agg #[zT,zI,zI,zI,zT,zT]) (size:=6) (bytes:=72) aa3;have n1:=yp_cn ⟨D,0,none⟩;have m1:=yp_cm ⟨D,0,none⟩;have ta:=yp_ta ⟨D,0,none⟩;have tb:=yp_tb ⟨D,0,none⟩;have c0:W.drew.cell? ⟨b,off,none⟩=some (.slice none 0 0):=(Lib.cell_of_heap (w:=W.drew) hB off).trans hz;have xX:∀args w,(callFunc 126 args).run Tryz.prog w=.ok (.enter 126 args) w:=enters_of Tryz.func126 aa3 rfl
 go_enter Tryz.func125,Tryz.ntmps125
 go_wp2
 go_region_with (go_at_call 440;(refine(yo_cnt R D most _ s q _ ?_).mono ?_;exact h.drew;rintro x w1 ⟨rfl,hR1,c1⟩))
 all_goals (have d1:WrB W.heap.size R W w1:=c1.undrew)
 all_goals (have V7:=(d1.block b BW G7).trans hB)
 all_goals (have f1:=Lib.frozen_of_heap V7 off)
 all_goals (have g1:w1.cell? ⟨b,off,none⟩=some (.slice none 0 0):=(Lib.cell_of_heap V7 off).trans hz)
 all_goals
  go_wp2
  go_loopw [30] (fun i wr=>∃(k:Nat) (q' : RS) (xs:List Lo) (v:Value) (S:Nat->Nat->Prop) (us:List (List Value)),i=.int .i64 k/\k<=(rCnt s most q).1/\xs.length=k/\rLoop (rdLo s most) ((rCnt s most q).1-k) q' xs=rList rdLo s most q/\QOk s q'/\wr.heap[R]?=some (rdO s q'.1 q'.2)/\wr.heap[b]?=some (.cells (cs.setIfInBounds off v) T (0,0))/\RB R b W wr/\LRow W.heap.size 53 6 Cq S wr v xs us) (fun i _=>(rCnt s most q).1-(intOf i).toNat)
  case atStart=>exact⟨0,(rCnt s most q).2,[],.slice none 0 0,fun _ _=>False,[],rfl,Nat.zero_le _,rfl,rfl,rCnt_ok h.qok,(Below.heap_setCell _ _ _ _ (show R≠b from G7.symm)).trans hR1,by show(w1.heap.modify b _)[b]?=_;rw[Array.getElem?_modify,if_pos rfl,V7];rfl,⟨d1.os,d1.tape,d1.output,by simp[World.setCell];exact d1.size,fun k k1 k2 k3=>(Below.heap_setCell _ _ _ _ k3).trans (d1.block k k1 k2)⟩,⟨rfl,.inl Zr⟩,rfl,fun _ _ e=>e.elim,fun i x u e _=>by simp at e⟩
  case round=>
   obtain⟨k,q',xs,v,S,us,rfl,hk,Wh,hl,LP,XI,MP,hw,DC⟩:=hrel;rcases Nat.lt_or_ge k (rCnt s most q).1 with JE | WT
   .have QN:=h.step XI hw Jd IK LP;have LI:=(Array.getElem?_eq_some_iff.1 MP).1;have ml:=QN.toROk.lt;have mg:=(Array.getElem?_eq_some_iff.1 QN.hD).1;obtain⟨va,vn,vc,rfl⟩:∃q k c,v=.slice q k c:=by rcases DC.own.2 with ⟨e,_⟩ | ⟨g,cap,Dn,e,_⟩<;>exact⟨_,_,_,e⟩
    rcases(rdLo_ok (most:=most) LP).2 with hE | hE
    .go_wp2_with (go_at_call 126;(refine(yq_ent R D wr.heap.size 0 53 most s q' _ #[zT,zI,zI,zI,zT,zT] (QN.alloc _) B0 B0 (by have:=BW;omega) (new_heap _ _) (fun j z e=>by rw[Nat.zero_add,<-Array.getElem?_toList];exact e) GF).mono ?_;rintro x w2 ⟨rfl,vs,S2,⟨hR2,hX2,d2⟩,he⟩;obtain⟨u0,u1,u2,u3,u4,u5,rfl⟩:=len6 he.len;have HB:w2.heap[wr.heap.size]?=some (.cells #[u0,u1,u2,u3,u4,u5] 53 (0,0)):=hX2;have NC:=(d2.block b (by simp;omega) G7 B0).trans ((Below.heap_alloc _ _ _ LI).trans MP);have x0:w2.drew.cell? ⟨wr.heap.size,0,none⟩=some u0:=Lib.cell_of_heap (w:=w2.drew) HB 0;have x1:w2.drew.cell? ⟨wr.heap.size,1,none⟩=some u1:=Lib.cell_of_heap (w:=w2.drew) HB 1;have x2:w2.drew.cell? ⟨wr.heap.size,2,none⟩=some u2:=Lib.cell_of_heap (w:=w2.drew) HB 2;have x3:w2.drew.cell? ⟨wr.heap.size,3,none⟩=some u3:=Lib.cell_of_heap (w:=w2.drew) HB 3;have x4:w2.drew.cell? ⟨wr.heap.size,4,none⟩=some u4:=Lib.cell_of_heap (w:=w2.drew) HB 4;have x5:w2.drew.cell? ⟨wr.heap.size,5,none⟩=some u5:=Lib.cell_of_heap (w:=w2.drew) HB 5;have c2:w2.drew.cell? ⟨b,off,none⟩=some (.slice va vn vc):=(Lib.cell_of_heap (w:=w2.drew) NC off).trans (by rw[Array.getElem?_setIfInBounds,if_pos rfl,if_pos Gn])))
     have V9:=h.toROk.lt;have zw:=hw.size;have oh:=(Array.getElem?_eq_some_iff.1 HB).1;have DY:=he.rep;have Ho:∀u∈[u0,u1,u2,u3,u4,u5],u.oneCell'=true:=fun u hu=>by
      obtain⟨j,hj⟩:=List.mem_iff_getElem?.1 hu
      match j,hj with
      |0,e=>exact(DY 0 _ u rfl e).2
      |1,e=>exact(DY 1 _ u rfl e).2
      |2,e=>exact(DY 2 _ u rfl e).2
      |3,e=>exact(DY 3 _ u rfl e).2
      |4,e=>exact(DY 4 _ u rfl e).2
      |5,e=>exact(DY 5 _ u rfl e).2
     have hcl:xs.length+1<=1000000:=by have:=rCnt_le (s:=s) (most:=most) (q:=q);omega
     have Im:∀k,W.heap.size<=k->k<wr.heap.size->w2.heap[k]?=wr.heap[k]?:=fun k k1 k2=>(d2.block k (by simp;omega) B0 B0).trans (Below.heap_alloc _ _ _ k2);have Hq:(w2.alloc (.cells #[u0,u1,u2,u3,u4,u5] 53)).drew.ownsRow W.heap.size 53 6 (.slice va vn vc) xs.length us.flatten:=row_keep DC.own (fun k k1 k2 _=>(Below.heap_alloc w2 _ _ B0).trans (Im k k1 k2));have Db:∀j u,[u0,u1,u2,u3,u4,u5][j]?=some u->(w2.alloc (.cells #[u0,u1,u2,u3,u4,u5] 53)).drew.cell? ((⟨w2.heap.size,0,none⟩:Addr).add j)=some u:=cells_new w2 [u0,u1,u2,u3,u4,u5] 53;have CU:∀k,k<W.heap.size->some k≠(Value.slice va vn vc).ownBlock:=fun k k1 e=>by have:=(row_own DC.own e).1;omega
     have Hh : (w2.alloc (.cells #[u0,u1,u2,u3,u4,u5] 53)).drew.heap[b]?=some (.cells (cs.setIfInBounds off (.slice va vn vc)) T (0,0)):=(Below.heap_alloc w2 _ _ B0).trans NC;have c3:(w2.alloc (.cells #[u0,u1,u2,u3,u4,u5] 53)).drew.cell? ⟨b,off,none⟩=some (.slice va vn vc):=(Lib.cell_of_heap Hh off).trans (by rw[Array.getElem?_setIfInBounds,if_pos rfl,if_pos Gn])
     go_region_law (refine step_append_own rfl (.tmp 38) (.tmp 40) 29 rfl W.heap.size 53 i0 (.agg #[zT,zI,zI,zI,zT,zT]) 6 72 Tryz.underlying29 hi T6 bW bX rfl aa2 (.slice va vn vc) xs.length us.flatten (by simp[Act.eval]) Hq ⟨w2.heap.size,0,none⟩ 1 1 [u0,u1,u2,u3,u4,u5] (by simp[Act.eval]) rfl Db Ho (by unfold maxLen;omega) B0 (by show _<=(w2.alloc _).heap.size;simp;omega) ?_;intro v' w3 Hp Es Pl JZ;obtain⟨wa,wn,wc,rfl⟩:=JZ;have Kz:w3.heap[b]?=some (.cells (cs.setIfInBounds off (.slice va vn vc)) T (0,0)):=(Es.block b (by show b<(w2.alloc _).heap.size;simp;omega) (CU b BW)).trans Hh;have f3:=Lib.frozen_of_heap Kz off;have c4:w3.cell? ⟨b,off,none⟩=some (.slice va vn vc):=(Lib.cell_of_heap Kz off).trans (by rw[Array.getElem?_setIfInBounds,if_pos rfl,if_pos Gn]))
     all_goals have ch:=chain (v:=Value.slice wa wn wc) (off:=off) hw d2 Es CU BW V9 G7
     all_goals have V8:=set_twice (v':=.slice wa wn wc) Kz
     all_goals have Hi:=ch.hR.trans hR2
     all_goals have UW:=h.step Hi ch.rb Jd IK (rdLo_ok LP)
     all_goals have c5:(w3.setCell ⟨b,off,none⟩ (.slice wa wn wc)).cell? ⟨D,0,none⟩=some (pA R 0):=Lib.cell_of_heap UW.hD 0
     all_goals have Hr:=DC.push (v':=.slice wa wn wc) (w4:=w3.setCell ⟨b,off,none⟩ (.slice wa wn wc)) (wa:=wr.alloc (.cells #[zT,zI,zI,zI,zT,zT] 53)) aa0 he rfl Im d2.size ch.old (row_keep Hp (fun k k1 _ _=>Below.heap_setCell _ _ _ _ (show k≠b by omega))) (fun g e=>Pl.elim (fun z=>.inl (e.trans z)) (fun z=>.inr (by rw[z]at e;cases e;show _<=(w2.alloc _).heap.size;simp))) ch.z4 zw
     all_goals (rw[hE]at Hi)
     all_goals go_wp2_with (go_at_call 193;(refine(yo_error R _ _ s _ Hi).mono ?_;rintro x w' ⟨rfl,rfl⟩))
     all_goals (rw[<-hE]at Hi)
     all_goals (try go_roundw)
     all_goals first
      |exact⟨k+1,(rdLo s most q').2,xs++[(rdLo s most q').1],.slice wa wn wc,_,us++[[u0,u1,u2,u3,u4,u5]],by go_num,JE,by simp[Wh],by rw[<-hl,rLoop_next JE hE],rdLo_ok LP,Hi,V8,ch.rb,Hr⟩
      |(show _-_<_-_;simp only[intOf];omega)
    .go_wp2_with (go_at_call 126;(refine(yq_ent R D wr.heap.size 0 53 most s q' _ #[zT,zI,zI,zI,zT,zT] (QN.alloc _) B0 B0 (by have:=BW;omega) (new_heap _ _) (fun j z e=>by rw[Nat.zero_add,<-Array.getElem?_toList];exact e) GF).mono ?_;rintro x w2 ⟨rfl,vs,S2,⟨hR2,hX2,d2⟩,he⟩;obtain⟨u0,u1,u2,u3,u4,u5,rfl⟩:=len6 he.len;have HB:w2.heap[wr.heap.size]?=some (.cells #[u0,u1,u2,u3,u4,u5] 53 (0,0)):=hX2;have NC:=(d2.block b (by simp;omega) G7 B0).trans ((Below.heap_alloc _ _ _ LI).trans MP);have x0:w2.drew.cell? ⟨wr.heap.size,0,none⟩=some u0:=Lib.cell_of_heap (w:=w2.drew) HB 0;have x1:w2.drew.cell? ⟨wr.heap.size,1,none⟩=some u1:=Lib.cell_of_heap (w:=w2.drew) HB 1;have x2:w2.drew.cell? ⟨wr.heap.size,2,none⟩=some u2:=Lib.cell_of_heap (w:=w2.drew) HB 2;have x3:w2.drew.cell? ⟨wr.heap.size,3,none⟩=some u3:=Lib.cell_of_heap (w:=w2.drew) HB 3;have x4:w2.drew.cell? ⟨wr.heap.size,4,none⟩=some u4:=Lib.cell_of_heap (w:=w2.drew) HB 4;have x5:w2.drew.cell? ⟨wr.heap.size,5,none⟩=some u5:=Lib.cell_of_heap (w:=w2.drew) HB 5;have c2:w2.drew.cell? ⟨b,off,none⟩=some (.slice va vn vc):=(Lib.cell_of_heap (w:=w2.drew) NC off).trans (by rw[Array.getElem?_setIfInBounds,if_pos rfl,if_pos Gn])))
     have V9:=h.toROk.lt;have zw:=hw.size;have oh:=(Array.getElem?_eq_some_iff.1 HB).1;have DY:=he.rep;have Ho:∀u∈[u0,u1,u2,u3,u4,u5],u.oneCell'=true:=fun u hu=>by
      obtain⟨j,hj⟩:=List.mem_iff_getElem?.1 hu
      match j,hj with
      |0,e=>exact(DY 0 _ u rfl e).2
      |1,e=>exact(DY 1 _ u rfl e).2
      |2,e=>exact(DY 2 _ u rfl e).2
      |3,e=>exact(DY 3 _ u rfl e).2
      |4,e=>exact(DY 4 _ u rfl e).2
      |5,e=>exact(DY 5 _ u rfl e).2
     have hcl:xs.length+1<=1000000:=by have:=rCnt_le (s:=s) (most:=most) (q:=q);omega
     have Im:∀k,W.heap.size<=k->k<wr.heap.size->w2.heap[k]?=wr.heap[k]?:=fun k k1 k2=>(d2.block k (by simp;omega) B0 B0).trans (Below.heap_alloc _ _ _ k2);have Hq:(w2.alloc (.cells #[u0,u1,u2,u3,u4,u5] 53)).drew.ownsRow W.heap.size 53 6 (.slice va vn vc) xs.length us.flatten:=row_keep DC.own (fun k k1 k2 _=>(Below.heap_alloc w2 _ _ B0).trans (Im k k1 k2));have Db:∀j u,[u0,u1,u2,u3,u4,u5][j]?=some u->(w2.alloc (.cells #[u0,u1,u2,u3,u4,u5] 53)).drew.cell? ((⟨w2.heap.size,0,none⟩:Addr).add j)=some u:=cells_new w2 [u0,u1,u2,u3,u4,u5] 53;have CU:∀k,k<W.heap.size->some k≠(Value.slice va vn vc).ownBlock:=fun k k1 e=>by have:=(row_own DC.own e).1;omega
     have Hh : (w2.alloc (.cells #[u0,u1,u2,u3,u4,u5] 53)).drew.heap[b]?=some (.cells (cs.setIfInBounds off (.slice va vn vc)) T (0,0)):=(Below.heap_alloc w2 _ _ B0).trans NC;have c3:(w2.alloc (.cells #[u0,u1,u2,u3,u4,u5] 53)).drew.cell? ⟨b,off,none⟩=some (.slice va vn vc):=(Lib.cell_of_heap Hh off).trans (by rw[Array.getElem?_setIfInBounds,if_pos rfl,if_pos Gn])
     go_region_law (refine step_append_own rfl (.tmp 38) (.tmp 40) 29 rfl W.heap.size 53 i0 (.agg #[zT,zI,zI,zI,zT,zT]) 6 72 Tryz.underlying29 hi T6 bW bX rfl aa2 (.slice va vn vc) xs.length us.flatten (by simp[Act.eval]) Hq ⟨w2.heap.size,0,none⟩ 1 1 [u0,u1,u2,u3,u4,u5] (by simp[Act.eval]) rfl Db Ho (by unfold maxLen;omega) B0 (by show _<=(w2.alloc _).heap.size;simp;omega) ?_;intro v' w3 Hp Es Pl JZ;obtain⟨wa,wn,wc,rfl⟩:=JZ;have Kz:w3.heap[b]?=some (.cells (cs.setIfInBounds off (.slice va vn vc)) T (0,0)):=(Es.block b (by show b<(w2.alloc _).heap.size;simp;omega) (CU b BW)).trans Hh;have f3:=Lib.frozen_of_heap Kz off;have c4:w3.cell? ⟨b,off,none⟩=some (.slice va vn vc):=(Lib.cell_of_heap Kz off).trans (by rw[Array.getElem?_setIfInBounds,if_pos rfl,if_pos Gn]))
     all_goals have ch:=chain (v:=Value.slice wa wn wc) (off:=off) hw d2 Es CU BW V9 G7
     all_goals have V8:=set_twice (v':=.slice wa wn wc) Kz
     all_goals have Hi:=ch.hR.trans hR2
     all_goals have UW:=h.step Hi ch.rb Jd IK (rdLo_ok LP)
     all_goals have c5:(w3.setCell ⟨b,off,none⟩ (.slice wa wn wc)).cell? ⟨D,0,none⟩=some (pA R 0):=Lib.cell_of_heap UW.hD 0
     all_goals have Hr:=DC.push (v':=.slice wa wn wc) (w4:=w3.setCell ⟨b,off,none⟩ (.slice wa wn wc)) (wa:=wr.alloc (.cells #[zT,zI,zI,zI,zT,zT] 53)) aa0 he rfl Im d2.size ch.old (row_keep Hp (fun k k1 _ _=>Below.heap_setCell _ _ _ _ (show k≠b by omega))) (fun g e=>Pl.elim (fun z=>.inl (e.trans z)) (fun z=>.inr (by rw[z]at e;cases e;show _<=(w2.alloc _).heap.size;simp))) ch.z4 zw
     all_goals (rw[hE]at Hi)
     all_goals go_wp2_with (go_at_call 193;(refine(yo_error R _ _ s _ Hi).mono ?_;rintro x w' ⟨rfl,rfl⟩))
     all_goals (rw[<-hE]at Hi)
     all_goals (have Hm:rList rdLo s most q=(xs++[(rdLo s most q').1],(rdLo s most q').2):=by rw[<-hl,rLoop_stop JE hE])
     all_goals first
      |exact bodyPost_ret (results_none rfl _ _ _) rfl ⟨rfl,.slice wa wn wc,_,_,⟨by rw[Hm];exact Hi,V8,ch.rb⟩,by rw[Hm];exact Hr⟩
      |trace_state
   .obtain rfl:k=(rCnt s most q).1:=B0
    have Hm:rList rdLo s most q=(xs,q'):=by rw[<-hl,Nat.sub_self,rLoop]
    go_wp2
    all_goals first
     |exact bodyPost_ret (results_none rfl _ _ _) rfl ⟨rfl,v,_,_,⟨by rw[Hm];exact XI,MP,hw⟩,by rw[Hm];exact DC⟩
     |trace_state
set_option maxRecDepth 100000 in
set_option maxHeartbeats 4000000 in
theorem yr_list127:RF 127 128 96 6 AR rdNf:=by
 intro R D b off T most s q W cs h G7 Jd IK hB hz GF;have BW:b<W.heap.size:=(Array.getElem?_eq_some_iff.1 hB).1;have Gn:off<cs.size:=(Array.getElem?_eq_some_iff.1 hz).1;obtain⟨i0,hi,T6,bW,bX⟩:=info_parts (P:=Tryz.prog) (e:=96) (z:=.agg #[zI,zT,zI,zI,zI,zI]) (size:=6) (bytes:=56) aa3;have n1:=yp_cn ⟨D,0,none⟩;have m1:=yp_cm ⟨D,0,none⟩;have ta:=yp_ta ⟨D,0,none⟩;have tb:=yp_tb ⟨D,0,none⟩;have c0:W.drew.cell? ⟨b,off,none⟩=some (.slice none 0 0):=(Lib.cell_of_heap (w:=W.drew) hB off).trans hz;have xY:∀args w,(callFunc 128 args).run Tryz.prog w=.ok (.enter 128 args) w:=enters_of Tryz.func128 aa3 rfl
 go_enter Tryz.func127,Tryz.ntmps127
 go_wp2
 go_region_with (go_at_call 440;(refine(yo_cnt R D most _ s q _ ?_).mono ?_;exact h.drew;rintro x w1 ⟨rfl,hR1,c1⟩))
 all_goals (have d1:WrB W.heap.size R W w1:=c1.undrew)
 all_goals (have V7:=(d1.block b BW G7).trans hB)
 all_goals (have f1:=Lib.frozen_of_heap V7 off)
 all_goals (have g1:w1.cell? ⟨b,off,none⟩=some (.slice none 0 0):=(Lib.cell_of_heap V7 off).trans hz)
 all_goals
  go_wp2
  go_loopw [30] (fun i wr=>∃(k:Nat) (q' : RS) (xs:List Nf) (v:Value) (S:Nat->Nat->Prop) (us:List (List Value)),i=.int .i64 k/\k<=(rCnt s most q).1/\xs.length=k/\rLoop (rdNf s most) ((rCnt s most q).1-k) q' xs=rList rdNf s most q/\QOk s q'/\wr.heap[R]?=some (rdO s q'.1 q'.2)/\wr.heap[b]?=some (.cells (cs.setIfInBounds off v) T (0,0))/\RB R b W wr/\LRow W.heap.size 96 6 AR S wr v xs us) (fun i _=>(rCnt s most q).1-(intOf i).toNat)
  case atStart=>exact⟨0,(rCnt s most q).2,[],.slice none 0 0,fun _ _=>False,[],rfl,Nat.zero_le _,rfl,rfl,rCnt_ok h.qok,(Below.heap_setCell _ _ _ _ (show R≠b from G7.symm)).trans hR1,by show(w1.heap.modify b _)[b]?=_;rw[Array.getElem?_modify,if_pos rfl,V7];rfl,⟨d1.os,d1.tape,d1.output,by simp[World.setCell];exact d1.size,fun k k1 k2 k3=>(Below.heap_setCell _ _ _ _ k3).trans (d1.block k k1 k2)⟩,⟨rfl,.inl Zr⟩,rfl,fun _ _ e=>e.elim,fun i x u e _=>by simp at e⟩
  case round=>
   obtain⟨k,q',xs,v,S,us,rfl,hk,Wh,hl,LP,XI,MP,hw,DC⟩:=hrel;rcases Nat.lt_or_ge k (rCnt s most q).1 with JE | WT
   .have QN:=h.step XI hw Jd IK LP;have LI:=(Array.getElem?_eq_some_iff.1 MP).1;have ml:=QN.toROk.lt;have mg:=(Array.getElem?_eq_some_iff.1 QN.hD).1;obtain⟨va,vn,vc,rfl⟩:∃q k c,v=.slice q k c:=by rcases DC.own.2 with ⟨e,_⟩ | ⟨g,cap,Dn,e,_⟩<;>exact⟨_,_,_,e⟩
    rcases(rdNf_ok (most:=most) LP).2 with hE | hE
    .go_wp2_with (go_at_call 128;(refine(yq_inf R D wr.heap.size 0 96 most s q' _ #[zI,zT,zI,zI,zI,zI] (QN.alloc _) B0 B0 (by have:=BW;omega) (new_heap _ _) (fun j z e=>by rw[Nat.zero_add,<-Array.getElem?_toList];exact e) GF).mono ?_;rintro x w2 ⟨rfl,vs,S2,⟨hR2,hX2,d2⟩,he⟩;obtain⟨u0,u1,u2,u3,u4,u5,rfl⟩:=len6 he.len;have HB:w2.heap[wr.heap.size]?=some (.cells #[u0,u1,u2,u3,u4,u5] 96 (0,0)):=hX2;have NC:=(d2.block b (by simp;omega) G7 B0).trans ((Below.heap_alloc _ _ _ LI).trans MP);have x0:w2.drew.cell? ⟨wr.heap.size,0,none⟩=some u0:=Lib.cell_of_heap (w:=w2.drew) HB 0;have x1:w2.drew.cell? ⟨wr.heap.size,1,none⟩=some u1:=Lib.cell_of_heap (w:=w2.drew) HB 1;have x2:w2.drew.cell? ⟨wr.heap.size,2,none⟩=some u2:=Lib.cell_of_heap (w:=w2.drew) HB 2;have x3:w2.drew.cell? ⟨wr.heap.size,3,none⟩=some u3:=Lib.cell_of_heap (w:=w2.drew) HB 3;have x4:w2.drew.cell? ⟨wr.heap.size,4,none⟩=some u4:=Lib.cell_of_heap (w:=w2.drew) HB 4;have x5:w2.drew.cell? ⟨wr.heap.size,5,none⟩=some u5:=Lib.cell_of_heap (w:=w2.drew) HB 5;have c2:w2.drew.cell? ⟨b,off,none⟩=some (.slice va vn vc):=(Lib.cell_of_heap (w:=w2.drew) NC off).trans (by rw[Array.getElem?_setIfInBounds,if_pos rfl,if_pos Gn])))
     have V9:=h.toROk.lt;have zw:=hw.size;have oh:=(Array.getElem?_eq_some_iff.1 HB).1;have DY:=he.rep;have Ho:∀u∈[u0,u1,u2,u3,u4,u5],u.oneCell'=true:=fun u hu=>by
      obtain⟨j,hj⟩:=List.mem_iff_getElem?.1 hu
      match j,hj with
      |0,e=>exact(DY 0 _ u rfl e).2
      |1,e=>exact(DY 1 _ u rfl e).2
      |2,e=>exact(DY 2 _ u rfl e).2
      |3,e=>exact(DY 3 _ u rfl e).2
      |4,e=>exact(DY 4 _ u rfl e).2
      |5,e=>exact(DY 5 _ u rfl e).2
     have hcl:xs.length+1<=1000000:=by have:=rCnt_le (s:=s) (most:=most) (q:=q);omega
     have Im:∀k,W.heap.size<=k->k<wr.heap.size->w2.heap[k]?=wr.heap[k]?:=fun k k1 k2=>(d2.block k (by simp;omega) B0 B0).trans (Below.heap_alloc _ _ _ k2);have Hq:(w2.alloc (.cells #[u0,u1,u2,u3,u4,u5] 96)).drew.ownsRow W.heap.size 96 6 (.slice va vn vc) xs.length us.flatten:=row_keep DC.own (fun k k1 k2 _=>(Below.heap_alloc w2 _ _ B0).trans (Im k k1 k2));have Db:∀j u,[u0,u1,u2,u3,u4,u5][j]?=some u->(w2.alloc (.cells #[u0,u1,u2,u3,u4,u5] 96)).drew.cell? ((⟨w2.heap.size,0,none⟩:Addr).add j)=some u:=cells_new w2 [u0,u1,u2,u3,u4,u5] 96;have CU:∀k,k<W.heap.size->some k≠(Value.slice va vn vc).ownBlock:=fun k k1 e=>by have:=(row_own DC.own e).1;omega
     have Hh : (w2.alloc (.cells #[u0,u1,u2,u3,u4,u5] 96)).drew.heap[b]?=some (.cells (cs.setIfInBounds off (.slice va vn vc)) T (0,0)):=(Below.heap_alloc w2 _ _ B0).trans NC;have c3:(w2.alloc (.cells #[u0,u1,u2,u3,u4,u5] 96)).drew.cell? ⟨b,off,none⟩=some (.slice va vn vc):=(Lib.cell_of_heap Hh off).trans (by rw[Array.getElem?_setIfInBounds,if_pos rfl,if_pos Gn])
     go_region_law (refine step_append_own rfl (.tmp 38) (.tmp 40) 30 rfl W.heap.size 96 i0 (.agg #[zI,zT,zI,zI,zI,zI]) 6 56 Tryz.underlying30 hi T6 bW bX rfl aa2 (.slice va vn vc) xs.length us.flatten (by simp[Act.eval]) Hq ⟨w2.heap.size,0,none⟩ 1 1 [u0,u1,u2,u3,u4,u5] (by simp[Act.eval]) rfl Db Ho (by unfold maxLen;omega) B0 (by show _<=(w2.alloc _).heap.size;simp;omega) ?_;intro v' w3 Hp Es Pl JZ;obtain⟨wa,wn,wc,rfl⟩:=JZ;have Kz:w3.heap[b]?=some (.cells (cs.setIfInBounds off (.slice va vn vc)) T (0,0)):=(Es.block b (by show b<(w2.alloc _).heap.size;simp;omega) (CU b BW)).trans Hh;have f3:=Lib.frozen_of_heap Kz off;have c4:w3.cell? ⟨b,off,none⟩=some (.slice va vn vc):=(Lib.cell_of_heap Kz off).trans (by rw[Array.getElem?_setIfInBounds,if_pos rfl,if_pos Gn]))
     all_goals have ch:=chain (v:=Value.slice wa wn wc) (off:=off) hw d2 Es CU BW V9 G7
     all_goals have V8:=set_twice (v':=.slice wa wn wc) Kz
     all_goals have Hi:=ch.hR.trans hR2
     all_goals have UW:=h.step Hi ch.rb Jd IK (rdNf_ok LP)
     all_goals have c5:(w3.setCell ⟨b,off,none⟩ (.slice wa wn wc)).cell? ⟨D,0,none⟩=some (pA R 0):=Lib.cell_of_heap UW.hD 0
     all_goals have Hr:=DC.push (v':=.slice wa wn wc) (w4:=w3.setCell ⟨b,off,none⟩ (.slice wa wn wc)) (wa:=wr.alloc (.cells #[zI,zT,zI,zI,zI,zI] 96)) aa0 he rfl Im d2.size ch.old (row_keep Hp (fun k k1 _ _=>Below.heap_setCell _ _ _ _ (show k≠b by omega))) (fun g e=>Pl.elim (fun z=>.inl (e.trans z)) (fun z=>.inr (by rw[z]at e;cases e;show _<=(w2.alloc _).heap.size;simp))) ch.z4 zw
     all_goals (rw[hE]at Hi)
     all_goals go_wp2_with (go_at_call 193;(refine(yo_error R _ _ s _ Hi).mono ?_;rintro x w' ⟨rfl,rfl⟩))
     all_goals (rw[<-hE]at Hi)
     all_goals (try go_roundw)
     all_goals first
      |exact⟨k+1,(rdNf s most q').2,xs++[(rdNf s most q').1],.slice wa wn wc,_,us++[[u0,u1,u2,u3,u4,u5]],by go_num,JE,by simp[Wh],by rw[<-hl,rLoop_next JE hE],rdNf_ok LP,Hi,V8,ch.rb,Hr⟩
      |(show _-_<_-_;simp only[intOf];omega)
    .go_wp2_with (go_at_call 128;(refine(yq_inf R D wr.heap.size 0 96 most s q' _ #[zI,zT,zI,zI,zI,zI] (QN.alloc _) B0 B0 (by have:=BW;omega) (new_heap _ _) (fun j z e=>by rw[Nat.zero_add,<-Array.getElem?_toList];exact e) GF).mono ?_;rintro x w2 ⟨rfl,vs,S2,⟨hR2,hX2,d2⟩,he⟩;obtain⟨u0,u1,u2,u3,u4,u5,rfl⟩:=len6 he.len;have HB:w2.heap[wr.heap.size]?=some (.cells #[u0,u1,u2,u3,u4,u5] 96 (0,0)):=hX2;have NC:=(d2.block b (by simp;omega) G7 B0).trans ((Below.heap_alloc _ _ _ LI).trans MP);have x0:w2.drew.cell? ⟨wr.heap.size,0,none⟩=some u0:=Lib.cell_of_heap (w:=w2.drew) HB 0;have x1:w2.drew.cell? ⟨wr.heap.size,1,none⟩=some u1:=Lib.cell_of_heap (w:=w2.drew) HB 1;have x2:w2.drew.cell? ⟨wr.heap.size,2,none⟩=some u2:=Lib.cell_of_heap (w:=w2.drew) HB 2;have x3:w2.drew.cell? ⟨wr.heap.size,3,none⟩=some u3:=Lib.cell_of_heap (w:=w2.drew) HB 3;have x4:w2.drew.cell? ⟨wr.heap.size,4,none⟩=some u4:=Lib.cell_of_heap (w:=w2.drew) HB 4;have x5:w2.drew.cell? ⟨wr.heap.size,5,none⟩=some u5:=Lib.cell_of_heap (w:=w2.drew) HB 5;have c2:w2.drew.cell? ⟨b,off,none⟩=some (.slice va vn vc):=(Lib.cell_of_heap (w:=w2.drew) NC off).trans (by rw[Array.getElem?_setIfInBounds,if_pos rfl,if_pos Gn])))
     have V9:=h.toROk.lt;have zw:=hw.size;have oh:=(Array.getElem?_eq_some_iff.1 HB).1;have DY:=he.rep;have Ho:∀u∈[u0,u1,u2,u3,u4,u5],u.oneCell'=true:=fun u hu=>by
      obtain⟨j,hj⟩:=List.mem_iff_getElem?.1 hu
      match j,hj with
      |0,e=>exact(DY 0 _ u rfl e).2
      |1,e=>exact(DY 1 _ u rfl e).2
      |2,e=>exact(DY 2 _ u rfl e).2
      |3,e=>exact(DY 3 _ u rfl e).2
      |4,e=>exact(DY 4 _ u rfl e).2
      |5,e=>exact(DY 5 _ u rfl e).2
     have hcl:xs.length+1<=1000000:=by have:=rCnt_le (s:=s) (most:=most) (q:=q);omega
     have Im:∀k,W.heap.size<=k->k<wr.heap.size->w2.heap[k]?=wr.heap[k]?:=fun k k1 k2=>(d2.block k (by simp;omega) B0 B0).trans (Below.heap_alloc _ _ _ k2);have Hq:(w2.alloc (.cells #[u0,u1,u2,u3,u4,u5] 96)).drew.ownsRow W.heap.size 96 6 (.slice va vn vc) xs.length us.flatten:=row_keep DC.own (fun k k1 k2 _=>(Below.heap_alloc w2 _ _ B0).trans (Im k k1 k2));have Db:∀j u,[u0,u1,u2,u3,u4,u5][j]?=some u->(w2.alloc (.cells #[u0,u1,u2,u3,u4,u5] 96)).drew.cell? ((⟨w2.heap.size,0,none⟩:Addr).add j)=some u:=cells_new w2 [u0,u1,u2,u3,u4,u5] 96;have CU:∀k,k<W.heap.size->some k≠(Value.slice va vn vc).ownBlock:=fun k k1 e=>by have:=(row_own DC.own e).1;omega
     have Hh : (w2.alloc (.cells #[u0,u1,u2,u3,u4,u5] 96)).drew.heap[b]?=some (.cells (cs.setIfInBounds off (.slice va vn vc)) T (0,0)):=(Below.heap_alloc w2 _ _ B0).trans NC;have c3:(w2.alloc (.cells #[u0,u1,u2,u3,u4,u5] 96)).drew.cell? ⟨b,off,none⟩=some (.slice va vn vc):=(Lib.cell_of_heap Hh off).trans (by rw[Array.getElem?_setIfInBounds,if_pos rfl,if_pos Gn])
     go_region_law (refine step_append_own rfl (.tmp 38) (.tmp 40) 30 rfl W.heap.size 96 i0 (.agg #[zI,zT,zI,zI,zI,zI]) 6 56 Tryz.underlying30 hi T6 bW bX rfl aa2 (.slice va vn vc) xs.length us.flatten (by simp[Act.eval]) Hq ⟨w2.heap.size,0,none⟩ 1 1 [u0,u1,u2,u3,u4,u5] (by simp[Act.eval]) rfl Db Ho (by unfold maxLen;omega) B0 (by show _<=(w2.alloc _).heap.size;simp;omega) ?_;intro v' w3 Hp Es Pl JZ;obtain⟨wa,wn,wc,rfl⟩:=JZ;have Kz:w3.heap[b]?=some (.cells (cs.setIfInBounds off (.slice va vn vc)) T (0,0)):=(Es.block b (by show b<(w2.alloc _).heap.size;simp;omega) (CU b BW)).trans Hh;have f3:=Lib.frozen_of_heap Kz off;have c4:w3.cell? ⟨b,off,none⟩=some (.slice va vn vc):=(Lib.cell_of_heap Kz off).trans (by rw[Array.getElem?_setIfInBounds,if_pos rfl,if_pos Gn]))
     all_goals have ch:=chain (v:=Value.slice wa wn wc) (off:=off) hw d2 Es CU BW V9 G7
     all_goals have V8:=set_twice (v':=.slice wa wn wc) Kz
     all_goals have Hi:=ch.hR.trans hR2
     all_goals have UW:=h.step Hi ch.rb Jd IK (rdNf_ok LP)
     all_goals have c5:(w3.setCell ⟨b,off,none⟩ (.slice wa wn wc)).cell? ⟨D,0,none⟩=some (pA R 0):=Lib.cell_of_heap UW.hD 0
     all_goals have Hr:=DC.push (v':=.slice wa wn wc) (w4:=w3.setCell ⟨b,off,none⟩ (.slice wa wn wc)) (wa:=wr.alloc (.cells #[zI,zT,zI,zI,zI,zI] 96)) aa0 he rfl Im d2.size ch.old (row_keep Hp (fun k k1 _ _=>Below.heap_setCell _ _ _ _ (show k≠b by omega))) (fun g e=>Pl.elim (fun z=>.inl (e.trans z)) (fun z=>.inr (by rw[z]at e;cases e;show _<=(w2.alloc _).heap.size;simp))) ch.z4 zw
     all_goals (rw[hE]at Hi)
     all_goals go_wp2_with (go_at_call 193;(refine(yo_error R _ _ s _ Hi).mono ?_;rintro x w' ⟨rfl,rfl⟩))
     all_goals (rw[<-hE]at Hi)
     all_goals (have Hm:rList rdNf s most q=(xs++[(rdNf s most q').1],(rdNf s most q').2):=by rw[<-hl,rLoop_stop JE hE])
     all_goals first
      |exact bodyPost_ret (results_none rfl _ _ _) rfl ⟨rfl,.slice wa wn wc,_,_,⟨by rw[Hm];exact Hi,V8,ch.rb⟩,by rw[Hm];exact Hr⟩
      |trace_state
   .obtain rfl:k=(rCnt s most q).1:=B0
    have Hm:rList rdNf s most q=(xs,q'):=by rw[<-hl,Nat.sub_self,rLoop]
    go_wp2
    all_goals first
     |exact bodyPost_ret (results_none rfl _ _ _) rfl ⟨rfl,v,_,_,⟨by rw[Hm];exact XI,MP,hw⟩,by rw[Hm];exact DC⟩
     |trace_state
set_option maxRecDepth 100000 in
set_option maxHeartbeats 4000000 in
theorem yr_list129:RF 129 130 92 3 AJ rdSk:=by
 intro R D b off T most s q W cs h G7 Jd IK hB hz GF;have BW:b<W.heap.size:=(Array.getElem?_eq_some_iff.1 hB).1;have Gn:off<cs.size:=(Array.getElem?_eq_some_iff.1 hz).1;obtain⟨i0,hi,T6,bW,bX⟩:=info_parts (P:=Tryz.prog) (e:=92) (z:=.agg #[zT,zI,zI]) (size:=3) (bytes:=32) aa3;have n1:=yp_cn ⟨D,0,none⟩;have m1:=yp_cm ⟨D,0,none⟩;have ta:=yp_ta ⟨D,0,none⟩;have tb:=yp_tb ⟨D,0,none⟩;have c0:W.drew.cell? ⟨b,off,none⟩=some (.slice none 0 0):=(Lib.cell_of_heap (w:=W.drew) hB off).trans hz;have xZ:∀args w,(callFunc 130 args).run Tryz.prog w=.ok (.enter 130 args) w:=enters_of Tryz.func130 aa3 rfl
 go_enter Tryz.func129,Tryz.ntmps129
 go_wp2
 go_region_with (go_at_call 440;(refine(yo_cnt R D most _ s q _ ?_).mono ?_;exact h.drew;rintro x w1 ⟨rfl,hR1,c1⟩))
 all_goals (have d1:WrB W.heap.size R W w1:=c1.undrew)
 all_goals (have V7:=(d1.block b BW G7).trans hB)
 all_goals (have f1:=Lib.frozen_of_heap V7 off)
 all_goals (have g1:w1.cell? ⟨b,off,none⟩=some (.slice none 0 0):=(Lib.cell_of_heap V7 off).trans hz)
 all_goals
  go_wp2
  go_loopw [30] (fun i wr=>∃(k:Nat) (q' : RS) (xs:List Sk) (v:Value) (S:Nat->Nat->Prop) (us:List (List Value)),i=.int .i64 k/\k<=(rCnt s most q).1/\xs.length=k/\rLoop (rdSk s most) ((rCnt s most q).1-k) q' xs=rList rdSk s most q/\QOk s q'/\wr.heap[R]?=some (rdO s q'.1 q'.2)/\wr.heap[b]?=some (.cells (cs.setIfInBounds off v) T (0,0))/\RB R b W wr/\LRow W.heap.size 92 3 AJ S wr v xs us) (fun i _=>(rCnt s most q).1-(intOf i).toNat)
  case atStart=>exact⟨0,(rCnt s most q).2,[],.slice none 0 0,fun _ _=>False,[],rfl,Nat.zero_le _,rfl,rfl,rCnt_ok h.qok,(Below.heap_setCell _ _ _ _ (show R≠b from G7.symm)).trans hR1,by show(w1.heap.modify b _)[b]?=_;rw[Array.getElem?_modify,if_pos rfl,V7];rfl,⟨d1.os,d1.tape,d1.output,by simp[World.setCell];exact d1.size,fun k k1 k2 k3=>(Below.heap_setCell _ _ _ _ k3).trans (d1.block k k1 k2)⟩,⟨rfl,.inl Zr⟩,rfl,fun _ _ e=>e.elim,fun i x u e _=>by simp at e⟩
  case round=>
   obtain⟨k,q',xs,v,S,us,rfl,hk,Wh,hl,LP,XI,MP,hw,DC⟩:=hrel;rcases Nat.lt_or_ge k (rCnt s most q).1 with JE | WT
   .have QN:=h.step XI hw Jd IK LP;have LI:=(Array.getElem?_eq_some_iff.1 MP).1;have ml:=QN.toROk.lt;have mg:=(Array.getElem?_eq_some_iff.1 QN.hD).1;obtain⟨va,vn,vc,rfl⟩:∃q k c,v=.slice q k c:=by rcases DC.own.2 with ⟨e,_⟩ | ⟨g,cap,Dn,e,_⟩<;>exact⟨_,_,_,e⟩
    rcases(rdSk_ok (most:=most) LP).2 with hE | hE
    .go_wp2_with (go_at_call 130;(refine(yq_skip R D wr.heap.size 0 92 most s q' _ #[zT,zI,zI] (QN.alloc _) B0 B0 (by have:=BW;omega) (new_heap _ _) (fun j z e=>by rw[Nat.zero_add,<-Array.getElem?_toList];exact e) GF).mono ?_;rintro x w2 ⟨rfl,vs,S2,⟨hR2,hX2,d2⟩,he⟩;obtain⟨u0,u1,u2,rfl⟩:=len3 he.len;have HB:w2.heap[wr.heap.size]?=some (.cells #[u0,u1,u2] 92 (0,0)):=hX2;have NC:=(d2.block b (by simp;omega) G7 B0).trans ((Below.heap_alloc _ _ _ LI).trans MP);have x0:w2.drew.cell? ⟨wr.heap.size,0,none⟩=some u0:=Lib.cell_of_heap (w:=w2.drew) HB 0;have x1:w2.drew.cell? ⟨wr.heap.size,1,none⟩=some u1:=Lib.cell_of_heap (w:=w2.drew) HB 1;have x2:w2.drew.cell? ⟨wr.heap.size,2,none⟩=some u2:=Lib.cell_of_heap (w:=w2.drew) HB 2;have c2:w2.drew.cell? ⟨b,off,none⟩=some (.slice va vn vc):=(Lib.cell_of_heap (w:=w2.drew) NC off).trans (by rw[Array.getElem?_setIfInBounds,if_pos rfl,if_pos Gn])))
     have V9:=h.toROk.lt;have zw:=hw.size;have oh:=(Array.getElem?_eq_some_iff.1 HB).1;have DY:=he.rep;have Ho:∀u∈[u0,u1,u2],u.oneCell'=true:=fun u hu=>by
      obtain⟨j,hj⟩:=List.mem_iff_getElem?.1 hu
      match j,hj with
      |0,e=>exact(DY 0 _ u rfl e).2
      |1,e=>exact(DY 1 _ u rfl e).2
      |2,e=>exact(DY 2 _ u rfl e).2
     have hcl:xs.length+1<=1000000:=by have:=rCnt_le (s:=s) (most:=most) (q:=q);omega
     have Im:∀k,W.heap.size<=k->k<wr.heap.size->w2.heap[k]?=wr.heap[k]?:=fun k k1 k2=>(d2.block k (by simp;omega) B0 B0).trans (Below.heap_alloc _ _ _ k2);have Hq:(w2.alloc (.cells #[u0,u1,u2] 92)).drew.ownsRow W.heap.size 92 3 (.slice va vn vc) xs.length us.flatten:=row_keep DC.own (fun k k1 k2 _=>(Below.heap_alloc w2 _ _ B0).trans (Im k k1 k2));have Db:∀j u,[u0,u1,u2][j]?=some u->(w2.alloc (.cells #[u0,u1,u2] 92)).drew.cell? ((⟨w2.heap.size,0,none⟩:Addr).add j)=some u:=cells_new w2 [u0,u1,u2] 92;have CU:∀k,k<W.heap.size->some k≠(Value.slice va vn vc).ownBlock:=fun k k1 e=>by have:=(row_own DC.own e).1;omega
     have Hh : (w2.alloc (.cells #[u0,u1,u2] 92)).drew.heap[b]?=some (.cells (cs.setIfInBounds off (.slice va vn vc)) T (0,0)):=(Below.heap_alloc w2 _ _ B0).trans NC;have c3:(w2.alloc (.cells #[u0,u1,u2] 92)).drew.cell? ⟨b,off,none⟩=some (.slice va vn vc):=(Lib.cell_of_heap Hh off).trans (by rw[Array.getElem?_setIfInBounds,if_pos rfl,if_pos Gn])
     go_region_law (refine step_append_own rfl (.tmp 38) (.tmp 40) 31 rfl W.heap.size 92 i0 (.agg #[zT,zI,zI]) 3 32 Tryz.underlying31 hi T6 bW bX rfl aa2 (.slice va vn vc) xs.length us.flatten (by simp[Act.eval]) Hq ⟨w2.heap.size,0,none⟩ 1 1 [u0,u1,u2] (by simp[Act.eval]) rfl Db Ho (by unfold maxLen;omega) B0 (by show _<=(w2.alloc _).heap.size;simp;omega) ?_;intro v' w3 Hp Es Pl JZ;obtain⟨wa,wn,wc,rfl⟩:=JZ;have Kz:w3.heap[b]?=some (.cells (cs.setIfInBounds off (.slice va vn vc)) T (0,0)):=(Es.block b (by show b<(w2.alloc _).heap.size;simp;omega) (CU b BW)).trans Hh;have f3:=Lib.frozen_of_heap Kz off;have c4:w3.cell? ⟨b,off,none⟩=some (.slice va vn vc):=(Lib.cell_of_heap Kz off).trans (by rw[Array.getElem?_setIfInBounds,if_pos rfl,if_pos Gn]))
     all_goals have ch:=chain (v:=Value.slice wa wn wc) (off:=off) hw d2 Es CU BW V9 G7
     all_goals have V8:=set_twice (v':=.slice wa wn wc) Kz
     all_goals have Hi:=ch.hR.trans hR2
     all_goals have UW:=h.step Hi ch.rb Jd IK (rdSk_ok LP)
     all_goals have c5:(w3.setCell ⟨b,off,none⟩ (.slice wa wn wc)).cell? ⟨D,0,none⟩=some (pA R 0):=Lib.cell_of_heap UW.hD 0
     all_goals have Hr:=DC.push (v':=.slice wa wn wc) (w4:=w3.setCell ⟨b,off,none⟩ (.slice wa wn wc)) (wa:=wr.alloc (.cells #[zT,zI,zI] 92)) aa0 he rfl Im d2.size ch.old (row_keep Hp (fun k k1 _ _=>Below.heap_setCell _ _ _ _ (show k≠b by omega))) (fun g e=>Pl.elim (fun z=>.inl (e.trans z)) (fun z=>.inr (by rw[z]at e;cases e;show _<=(w2.alloc _).heap.size;simp))) ch.z4 zw
     all_goals (rw[hE]at Hi)
     all_goals go_wp2_with (go_at_call 193;(refine(yo_error R _ _ s _ Hi).mono ?_;rintro x w' ⟨rfl,rfl⟩))
     all_goals (rw[<-hE]at Hi)
     all_goals (try go_roundw)
     all_goals first
      |exact⟨k+1,(rdSk s most q').2,xs++[(rdSk s most q').1],.slice wa wn wc,_,us++[[u0,u1,u2]],by go_num,JE,by simp[Wh],by rw[<-hl,rLoop_next JE hE],rdSk_ok LP,Hi,V8,ch.rb,Hr⟩
      |(show _-_<_-_;simp only[intOf];omega)
    .go_wp2_with (go_at_call 130;(refine(yq_skip R D wr.heap.size 0 92 most s q' _ #[zT,zI,zI] (QN.alloc _) B0 B0 (by have:=BW;omega) (new_heap _ _) (fun j z e=>by rw[Nat.zero_add,<-Array.getElem?_toList];exact e) GF).mono ?_;rintro x w2 ⟨rfl,vs,S2,⟨hR2,hX2,d2⟩,he⟩;obtain⟨u0,u1,u2,rfl⟩:=len3 he.len;have HB:w2.heap[wr.heap.size]?=some (.cells #[u0,u1,u2] 92 (0,0)):=hX2;have NC:=(d2.block b (by simp;omega) G7 B0).trans ((Below.heap_alloc _ _ _ LI).trans MP);have x0:w2.drew.cell? ⟨wr.heap.size,0,none⟩=some u0:=Lib.cell_of_heap (w:=w2.drew) HB 0;have x1:w2.drew.cell? ⟨wr.heap.size,1,none⟩=some u1:=Lib.cell_of_heap (w:=w2.drew) HB 1;have x2:w2.drew.cell? ⟨wr.heap.size,2,none⟩=some u2:=Lib.cell_of_heap (w:=w2.drew) HB 2;have c2:w2.drew.cell? ⟨b,off,none⟩=some (.slice va vn vc):=(Lib.cell_of_heap (w:=w2.drew) NC off).trans (by rw[Array.getElem?_setIfInBounds,if_pos rfl,if_pos Gn])))
     have V9:=h.toROk.lt;have zw:=hw.size;have oh:=(Array.getElem?_eq_some_iff.1 HB).1;have DY:=he.rep;have Ho:∀u∈[u0,u1,u2],u.oneCell'=true:=fun u hu=>by
      obtain⟨j,hj⟩:=List.mem_iff_getElem?.1 hu
      match j,hj with
      |0,e=>exact(DY 0 _ u rfl e).2
      |1,e=>exact(DY 1 _ u rfl e).2
      |2,e=>exact(DY 2 _ u rfl e).2
     have hcl:xs.length+1<=1000000:=by have:=rCnt_le (s:=s) (most:=most) (q:=q);omega
     have Im:∀k,W.heap.size<=k->k<wr.heap.size->w2.heap[k]?=wr.heap[k]?:=fun k k1 k2=>(d2.block k (by simp;omega) B0 B0).trans (Below.heap_alloc _ _ _ k2);have Hq:(w2.alloc (.cells #[u0,u1,u2] 92)).drew.ownsRow W.heap.size 92 3 (.slice va vn vc) xs.length us.flatten:=row_keep DC.own (fun k k1 k2 _=>(Below.heap_alloc w2 _ _ B0).trans (Im k k1 k2));have Db:∀j u,[u0,u1,u2][j]?=some u->(w2.alloc (.cells #[u0,u1,u2] 92)).drew.cell? ((⟨w2.heap.size,0,none⟩:Addr).add j)=some u:=cells_new w2 [u0,u1,u2] 92;have CU:∀k,k<W.heap.size->some k≠(Value.slice va vn vc).ownBlock:=fun k k1 e=>by have:=(row_own DC.own e).1;omega
     have Hh : (w2.alloc (.cells #[u0,u1,u2] 92)).drew.heap[b]?=some (.cells (cs.setIfInBounds off (.slice va vn vc)) T (0,0)):=(Below.heap_alloc w2 _ _ B0).trans NC;have c3:(w2.alloc (.cells #[u0,u1,u2] 92)).drew.cell? ⟨b,off,none⟩=some (.slice va vn vc):=(Lib.cell_of_heap Hh off).trans (by rw[Array.getElem?_setIfInBounds,if_pos rfl,if_pos Gn])
     go_region_law (refine step_append_own rfl (.tmp 38) (.tmp 40) 31 rfl W.heap.size 92 i0 (.agg #[zT,zI,zI]) 3 32 Tryz.underlying31 hi T6 bW bX rfl aa2 (.slice va vn vc) xs.length us.flatten (by simp[Act.eval]) Hq ⟨w2.heap.size,0,none⟩ 1 1 [u0,u1,u2] (by simp[Act.eval]) rfl Db Ho (by unfold maxLen;omega) B0 (by show _<=(w2.alloc _).heap.size;simp;omega) ?_;intro v' w3 Hp Es Pl JZ;obtain⟨wa,wn,wc,rfl⟩:=JZ;have Kz:w3.heap[b]?=some (.cells (cs.setIfInBounds off (.slice va vn vc)) T (0,0)):=(Es.block b (by show b<(w2.alloc _).heap.size;simp;omega) (CU b BW)).trans Hh;have f3:=Lib.frozen_of_heap Kz off;have c4:w3.cell? ⟨b,off,none⟩=some (.slice va vn vc):=(Lib.cell_of_heap Kz off).trans (by rw[Array.getElem?_setIfInBounds,if_pos rfl,if_pos Gn]))
     all_goals have ch:=chain (v:=Value.slice wa wn wc) (off:=off) hw d2 Es CU BW V9 G7
     all_goals have V8:=set_twice (v':=.slice wa wn wc) Kz
     all_goals have Hi:=ch.hR.trans hR2
     all_goals have UW:=h.step Hi ch.rb Jd IK (rdSk_ok LP)
     all_goals have c5:(w3.setCell ⟨b,off,none⟩ (.slice wa wn wc)).cell? ⟨D,0,none⟩=some (pA R 0):=Lib.cell_of_heap UW.hD 0
     all_goals have Hr:=DC.push (v':=.slice wa wn wc) (w4:=w3.setCell ⟨b,off,none⟩ (.slice wa wn wc)) (wa:=wr.alloc (.cells #[zT,zI,zI] 92)) aa0 he rfl Im d2.size ch.old (row_keep Hp (fun k k1 _ _=>Below.heap_setCell _ _ _ _ (show k≠b by omega))) (fun g e=>Pl.elim (fun z=>.inl (e.trans z)) (fun z=>.inr (by rw[z]at e;cases e;show _<=(w2.alloc _).heap.size;simp))) ch.z4 zw
     all_goals (rw[hE]at Hi)
     all_goals go_wp2_with (go_at_call 193;(refine(yo_error R _ _ s _ Hi).mono ?_;rintro x w' ⟨rfl,rfl⟩))
     all_goals (rw[<-hE]at Hi)
     all_goals (have Hm:rList rdSk s most q=(xs++[(rdSk s most q').1],(rdSk s most q').2):=by rw[<-hl,rLoop_stop JE hE])
     all_goals first
      |exact bodyPost_ret (results_none rfl _ _ _) rfl ⟨rfl,.slice wa wn wc,_,_,⟨by rw[Hm];exact Hi,V8,ch.rb⟩,by rw[Hm];exact Hr⟩
      |trace_state
   .obtain rfl:k=(rCnt s most q).1:=B0
    have Hm:rList rdSk s most q=(xs,q'):=by rw[<-hl,Nat.sub_self,rLoop]
    go_wp2
    all_goals first
     |exact bodyPost_ret (results_none rfl _ _ _) rfl ⟨rfl,v,_,_,⟨by rw[Hm];exact XI,MP,hw⟩,by rw[Hm];exact DC⟩
     |trace_state
end Go.Proofs
namespace Go.Proofs
open Go.Shelf Go.RowKit Go.Lib Go.Sort Go.Eng
def rdLk(s:ByteArray)(most:Nat)(q:RS):Lk×RS:=
 (⟨(rList rdRq s most q).1,(rList rdLo s most (rList rdRq s most q).2).1,(rList rdNf s most (rList rdLo s most (rList rdRq s most q).2).2).1,(rList rdSk s most (rList rdNf s most (rList rdLo s most (rList rdRq s most q).2).2).2).1⟩,(rList rdSk s most (rList rdNf s most (rList rdLo s most (rList rdRq s most q).2).2).2).2)
theorem rdLk_ok{s:ByteArray}{most:Nat}{q:RS}(h:QOk s q):QOk s (rdLk s most q).2:=
 rList_ok (fun _ k=>rdSk_ok k) (rList_ok (fun _ k=>rdNf_ok k) (rList_ok (fun _ k=>rdLo_ok k) (rList_ok (fun _ k=>rdRq_ok k) h)))
theorem LRow.keep{α:Type}{B E sz:Nat}{enc:α->List AV}{S:Nat->Nat->Prop}{w w' : World}{v:Value}{xs:List α}{us:List (List Value)}(h:LRow B E sz enc S w v xs us)(z:w.heap.size<=w'.heap.size)(e:∀k,B<=k->k<w.heap.size->((∃o,S k o)\/some k=v.ownBlock)->w'.heap[k]?=w.heap[k]?):LRow B E sz enc S w' v xs us:=by
 refine⟨row_keep h.own (fun k k1 k2 k3=>e k k1 k2 (.inr k3)),h.len,fun b o q=>?_,fun i x u e1 e2=>?_⟩
 .have f:=h.fresh b o q;exact⟨f.1,Nat.lt_of_lt_of_le f.2.1 z,f.2.2⟩
 .obtain⟨r1,r2⟩:=h.row i x u e1 e2;refine⟨r1,fun j av y a1 a2=>⟨(r2 j av y a1 a2).1.mono (fun b o q=>?_) (fun _ z=>z) (.refl _ _),(r2 j av y a1 a2).2⟩⟩;have f:=h.fresh b o q;have g:=e b f.1 f.2.1 (.inl ⟨o,q⟩);exact⟨q,by simp only[World.cell?,g],fun _ _ z=>g.trans z⟩
theorem LRow.later{α:Type}{B E sz R b:Nat}{enc:α->List AV}{S:Nat->Nat->Prop}{w w' : World}{v:Value}{xs:List α}{us:List (List Value)}(h:LRow B E sz enc S w v xs us)(d:RB R b w w')(hR:R<B)(hb:b<B):LRow B E sz enc S w' v xs us:=
 h.keep d.size fun k k1 k2 _=>d.block k k2 B0 B0
abbrev LRB{α:Type}(B c E sz:Nat)(enc:α->List AV)(w:World)(v:Value)(xs:List α):Prop:=∃S us,LRow B E sz enc S w v xs us/\(∀b o,S b o->b<c)/\∀g,some g=v.ownBlock->g<c
theorem LRow.lrb{α:Type}{B E sz:Nat}{enc:α->List AV}{S:Nat->Nat->Prop}{w:World}{v:Value}{xs:List α}{us:List (List Value)}(h:LRow B E sz enc S w v xs us):LRB B w.heap.size E sz enc w v xs:=⟨S,us,h,fun b o q=>(h.fresh b o q).2.1,fun _ q=>(row_own h.own q).2⟩
theorem LRB.later{α:Type}{B c E sz R b:Nat}{enc:α->List AV}{w w' : World}{v:Value}{xs:List α}(h:LRB B c E sz enc w v xs)(d:RB R b w w')(hR:R<B)(hb:b<B):LRB B c E sz enc w' v xs:=
 let ⟨S,us,h1,h2,h3⟩:=h
 ⟨S,us,h1.later d hR hb,h2,h3⟩
theorem LRB.keep{α:Type}{B c E sz:Nat}{enc:α->List AV}{w w' : World}{v:Value}{xs:List α}(h:LRB B c E sz enc w v xs)(z:w.heap.size<=w'.heap.size)(e:∀k,B<=k->k<c->k<w.heap.size->w'.heap[k]?=w.heap[k]?):LRB B c E sz enc w' v xs:=
 let ⟨S,us,h1,h2,h3⟩:=h
 ⟨S,us,h1.keep z fun k k1 k2 k3=>e k k1 (k3.elim (fun⟨o,q⟩=>h2 k o q) (h3 k)) k2,h2,h3⟩
theorem LRow.base{α:Type}{B B' E sz:Nat}{enc:α->List AV}{S:Nat->Nat->Prop}{w:World}{v:Value}{xs:List α}{us:List (List Value)}(h:LRow B E sz enc S w v xs us)(hB:B'<=B):LRow B' E sz enc S w v xs us:=
 ⟨⟨h.own.1,h.own.2.imp id fun⟨g,cap,Dn,h1,h2,h3⟩=>⟨g,cap,Dn,h1,Nat.le_trans hB h2,h3⟩⟩,h.len,fun b o q=>⟨Nat.le_trans hB (h.fresh b o q).1,(h.fresh b o q).2⟩,h.row⟩
structure LkRow(B c1 c2:Nat)(w:World)(l:Lk)(v0 v1 v2 v3:Value):Prop where
 r0:LRB B c1 68 2 Af w v0 l.roots
 r1:LRB c1 c2 53 6 Cq w v1 l.ents
 r2:LRB c2 w.heap.size 96 6 AR w v2 l.infs
 r3:LRB c2 w.heap.size 92 3 AJ w v3 l.skips
 b1:B<=c1
 b2:c1<=c2
 b3:c2<=w.heap.size
set_option maxRecDepth 100000 in
set_option maxHeartbeats 4000000 in
theorem yt_parts(R D b T most:Nat)(s:ByteArray)(q:RS)(W:World)(h:RW R D s most q W)(G7:b≠R)(Jd:b≠D)(IK:b≠0)(hB:W.heap[b]?=some (.cells #[.slice none 0 0,.slice none 0 0,.slice none 0 0,.slice none 0 0] T (0,0)))(GF:most<=1000000) :
  Calls Tryz.prog 63 #[ifR D,pA b 0] W fun x w'=>x=.returned (.tuple #[])/\∃v0 v1 v2 v3,RPost2 R b s (rdLk s most q).2 #[v0,v1,v2,v3] T W w'/\∃c1 c2,LkRow W.heap.size c1 c2 w' (rdLk s most q).1 v0 v1 v2 v3:=by
 have BW:b<W.heap.size:=(Array.getElem?_eq_some_iff.1 hB).1;have hR:=h.toROk.lt
 go_enter Tryz.func63,Tryz.ntmps63
 go_wp2_with (first
  |(go_at_call 120;go_loud (refine(yr_list120 R D b 0 T most s q _ _ h G7 Jd IK hB rfl GF).mono ?_;rintro x w1 ⟨rfl,v0,S0,us0,⟨q1,k1,d1⟩,l0⟩;have h1:=h.step q1 d1 Jd IK (rList_ok (fun _ k=>rdRq_ok k) h.qok)))
  |(go_at_call 125;go_loud (refine(yr_list125 R D b 1 T most s _ _ _ h1 G7 Jd IK k1 rfl GF).mono ?_;rintro x w2 ⟨rfl,v1,S1,us1,⟨q2,k2,d2⟩,l1⟩;have h2:=h1.step q2 d2 Jd IK (rList_ok (fun _ k=>rdLo_ok k) h1.qok)))
  |(go_at_call 127;go_loud (refine(yr_list127 R D b 2 T most s _ _ _ h2 G7 Jd IK k2 rfl GF).mono ?_;rintro x w3 ⟨rfl,v2,S2,us2,⟨q3,k3,d3⟩,l2⟩;have h3:=h2.step q3 d3 Jd IK (rList_ok (fun _ k=>rdNf_ok k) h2.qok)))
  |(go_at_call 129;go_loud (refine(yr_list129 R D b 3 T most s _ _ _ h3 G7 Jd IK k3 rfl GF).mono ?_;rintro x w4 ⟨rfl,v3,S3,us3,⟨q4,k4,d4⟩,l3⟩)))
 have z1:=d1.size;have z2:=d2.size;have z3:=d3.size;have z4:=d4.size
 refine bodyPost_end (results_none rfl _ _ _) rfl ⟨rfl,v0,v1,v2,v3,⟨q4,k4,((d1.trans d2).trans d3).trans d4⟩,w1.heap.size,w2.heap.size,
  ((l0.lrb.later d2 hR BW).later d3 hR BW).later d4 hR BW,(l1.lrb.later d3 B0 B0).later d4 B0 B0,?_,?_,z1,z2,by omega⟩
 .exact((l2.later d4 B0 B0)).lrb
 .exact(l3.base z3).lrb
end Go.Proofs
