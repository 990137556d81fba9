/- Lemmas 28. -/
import Derived.Test.YtkjhcikodmiceaaGreatDoorRA27
set_option maxHeartbeats 4000000
namespace Go.Proofs
open Go.Shelf Go.RowKit Go.Lib Go.Sort Go.Eng
def WF(f c:Nat)(cs:List AV)(bs:List UInt8):Prop:=∀(g:Gh) (A b off:Nat) (l:List UInt8) (W:World),WOk A l W->(∀b o,g.S b o->b<W.heap.size/\b≠A)->A3 g W DR (.cptr cs) (pA b off)->(l++bs).length<9223372036854775808 ->
 Calls Tryz.prog f #[ifW A,pA b off,.func (.func c) #[] #[]] W (WPost A (l++bs) W)
theorem slice_inv{α:Type}{enc:α->List AV}{xs:List α}{sz:Nat}{g:Gh}{W:World}{v:Value}(hz:∀x,(enc x).length=sz)(h:A3 g W DR (.slice .none (xs.map enc)) v) :
  ∃a cap,v=.slice a xs.length cap/\∀i (hi:i<xs.length),∃b o,a=some ⟨b,o,none⟩/\A3 g W DR (.cptr (enc xs[i])) (pA b (o+i*sz)):=by
 generalize he:xs.map enc=es at h;have CF:es.length=xs.length:=by rw[<-he,List.length_map]
 cases h with
 |snil _ a cap=>
  have:xs=[]:=by simpa using he
  subst this;exact⟨a,cap,rfl,fun i hi=>absurd hi (Nat.not_lt_zero _)⟩
 |slice _ _ b o GS cap val hc hl Dg DH=>
  refine⟨_,cap,by rw[<-CF],fun i hi=>⟨b,o,rfl,?_⟩⟩;have e:es[i]?=some (enc xs[i]):=by rw[<-he,List.getElem?_map,List.getElem?_eq_getElem hi];rfl
  have e2:GS=sz:=(hl i _ e).symm.trans (hz _);subst e2;exact .cptr _ _ b _ (val i) (fun j av hj=>Dg i _ j av e hj) (fun j av hj=>DH i _ j av e hj)
theorem keeps_wr{g:Gh}{A:Nat}{W w' : World}(hg:∀b o,g.S b o->b<W.heap.size/\b≠A)(h:WrB W.heap.size A W w'):D2 g W g w':=fun b o hs=>
 have e:=h.block b (hg b o hs).1 (hg b o hs).2
 ⟨hs,by simp only[World.cell?,e],fun _ _ q=>e.trans q⟩
theorem rep_wr{g:Gh}{A:Nat}{W w' : World}(hg:∀b o,g.S b o->b<W.heap.size/\b≠A)(h:WrB W.heap.size A W w'){av:AV}{x:Value}(r:A3 g W DR av x):A3 g w' DR av x:=
 r.mono (keeps_wr hg h) (fun _ q=>q) (.refl g _)
theorem flat_next{α:Type}{f:α->List UInt8}{xs:List α}{k:Nat}(h:k<xs.length):(xs.take k).flatMap f++f xs[k]=(xs.take (k+1)).flatMap f:=by
 rw[List.take_add_one,List.getElem?_eq_getElem h,List.flatMap_append];simp
theorem flat_le{α:Type}(f:α->List UInt8)(xs:List α)(k:Nat):((xs.take k).flatMap f).length<=(xs.flatMap f).length:=by
 conv=>rhs;rw[<-List.take_append_drop k xs]
 rw[List.flatMap_append,List.length_append];omega
set_option maxRecDepth 100000 in
theorem yg_list122(xs:List (Int×Int))(hx:∀x∈xs,WC 123 (Ap x) (spL x))(hn:xs.length<=1000000):WF 122 123 [sl Ap xs] (liL spL xs):=by
 intro g A b off l W h hg hr hs;obtain⟨hS,v,hv,mI⟩:=rcells hr 0 _ rfl;rw[Nat.add_zero]at hv hS;obtain⟨a,cap,rfl,WS⟩:=slice_inv (sz:=2) (fun _=>rfl) mI;have hb:=hg _ _ hS;have n1:=ye_n ⟨A,0,none⟩;have m1:=ye_m ⟨A,0,none⟩;have t1:=ye_t ⟨A,0,none⟩;have sP:∀args w,(callFunc 123 args).run Tryz.prog w=.ok (.enter 123 args) w:=enters_of Tryz.func123 aa3 rfl;unfold liL at hs⊢;simp only[List.length_append]at hs
 go_enter Tryz.func122,Tryz.ntmps122
 go_wp2
 go_region_with (go_at_call 434;(refine(yg_count A xs.length l _ ?_ B0 (by rw[List.length_append];omega)).mono ?_;exact h.drew;rintro e w1 ⟨rfl,LG,c1⟩))
 all_goals have d1:=c1.undrew
 all_goals have h1:=h.step LG d1
 all_goals have q1:=d1.cell hb.2 hv
 all_goals
  go_wp2
  go_loopw [56] (fun i wr=>∃k:Nat,k<=xs.length/\i=.int .i64 k/\wr.heap[A]?=some (wrO (bB (l++uL xs.length++(xs.take k).flatMap spL)))/\WrB W.heap.size A W wr) (fun i _=>xs.length-(intOf i).toNat)
  case atStart=>exact⟨0,Nat.zero_le _,rfl,by rw[List.take_zero,List.flatMap_nil,List.append_nil];exact LG,d1⟩
  case round=>
   obtain⟨k,hk,rfl,IJ,hw⟩:=hrel;rcases Nat.lt_or_ge k xs.length with BW | WT
   .obtain⟨b',o',rfl,XT⟩:=WS k BW;have c2:=hw.cell hb.2 hv;have fl:=flat_le spL xs (k+1);have fn:=flat_next (f:=spL) BW;have fe:=congrArg List.length fn;rw[List.length_append]at fe
    go_wp2_with (first | (go_at_call 123;(refine(hx _ (List.getElem_mem BW) g A b' (o'+k*2) (l++uL xs.length++(xs.take k).flatMap spL) _ ?_ ?_ ?_ ?_).mono ?_;exact h.step IJ hw;exact fun b o q=>⟨Nat.lt_of_lt_of_le (hg b o q).1 hw.size,(hg b o q).2⟩;exact rep_wr hg hw XT;(simp only[List.length_append];omega);rintro e w' ⟨rfl,Ki,OD⟩)) | (go_at_fn 123;(refine(hx _ (List.getElem_mem BW) g A b' (o'+k*2) (l++uL xs.length++(xs.take k).flatMap spL) _ ?_ ?_ ?_ ?_).mono ?_;exact h.step IJ hw;exact fun b o q=>⟨Nat.lt_of_lt_of_le (hg b o q).1 hw.size,(hg b o q).2⟩;exact rep_wr hg hw XT;(simp only[List.length_append];omega);rintro e w' ⟨rfl,Ki,OD⟩)))
    go_roundw
    case rel=>exact⟨k+1,BW,by go_num,by rw[<-fn];simpa only[List.append_assoc]using Ki,hw.trans OD⟩
    case measure=>simp[intOf];omega
   .obtain rfl:k=xs.length:=B0
    go_wp2
    exact bodyPost_end (results_none rfl _ _ _) rfl ⟨rfl,by rw[List.take_length]at IJ;simpa only[List.append_assoc]using IJ,hw⟩
structure RqOk(q:Rq):Prop where
 i:∀s∈q.set,IOk s.1/\IOk s.2
 n:q.set.length<=1000000
set_option maxRecDepth 100000 in
theorem yg_root(x:Rq)(hq:RqOk x):WC 121 (Af x) (rqL x):=by
 intro g A b off l W h hg hr hs;have hb:=(hg _ _ (rcells hr 0 _ rfl).1);have BW:=h.lt;unfold rqL at hs⊢;have tn:=yg_tn ⟨A,0,none⟩;have tm:=yg_tm ⟨A,0,none⟩;have p0:=rcell_v hr 0 _ rfl;have r1:A3 g W DR (.cptr [sl Ap x.set]) (pA b (off+1)):=by
  obtain⟨q1,v,q2,q3⟩:=rcells hr 1 _ rfl;cases hr with
  |cptr _ _ _ _ val hc hp=>exact .cptr _ _ b _ (fun j=>val (1+j)) (fun j av e=>by rw[Nat.add_assoc];exact hc (1+j) av (by rw[Nat.add_comm];exact e)) (fun j av e=>hp (1+j) av (by rw[Nat.add_comm];exact e))
 simp only[List.length_append]at hs;have sP:∀args w,(callFunc 123 args).run Tryz.prog w=.ok (.enter 123 args) w:=enters_of Tryz.func123 aa3 rfl
 go_enter Tryz.func121,Tryz.ntmps121
 go_wp2
 go_region_with (go_at_call 436;(refine(yg_text A b (off+0) x.path l _ ?_ ?_ (by simp only[List.length_append];omega)).mono ?_;exact h.drew;exact p0;rintro e w1 ⟨rfl,LG,c1⟩))
 all_goals (have d1:WrB W.heap.size A W w1:=c1.undrew)
 all_goals (have h1:=h.step LG d1)
 all_goals go_wp2_with (go_at_call 122;go_loud (refine(yg_list122 x.set (fun s hs=>yg_span s (hq.i s hs).1 (hq.i s hs).2) hq.n g A b (off+1) (l++tL x.path) _ ?_ ?_ ?_ ?_).mono ?_;exact h1;exact fun b o q=>⟨Nat.lt_of_lt_of_le (hg b o q).1 d1.size,(hg b o q).2⟩;exact rep_wr hg d1 r1;(simp only[List.length_append];omega);rintro e w2 ⟨rfl,Ki,c2⟩))
 all_goals exact bodyPost_end (results_none rfl _ _ _) rfl ⟨rfl,by simpa only[List.append_assoc]using Ki,d1.trans c2⟩
set_option maxRecDepth 100000 in
theorem yg_list120(xs:List Rq)(hx:∀x∈xs,WC 121 (Af x) (rqL x))(hn:xs.length<=1000000):WF 120 121 [sl Af xs] (liL rqL xs):=by
 intro g A b off l W h hg hr hs;obtain⟨hS,v,hv,mI⟩:=rcells hr 0 _ rfl;rw[Nat.add_zero]at hv hS;obtain⟨a,cap,rfl,WS⟩:=slice_inv (sz:=2) (fun _=>rfl) mI;have hb:=hg _ _ hS;have n1:=ye_n ⟨A,0,none⟩;have m1:=ye_m ⟨A,0,none⟩;have t1:=ye_t ⟨A,0,none⟩;have xW:∀args w,(callFunc 121 args).run Tryz.prog w=.ok (.enter 121 args) w:=enters_of Tryz.func121 aa3 rfl;unfold liL at hs⊢;simp only[List.length_append]at hs
 go_enter Tryz.func120,Tryz.ntmps120
 go_wp2
 go_region_with (go_at_call 434;(refine(yg_count A xs.length l _ ?_ B0 (by rw[List.length_append];omega)).mono ?_;exact h.drew;rintro e w1 ⟨rfl,LG,c1⟩))
 all_goals have d1:=c1.undrew
 all_goals have h1:=h.step LG d1
 all_goals have q1:=d1.cell hb.2 hv
 all_goals
  go_wp2
  go_loopw [56] (fun i wr=>∃k:Nat,k<=xs.length/\i=.int .i64 k/\wr.heap[A]?=some (wrO (bB (l++uL xs.length++(xs.take k).flatMap rqL)))/\WrB W.heap.size A W wr) (fun i _=>xs.length-(intOf i).toNat)
  case atStart=>exact⟨0,Nat.zero_le _,rfl,by rw[List.take_zero,List.flatMap_nil,List.append_nil];exact LG,d1⟩
  case round=>
   obtain⟨k,hk,rfl,IJ,hw⟩:=hrel;rcases Nat.lt_or_ge k xs.length with BW | WT
   .obtain⟨b',o',rfl,XT⟩:=WS k BW;have c2:=hw.cell hb.2 hv;have fl:=flat_le rqL xs (k+1);have fn:=flat_next (f:=rqL) BW;have fe:=congrArg List.length fn;rw[List.length_append]at fe
    go_wp2_with (first | (go_at_call 121;(refine(hx _ (List.getElem_mem BW) g A b' (o'+k*2) (l++uL xs.length++(xs.take k).flatMap rqL) _ ?_ ?_ ?_ ?_).mono ?_;exact h.step IJ hw;exact fun b o q=>⟨Nat.lt_of_lt_of_le (hg b o q).1 hw.size,(hg b o q).2⟩;exact rep_wr hg hw XT;(simp only[List.length_append];omega);rintro e w' ⟨rfl,Ki,OD⟩)) | (go_at_fn 121;(refine(hx _ (List.getElem_mem BW) g A b' (o'+k*2) (l++uL xs.length++(xs.take k).flatMap rqL) _ ?_ ?_ ?_ ?_).mono ?_;exact h.step IJ hw;exact fun b o q=>⟨Nat.lt_of_lt_of_le (hg b o q).1 hw.size,(hg b o q).2⟩;exact rep_wr hg hw XT;(simp only[List.length_append];omega);rintro e w' ⟨rfl,Ki,OD⟩)))
    go_roundw
    case rel=>exact⟨k+1,BW,by go_num,by rw[<-fn];simpa only[List.append_assoc]using Ki,hw.trans OD⟩
    case measure=>simp[intOf];omega
   .obtain rfl:k=xs.length:=B0
    go_wp2
    exact bodyPost_end (results_none rfl _ _ _) rfl ⟨rfl,by rw[List.take_length]at IJ;simpa only[List.append_assoc]using IJ,hw⟩
set_option maxRecDepth 100000 in
theorem yg_list125(xs:List Lo)(hx:∀x∈xs,WC 126 (Cq x) (loL x))(hn:xs.length<=1000000):WF 125 126 [sl Cq xs] (liL loL xs):=by
 intro g A b off l W h hg hr hs;obtain⟨hS,v,hv,mI⟩:=rcells hr 0 _ rfl;rw[Nat.add_zero]at hv hS;obtain⟨a,cap,rfl,WS⟩:=slice_inv (sz:=6) (fun _=>rfl) mI;have hb:=hg _ _ hS;have n1:=ye_n ⟨A,0,none⟩;have m1:=ye_m ⟨A,0,none⟩;have t1:=ye_t ⟨A,0,none⟩;have xX:∀args w,(callFunc 126 args).run Tryz.prog w=.ok (.enter 126 args) w:=enters_of Tryz.func126 aa3 rfl;unfold liL at hs⊢;simp only[List.length_append]at hs
 go_enter Tryz.func125,Tryz.ntmps125
 go_wp2
 go_region_with (go_at_call 434;(refine(yg_count A xs.length l _ ?_ B0 (by rw[List.length_append];omega)).mono ?_;exact h.drew;rintro e w1 ⟨rfl,LG,c1⟩))
 all_goals have d1:=c1.undrew
 all_goals have h1:=h.step LG d1
 all_goals have q1:=d1.cell hb.2 hv
 all_goals
  go_wp2
  go_loopw [56] (fun i wr=>∃k:Nat,k<=xs.length/\i=.int .i64 k/\wr.heap[A]?=some (wrO (bB (l++uL xs.length++(xs.take k).flatMap loL)))/\WrB W.heap.size A W wr) (fun i _=>xs.length-(intOf i).toNat)
  case atStart=>exact⟨0,Nat.zero_le _,rfl,by rw[List.take_zero,List.flatMap_nil,List.append_nil];exact LG,d1⟩
  case round=>
   obtain⟨k,hk,rfl,IJ,hw⟩:=hrel;rcases Nat.lt_or_ge k xs.length with BW | WT
   .obtain⟨b',o',rfl,XT⟩:=WS k BW;have c2:=hw.cell hb.2 hv;have fl:=flat_le loL xs (k+1);have fn:=flat_next (f:=loL) BW;have fe:=congrArg List.length fn;rw[List.length_append]at fe
    go_wp2_with (first | (go_at_call 126;(refine(hx _ (List.getElem_mem BW) g A b' (o'+k*6) (l++uL xs.length++(xs.take k).flatMap loL) _ ?_ ?_ ?_ ?_).mono ?_;exact h.step IJ hw;exact fun b o q=>⟨Nat.lt_of_lt_of_le (hg b o q).1 hw.size,(hg b o q).2⟩;exact rep_wr hg hw XT;(simp only[List.length_append];omega);rintro e w' ⟨rfl,Ki,OD⟩)) | (go_at_fn 126;(refine(hx _ (List.getElem_mem BW) g A b' (o'+k*6) (l++uL xs.length++(xs.take k).flatMap loL) _ ?_ ?_ ?_ ?_).mono ?_;exact h.step IJ hw;exact fun b o q=>⟨Nat.lt_of_lt_of_le (hg b o q).1 hw.size,(hg b o q).2⟩;exact rep_wr hg hw XT;(simp only[List.length_append];omega);rintro e w' ⟨rfl,Ki,OD⟩)))
    go_roundw
    case rel=>exact⟨k+1,BW,by go_num,by rw[<-fn];simpa only[List.append_assoc]using Ki,hw.trans OD⟩
    case measure=>simp[intOf];omega
   .obtain rfl:k=xs.length:=B0
    go_wp2
    exact bodyPost_end (results_none rfl _ _ _) rfl ⟨rfl,by rw[List.take_length]at IJ;simpa only[List.append_assoc]using IJ,hw⟩
set_option maxRecDepth 100000 in
theorem yg_list127(xs:List Nf)(hx:∀x∈xs,WC 128 (AR x) (nfL x))(hn:xs.length<=1000000):WF 127 128 [sl AR xs] (liL nfL xs):=by
 intro g A b off l W h hg hr hs;obtain⟨hS,v,hv,mI⟩:=rcells hr 0 _ rfl;rw[Nat.add_zero]at hv hS;obtain⟨a,cap,rfl,WS⟩:=slice_inv (sz:=6) (fun _=>rfl) mI;have hb:=hg _ _ hS;have n1:=ye_n ⟨A,0,none⟩;have m1:=ye_m ⟨A,0,none⟩;have t1:=ye_t ⟨A,0,none⟩;have xY:∀args w,(callFunc 128 args).run Tryz.prog w=.ok (.enter 128 args) w:=enters_of Tryz.func128 aa3 rfl;unfold liL at hs⊢;simp only[List.length_append]at hs
 go_enter Tryz.func127,Tryz.ntmps127
 go_wp2
 go_region_with (go_at_call 434;(refine(yg_count A xs.length l _ ?_ B0 (by rw[List.length_append];omega)).mono ?_;exact h.drew;rintro e w1 ⟨rfl,LG,c1⟩))
 all_goals have d1:=c1.undrew
 all_goals have h1:=h.step LG d1
 all_goals have q1:=d1.cell hb.2 hv
 all_goals
  go_wp2
  go_loopw [56] (fun i wr=>∃k:Nat,k<=xs.length/\i=.int .i64 k/\wr.heap[A]?=some (wrO (bB (l++uL xs.length++(xs.take k).flatMap nfL)))/\WrB W.heap.size A W wr) (fun i _=>xs.length-(intOf i).toNat)
  case atStart=>exact⟨0,Nat.zero_le _,rfl,by rw[List.take_zero,List.flatMap_nil,List.append_nil];exact LG,d1⟩
  case round=>
   obtain⟨k,hk,rfl,IJ,hw⟩:=hrel;rcases Nat.lt_or_ge k xs.length with BW | WT
   .obtain⟨b',o',rfl,XT⟩:=WS k BW;have c2:=hw.cell hb.2 hv;have fl:=flat_le nfL xs (k+1);have fn:=flat_next (f:=nfL) BW;have fe:=congrArg List.length fn;rw[List.length_append]at fe
    go_wp2_with (first | (go_at_call 128;(refine(hx _ (List.getElem_mem BW) g A b' (o'+k*6) (l++uL xs.length++(xs.take k).flatMap nfL) _ ?_ ?_ ?_ ?_).mono ?_;exact h.step IJ hw;exact fun b o q=>⟨Nat.lt_of_lt_of_le (hg b o q).1 hw.size,(hg b o q).2⟩;exact rep_wr hg hw XT;(simp only[List.length_append];omega);rintro e w' ⟨rfl,Ki,OD⟩)) | (go_at_fn 128;(refine(hx _ (List.getElem_mem BW) g A b' (o'+k*6) (l++uL xs.length++(xs.take k).flatMap nfL) _ ?_ ?_ ?_ ?_).mono ?_;exact h.step IJ hw;exact fun b o q=>⟨Nat.lt_of_lt_of_le (hg b o q).1 hw.size,(hg b o q).2⟩;exact rep_wr hg hw XT;(simp only[List.length_append];omega);rintro e w' ⟨rfl,Ki,OD⟩)))
    go_roundw
    case rel=>exact⟨k+1,BW,by go_num,by rw[<-fn];simpa only[List.append_assoc]using Ki,hw.trans OD⟩
    case measure=>simp[intOf];omega
   .obtain rfl:k=xs.length:=B0
    go_wp2
    exact bodyPost_end (results_none rfl _ _ _) rfl ⟨rfl,by rw[List.take_length]at IJ;simpa only[List.append_assoc]using IJ,hw⟩
set_option maxRecDepth 100000 in
theorem yg_list129(xs:List Sk)(hx:∀x∈xs,WC 130 (AJ x) (skL x))(hn:xs.length<=1000000):WF 129 130 [sl AJ xs] (liL skL xs):=by
 intro g A b off l W h hg hr hs;obtain⟨hS,v,hv,mI⟩:=rcells hr 0 _ rfl;rw[Nat.add_zero]at hv hS;obtain⟨a,cap,rfl,WS⟩:=slice_inv (sz:=3) (fun _=>rfl) mI;have hb:=hg _ _ hS;have n1:=ye_n ⟨A,0,none⟩;have m1:=ye_m ⟨A,0,none⟩;have t1:=ye_t ⟨A,0,none⟩;have xZ:∀args w,(callFunc 130 args).run Tryz.prog w=.ok (.enter 130 args) w:=enters_of Tryz.func130 aa3 rfl;unfold liL at hs⊢;simp only[List.length_append]at hs
 go_enter Tryz.func129,Tryz.ntmps129
 go_wp2
 go_region_with (go_at_call 434;(refine(yg_count A xs.length l _ ?_ B0 (by rw[List.length_append];omega)).mono ?_;exact h.drew;rintro e w1 ⟨rfl,LG,c1⟩))
 all_goals have d1:=c1.undrew
 all_goals have h1:=h.step LG d1
 all_goals have q1:=d1.cell hb.2 hv
 all_goals
  go_wp2
  go_loopw [56] (fun i wr=>∃k:Nat,k<=xs.length/\i=.int .i64 k/\wr.heap[A]?=some (wrO (bB (l++uL xs.length++(xs.take k).flatMap skL)))/\WrB W.heap.size A W wr) (fun i _=>xs.length-(intOf i).toNat)
  case atStart=>exact⟨0,Nat.zero_le _,rfl,by rw[List.take_zero,List.flatMap_nil,List.append_nil];exact LG,d1⟩
  case round=>
   obtain⟨k,hk,rfl,IJ,hw⟩:=hrel;rcases Nat.lt_or_ge k xs.length with BW | WT
   .obtain⟨b',o',rfl,XT⟩:=WS k BW;have c2:=hw.cell hb.2 hv;have fl:=flat_le skL xs (k+1);have fn:=flat_next (f:=skL) BW;have fe:=congrArg List.length fn;rw[List.length_append]at fe
    go_wp2_with (first | (go_at_call 130;(refine(hx _ (List.getElem_mem BW) g A b' (o'+k*3) (l++uL xs.length++(xs.take k).flatMap skL) _ ?_ ?_ ?_ ?_).mono ?_;exact h.step IJ hw;exact fun b o q=>⟨Nat.lt_of_lt_of_le (hg b o q).1 hw.size,(hg b o q).2⟩;exact rep_wr hg hw XT;(simp only[List.length_append];omega);rintro e w' ⟨rfl,Ki,OD⟩)) | (go_at_fn 130;(refine(hx _ (List.getElem_mem BW) g A b' (o'+k*3) (l++uL xs.length++(xs.take k).flatMap skL) _ ?_ ?_ ?_ ?_).mono ?_;exact h.step IJ hw;exact fun b o q=>⟨Nat.lt_of_lt_of_le (hg b o q).1 hw.size,(hg b o q).2⟩;exact rep_wr hg hw XT;(simp only[List.length_append];omega);rintro e w' ⟨rfl,Ki,OD⟩)))
    go_roundw
    case rel=>exact⟨k+1,BW,by go_num,by rw[<-fn];simpa only[List.append_assoc]using Ki,hw.trans OD⟩
    case measure=>simp[intOf];omega
   .obtain rfl:k=xs.length:=B0
    go_wp2
    exact bodyPost_end (results_none rfl _ _ _) rfl ⟨rfl,by rw[List.take_length]at IJ;simpa only[List.append_assoc]using IJ,hw⟩
end Go.Proofs
namespace Go.Proofs
open Go.Shelf Go.RowKit Go.Lib Go.Sort Go.Eng
structure LkOk(l:Lk):Prop where
 rq:∀q∈l.roots,RqOk q
 lo:∀e∈l.ents,IOk e.ver.b/\IOk e.ver.c
 nf:∀i∈l.infs,IOk i.kind/\IOk i.place/\IOk i.number/\IOk i.left/\IOk i.right
 sk:∀s∈l.skips,IOk s.place/\IOk s.inf
 n1:l.roots.length<=1000000
 n2:l.ents.length<=1000000
 n3:l.infs.length<=1000000
 n4:l.skips.length<=1000000
theorem rdrop{g:Gh}{W:World}{cs:List AV}{b off:Nat}(h:A3 g W DR (.cptr cs) (pA b off))(k:Nat)(Xk : List AV)(e:∀(j:Nat) (av:AV),Xk[j]?=some av->cs[k+j]?=some av):A3 g W DR (.cptr Xk) (pA b (off+k)):=by
 cases h with
 |cptr _ _ _ _ val hc hp=>exact .cptr _ _ b _ (fun j=>val (k+j)) (fun j av q=>by rw[Nat.add_assoc];exact hc (k+j) av (e j av q)) (fun j av q=>hp (k+j) av (e j av q))
theorem one_at{cs:List AV}{x:AV}{k:Nat}(h:cs[k]?=some x):∀(j:Nat) (av:AV),[x][j]?=some av->cs[k+j]?=some av:=fun j av e=>by
 match j,e with
 |0,e=>cases e;exact h
theorem gstep{g:Gh}{A:Nat}{W w' : World}(hg:∀b o,g.S b o->b<W.heap.size/\b≠A)(h:WrB W.heap.size A W w'):∀b o,g.S b o->b<w'.heap.size/\b≠A:=
 fun b o q=>⟨Nat.lt_of_lt_of_le (hg b o q).1 h.size,(hg b o q).2⟩
set_option maxRecDepth 100000 in
theorem yg_parts(x:Lk)(hx:LkOk x)(g:Gh)(A b:Nat)(l:List UInt8)(W:World)(h:WOk A l W)(hg:∀b o,g.S b o->b<W.heap.size/\b≠A)(hr:A3 g W DR (.cptr (BH x)) (pA b 0))(hs:(l++lkL x).length<9223372036854775808) :
  Calls Tryz.prog 63 #[ifW A,pA b 0] W (WPost A (l++lkL x) W):=by
 have r0:A3 g W DR (.cptr [sl Af x.roots]) (pA b 0):=rdrop hr 0 _ (one_at rfl);have r1:A3 g W DR (.cptr [sl Cq x.ents]) (pA b 1):=rdrop hr 1 _ (one_at rfl);have r2:A3 g W DR (.cptr [sl AR x.infs]) (pA b 2):=rdrop hr 2 _ (one_at rfl);have r3:A3 g W DR (.cptr [sl AJ x.skips]) (pA b 3):=rdrop hr 3 _ (one_at rfl);unfold lkL at hs⊢;simp only[List.length_append]at hs
 go_enter Tryz.func63,Tryz.ntmps63
 go_wp2_with (first
  |(go_at_call 120;refine(yg_list120 x.roots (fun q hq=>yg_root q (hx.rq q hq)) hx.n1 g A b 0 l _ h hg r0 (by simp only[List.length_append];omega)).mono ?_;rintro e w1 ⟨rfl,LG,b1⟩;have h1:=h.step LG b1;have g1:=gstep hg b1)
  |(go_at_call 125;refine(yg_list125 x.ents (fun q hq=>yg_ent q (hx.lo q hq).1 (hx.lo q hq).2) hx.n2 g A b 1 _ _ h1 g1 (rep_wr hg b1 r1) (by simp only[List.length_append];omega)).mono ?_;rintro e w2 ⟨rfl,Ki,b2⟩;have h2:=h1.step Ki b2;have c2:=b1.trans b2;have g2:=gstep hg c2)
  |(go_at_call 127;refine(yg_list127 x.infs (fun q hq=>yg_inf q (hx.nf q hq).1 (hx.nf q hq).2.1 (hx.nf q hq).2.2.1 (hx.nf q hq).2.2.2.1 (hx.nf q hq).2.2.2.2) hx.n3 g A b 2 _ _ h2 g2 (rep_wr hg c2 r2) (by simp only[List.length_append];omega)).mono ?_;rintro e w3 ⟨rfl,hA3,b3⟩;have h3:=h2.step hA3 b3;have c3:=c2.trans b3;have g3:=gstep hg c3)
  |(go_at_call 129;refine(yg_list129 x.skips (fun q hq=>yg_skip q (hx.sk q hq).1 (hx.sk q hq).2) hx.n4 g A b 3 _ _ h3 g3 (rep_wr hg c3 r3) (by simp only[List.length_append];omega)).mono ?_;rintro e w4 ⟨rfl,hA4,b4⟩))
 exact bodyPost_end (results_none rfl _ _ _) rfl ⟨rfl,by simpa only[List.append_assoc]using hA4,c3.trans b4⟩
theorem agg_inv{g:Gh}{W:World}{U:Nat->Prop}{cs:List AV}{x:Value}(h:A3 g W U (.agg cs) x):∃vs:Array Value,x=.agg vs/\vs.size=cs.length/\∀(i:Nat) (av:AV) (v:Value),cs[i]?=some av->vs[i]?=some v->A3 g W U av v/\v.oneCell'=true:=by
 cases h with
 |agg _ _ vs h0 h1 h2=>exact⟨vs,rfl,h0,fun i av v e1 e2=>⟨h2 i av v e1 e2,h1 i v e2⟩⟩
theorem rep_later{g g' : Gh}{B:Nat}{W w' : World}(hg:∀b o,g.S b o->b<B/\g'.S b o)(h:Below B W w'){U:Nat->Prop}(hU:∀i,¬U i){av:AV}{x:Value}(r:A3 g W U av x):A3 g' w' DR av x:=by
 refine r.mono (fun b o hs=>?_) (fun i q=>(hU i q).elim) (fun i q=>(hU i q).elim);have e:=h.block b (hg b o hs).1;exact⟨(hg b o hs).2,by simp only[World.cell?,e],fun _ _ q=>e.trans q⟩
set_option maxRecDepth 100000 in
theorem yg_encode(x:Lk)(t:Bool)(hx:t=true->LkOk x)(hf:PC 48 [.agg (BH x)] (vb t))(hs:t=true->(lkL x).length<9223372036854775808)(g:Gh)(W:World)(U:Nat->Prop)(hU:∀i,¬U i)(v0 v1 v2 v3:Value)(hr:A3 g W U (.agg (BH x)) (.agg #[v0,v1,v2,v3]))(hg:∀b o,g.S b o->b<W.heap.size)(hM:HM W) :
  Calls Tryz.prog 27 #[.agg #[v0,v1,v2,v3]] W fun e w'=>e=.returned (.tuple #[.string (bif t then bB (lkL x)else mt),.int .i64 (bif t then 0 else 1)])/\Below W.heap.size W w':=by
 obtain⟨W1,Wa⟩:∃W1,W1=W.alloc (.cells #[v0,v1,v2,v3] 33):=⟨_,rfl⟩;have b1:Below W.heap.size W W1:=by rw[Wa];exact(Below.refl _ W).alloc (Nat.le_refl _) _
 have z1:W1.heap.size=W.heap.size+1:=by rw[Wa];simp
 have k1:W1.heap[W.heap.size]?=some (.cells #[v0,v1,v2,v3] 33):=by rw[Wa];exact new_heap _ _
 have m1:HM W1:=hM.imp fun m hm=>by
  rw[<-hm];simp only[World.cell?,b1.block 0 (Fz hm)]
 have ra:A3 (WR W1) W1 DR (.agg (BH x)) (.agg #[v0,v1,v2,v3]):=rep_later (fun b o q=>⟨hg b o q,Nat.lt_of_lt_of_le (hg b o q) b1.size⟩) b1 hU hr;have rc:A3 (WR W1) W1 DR (.cptr (BH x)) (pA W.heap.size 0):=by
  obtain⟨vs,e1,e2,e3⟩:=agg_inv ra
  injection e1 with e1
  subst e1;have hc:∀(j:Nat) (av:AV),(BH x)[j]?=some av->∃v,(#[v0,v1,v2,v3]:Array Value)[j]?=some v:=fun j av q=>by
   match j,q with
   |0,_ |1,_ |2,_ |3,_=>exact⟨_,rfl⟩
  refine .cptr _ _ _ _ (fun j=>(#[v0,v1,v2,v3]:Array Value)[j]?.getD undef) (fun j av q=>?_) (fun j av q=>?_)
  all_goals obtain⟨v,hv⟩:=hc j av q
  .have ev:(#[v0,v1,v2,v3]:Array Value)[j]?.getD undef=v:=by rw[hv];rfl
   rw[ev];refine⟨show W.heap.size<W1.heap.size by omega,?_,(e3 j av v q hv).2⟩;rw[Nat.zero_add,Lib.cell_of_heap k1 j];exact hv
  .have ev:(#[v0,v1,v2,v3]:Array Value)[j]?.getD undef=v:=by rw[hv];rfl
   rw[ev];exact(e3 j av v q hv).1
 have HW:Hid _:=Wa;have oG:Calls Tryz.prog 48 #[.agg #[v0,v1,v2,v3]] W1 fun e w'=>e=.returned (.bool t)/\Below W1.heap.size W1 w':=by
  refine(below_of (vals:=#[.agg #[v0,v1,v2,v3]]) hf m1 rfl (fun i av y e1 e2=>?_)).mono fun e W' ⟨⟨v,g',U,e1,e2⟩,hb⟩=>⟨by rw[e1,e2.v_eq],hb⟩
  match i with
  |0=>cases e1;cases e2;exact ra
  |_+1=>simp at e1
 go_enter Tryz.func27,Tryz.ntmps27
 cases t with
 |false=>
  go_wp2_with (go_at_call 48;rw[<-HW.out];refine oG.mono ?_;rintro e w2 ⟨rfl,b2⟩)
  go_ret2
  exact⟨rfl,b1.trans (b2.mono B0)⟩
 |true=>
  have PG:=hx rfl;have ao:=hs rfl
  go_wp2_with (first
   |(go_at_call 48;rw[<-HW.out];refine oG.mono ?_;rintro e w2 ⟨rfl,b2⟩;have k2:w2.heap[W.heap.size]?=some (.cells #[v0,v1,v2,v3] 33):=(b2.block _ B0).trans k1;have z2:W.heap.size<w2.heap.size:=(by have:=b2.size;omega))
   |(go_at_call 63;refine(yg_parts x PG (WR W1) w2.heap.size W.heap.size [] _ ?_ ?_ ?_ ?_).mono ?_;exact⟨new_heap _ _,(HM.below m1 b2).alloc _⟩;exact(fun b o q=>⟨by have:b<W1.heap.size:=q;have:=b2.size;simp;omega,by have:b<W1.heap.size:=q;have:=b2.size;omega⟩);exact rep_later (fun b o q=>⟨q,q⟩) (b2.alloc b2.size _) (fun _ h=>h) rc;simpa using ao;rintro e w4 ⟨rfl,hA4,b4⟩;have c4:w4.cell? ⟨w2.heap.size,0,none⟩=some (.string (bB (lkL x))):=Lib.cell_of_heap hA4 0))
  go_ret2
  have z4:(w2.alloc (.cells #[.string ⟨#[]⟩] 121)).heap.size=w2.heap.size+1:=aa0
  exact⟨rfl,(b1.trans (b2.mono B0)).trans ⟨b4.os,b4.tape,b4.output,by have:=b4.size;omega,fun k hk=>(b4.block k B0 B0).trans (Below.heap_alloc _ _ _ B0)⟩⟩
theorem agg4{g:Gh}{W:World}{U:Nat->Prop}{a b c d:AV}{x:Value}(h:A3 g W U (.agg [a,b,c,d]) x):∃v0 v1 v2 v3,x=.agg #[v0,v1,v2,v3]:=by
 obtain⟨vs,rfl,h1,_⟩:=agg_inv h;have h1:vs.size=4:=h1;refine⟨vs[0],vs[1],vs[2],vs[3],congrArg Value.agg (Array.ext (by simp[h1]) fun j j1 j2=>?_)⟩
 match j with
 |0 |1 |2 |3=>rfl
 |_+4=>omega
theorem y_encode(x:Lk)(t:Bool)(hx:t=true->LkOk x)(hf:PC 48 [.agg (BH x)] (vb t))(hs:t=true->(lkL x).length<9223372036854775808):PC 27 [.agg (BH x)] (.tup [Go.Eng.vs (bif t then bB (lkL x)else mt),vi (bif t then 0 else 1)]):=by
 refine⟨Py Tryz.func27 aa3 rfl,fun g w us hz hv hI=>?_⟩;have hz:us.size=1:=hz;have h0:=hv 0 _ (us[0]' B0) rfl (Array.getElem?_eq_getElem B0);obtain⟨v0,v1,v2,v3,rU⟩:=agg4 h0;have hu:us=#[.agg #[v0,v1,v2,v3]]:=by
  refine Array.ext hz fun i i1 i2=>?_;obtain rfl:i=0:=B0
  exact rU
 rw[rU]at h0;subst hu;refine(yg_encode x t hx hf hs g w _ (fun i h=>h rfl) v0 v1 v2 v3 h0 hI.slt hI.glob.1.2).mono ?_
 rintro e w' ⟨rfl,q⟩
 have hK:D2 g w g w':=fun b o hb=>by
  grind [World.cell?,CA.slt,Go.RowKit.Below.block]
 refine⟨_,_,Ad,g,rfl,⟨rfl,rfl⟩,.tup _ _ _ rfl fun i av x e1 e2=>?_,⟨q.os,q.tape,q.output,q.size,fun b hb _=>q.block b hb,fun b o hs=>Nat.lt_of_lt_of_le (hI.slt b o hs) q.size,fun _=>trivial,fun _ _ _ h=>h.elim,fun _ _ h=>h.elim,fun b o hs=>.inl hs,hI.glob.keep hK⟩,⟨.refl _ _,fun _ h=>h,hK⟩⟩
 match i with
 |0 |1=>cases e1;cases e2;exact .v _ _
 |_+2=>simp at e1
end Go.Proofs
namespace Go.Eng
open Go.Proofs
variable {x:List Rl}{α:Type}{f:α->Bool}{l:List Lo}{k i:Nat}
abbrev zrR:Rl:=⟨⟨#[]⟩,⟨0,0,0⟩,[],⟨#[]⟩,⟨#[]⟩,⟨#[]⟩,false⟩
def Mf(x:List Rl)(e:Lo):Rl:=(BL x (EK e)).getD zrR
theorem rf{e:Lo}{r:Rl}(h:BL x (EK e)=some r):Mf x e=r:=by rw[Mf,h];rfl
theorem pf(h:k<l.length):(0:Int)<=(k:Int)/\((l.map (Mf x)).map At)[((k:Nat):Int).toNat]?=some (At (Mf x l[k])):=by
 have q:=LX (f:=At) (l:=l.map (Mf x)) (i:=k) (by rw[Lm];exact h);rw[List.getElem_map]at q;exact q
theorem nH(h:i<l.length):(l.take (i+1)).map (Mf x)=(l.take i).map (Mf x)++[Mf x l[i]]:=by rw[Ep h,AG];rfl
section
variable {x:List Rl}{l:Lk}
theorem vA(h:¬(AX x=0/\DT l=true)):1=gt x l:=by
 unfold gt;rw[As]
 by_cases h1:AX x=0
 .right;cases e:DT l with
  |false=>rfl
  |true=>exact absurd ⟨h1,e⟩ h
 .exact .inl h1
theorem AaD(h1:AX x=0)(h2:DT l=true)(hi:i<l.ents.length)(h:BL x (EK l.ents[i])=none):6=gt x l:=by
 unfold gt;rw[AB (by rw[h2];simp[h1]),As];refine List.all_eq_false.2 ⟨_,Am hi,?_⟩;rw[h];decide
theorem kW(h:∀j (hj:j<l.ents.length),(BL x (EK l.ents[j])).isSome=true):l.ents.all (fun e=>(BL x (EK e)).isSome)=true:=A9.2 fun e he=>by
 obtain⟨j,hj,rfl⟩:=CY.1 he;exact h j hj
theorem gF{e:Lo}(h:(BL x (EK e)).isSome=true):MU x e=(decide (e.arch=(Mf x e).arch)&&decide (e.ifc=(Mf x e).ifc)):=by
 unfold MU Mf;cases q:BL x (EK e)with
 |none=>rw[q]at h;cases h
 |some r=>rfl
theorem vB(h1:AX x=0)(h2:DT l=true)(h3:∀j (hj:j<l.ents.length),(BL x (EK l.ents[j])).isSome=true)(hk:k<l.ents.length)(h:MU x l.ents[k]=false):9=gt x l:=by
 unfold gt;rw[AB (by rw[h2];simp[h1]),AB (by rw[kW h3];decide),As];exact List.all_eq_false.2 ⟨_,Am hk,by rw[h];decide⟩
theorem vz(h1:AX x=0)(h2:DT l=true)(h3:∀j (hj:j<l.ents.length),(BL x (EK l.ents[j])).isSome=true)(h:∀k (hk:k<l.ents.length),MU x l.ents[k]=true):gt x l=if Hd x l.roots (N5 l)≠0 then 18 else 0:=by
 unfold gt;rw[AB (by rw[h2];simp[h1]),AB (by rw[kW h3];decide),AB];rw[A9.2 fun e he=>by obtain⟨j,hj,rfl⟩:=CY.1 he;exact h j hj];decide
end
theorem vK(x:List Rl)(ifs:List (List AV))(l:Lk)(_hx:∀r∈x,IX r)(_hxl:Cz x)(h47:PC 47 [.agg (Ic x ifs)] (vi (AX x)))(vT:∀p v,PC 40 [.agg (Ic x ifs),vs p,.agg (Il v)] (M9 (BL x ⟨p,v⟩)))(h48:PC 48 [.agg (BH l)] (vb (DT l)))(h49:PC 49 [.agg (Ic x ifs),sl Af l.roots,.agg [vb true,sl Al (Pd l),sl AR l.infs,sl AJ l.skips]] (vi (Hd x l.roots (N5 l))))(WS:l.ents.length<=1000000):PC 18 [.agg (Ic x ifs),.agg (BH l)] (vi (gt x l)):=by
 refine Ps (pT [2,3] [(5,9)] [12]) Tryz.func18 rfl (Nz rfl) (yN (Xi .pure (Xi _ (Yi h47 (Yi (fun h1=>?_) (fun h1=>?_))))))
 .exact DW.of_eq (Ab vi (vA (fun c=>h1 c.1)))
 have h1:((AX x):Int)=(0:Int):=AY h1;refine yN (BK (Bt (DT l)) (fun h3=>?_) (fun h3=>?_))
 .refine Xi .pure (Xi _ (Yi (cb h3 h48) (Xi {q:Nat // q<=l.ents.length/\(∀j (hj:j<l.ents.length),j<q->(BL x (EK l.ents[j])).isSome=true)} (Xi (fun q=>⟨[(2,.ref 2 0),(3,.ref 3 0),(5,.slice (.id 5 9) (((l.ents.take q.1).map (Mf x)).map At)),(21,sl Cq l.ents),(22,vi (l.ents.map Cq).length),(23,vi q.1)],[(2,.ro (Ic x ifs)),(3,.ro (BH l)),(5,.tok 9 ((l.ents.take q.1).map (Mf x)).length)],Ad⟩) (Xi (fun q=>l.ents.length-q.1) (Yi (Xi ⟨0,Ao _,fun j _ h=>absurd h (CR _)⟩ ?_) ?_))))))
  .exact⟨Z6,Z3,Fh,Tv⟩
  intro⟨i,i1,i2⟩;have i2:∀j (hj:j<l.ents.length),j<i->(BL x (EK l.ents[j])).isSome=true:=i2;have hT:((l.ents.take i).map (Mf x)).length<=1000000:=(by rw[Lm,Bv];omega);refine Yi (fun h4=>?_) (fun h4=>?_)
  .have h4:(i:Int)<((l.ents.map Cq).length:Int):=h4;have n4:=IN h4;refine Xi (Cq l.ents[i]) (Yi (LX n4) (Yi rfl (yN (yN (yN (yN (BK (Vi (BL x ⟨l.ents[i].path,l.ents[i].ver⟩)) (fun h5=>?_) (fun h5=>?_))))))))
   .refine A1 h5 (fun r h5=>?_);have iP:=(vT l.ents[i].path l.ents[i].ver);rw[h5]at iP;refine Xi .pure (Xi _ (Yi iP (yN (yN (Yi (Zm rfl (show((l.ents.take i).map (Mf x)).length<=2147483647 by omega) aa2) (Yi (Ii i B0) ?_))))));have er:((l.ents.take i).map (Mf x))++[r]=((l.ents.take (i+1)).map (Mf x)):=by rw[nH n4,rf h5]
    refine Xi ⟨i+1,n4,fun j hj h=>by rcases BJ j i with h2 | h2;exact i2 j hj h2;have e:j=i:=B0;subst e;rw[h5];rfl⟩ ?_;exact⟨Dl l.ents.length i B0,⟨Zr,Zr,⟨(show AV.slice (.id 5 9) ((((l.ents.take i).map (Mf x)).map At)++[(At r)])=.slice (.id 5 9) (((l.ents.take (i+1)).map (Mf x)).map At) by rw[<-er,AG];rfl),rfl⟩,Zr,Zr,Zr,Tv⟩,⟨Zr,Zr,⟨(show HO.tok 9 ((((l.ents.take i).map (Mf x)).map At).length+([(At r)]:List (List AV)).length)=.tok 9 ((l.ents.take (i+1)).map (Mf x)).length by rw[<-er];simp),rfl⟩,Tv⟩,Fh,Tv⟩
   have iP:=(vT l.ents[i].path l.ents[i].ver);rw[h5]at iP;refine Xi .pure (Xi _ (Yi iP (yN ?_)));exact DW.of_eq (Ab vi (AaD h1 h3 n4 h5))
  have h4:¬((i:Int)<((l.ents.map Cq).length:Int)):=h4;have n4:=FH h4;have ei:l.ents.take i=l.ents:=Bj (CC (FH h4));have i3:∀j (hj:j<l.ents.length),(BL x (EK l.ents[j])).isSome=true:=fun j hj=>i2 j hj (AA hj (CC (FH h4)));refine cU [(2,.ref 2 0),(3,.ref 3 0),(5,.slice (.id 5 9) ((l.ents.map (Mf x)).map At))] [(2,.ro (Ic x ifs)),(3,.ro (BH l)),(5,.tok 9 (l.ents.map (Mf x)).length)] ⟨Zr,Zr,⟨(show AV.slice (.id 5 9) (((l.ents.take i).map (Mf x)).map At)=AV.slice (.id 5 9) ((l.ents.map (Mf x)).map At) by rw[ei]),rfl⟩,Tv⟩ ⟨Zr,Zr,⟨(show HO.tok 9 ((l.ents.take i).map (Mf x)).length=HO.tok 9 (l.ents.map (Mf x)).length by rw[ei]),rfl⟩,Tv⟩ ?_
  refine Xi {q:Nat // q<=l.ents.length/\(∀j (hj:j<l.ents.length),j<q->MU x l.ents[j]=true)} (Xi (fun q=>⟨[(2,.ref 2 0),(3,.ref 3 0),(5,.slice (.id 5 9) ((l.ents.map (Mf x)).map At)),(44,sl Cq l.ents),(45,vi (l.ents.map Cq).length),(46,vi q.1)],[(2,.ro (Ic x ifs)),(3,.ro (BH l)),(5,.tok 9 (l.ents.map (Mf x)).length)],Ad⟩) (Xi (fun q=>l.ents.length-q.1) (Yi (Xi ⟨0,Ao _,fun j _ h=>absurd h (CR _)⟩ ?_) ?_)))
  .exact⟨Z6,Z3,Fh,Tv⟩
  intro⟨k,k1,k2⟩;have k1:k<=l.ents.length:=k1;have k2:∀j (hj:j<l.ents.length),j<k->MU x l.ents[j]=true:=k2;refine Yi (fun h9=>?_) (fun h9=>?_)
  .have h9:(k:Int)<((l.ents.map Cq).length:Int):=h9;have n9:=IN h9;refine Xi (Cq l.ents[k]) (Yi (LX n9) (Yi rfl (yN (yN (Xi (At (Mf x l.ents[k])) (Yi (pf n9) (Yi rfl (Yi (fun IS=>?_) (fun IS=>?_)))))))))
   .have IS:(l.ents[k].arch:ByteArray)≠(Mf x l.ents[k]).arch:=IS;refine Yi aa3 ?_;have eA:MU x l.ents[k]=false:=by rw[gF (i3 k n9),Au IS];rfl
    exact DW.of_eq (Ab vi (vB h1 h3 i3 n9 eA))
   have IS:(l.ents[k].arch:ByteArray)=(Mf x l.ents[k]).arch:=AY IS;refine Xi (At (Mf x l.ents[k])) (Yi (pf n9) (Yi rfl (Yi (fun Mu=>?_) (fun Mu=>?_))))
   .have Mu:(l.ents[k].ifc:ByteArray)≠(Mf x l.ents[k]).ifc:=Mu;refine Yi aa3 ?_;have eA:MU x l.ents[k]=false:=by rw[gF (i3 k n9),Ay IS,Au Mu];rfl
    exact DW.of_eq (Ab vi (vB h1 h3 i3 n9 eA))
   have Mu:(l.ents[k].ifc:ByteArray)=(Mf x l.ents[k]).ifc:=AY Mu;refine Yi aa3 (Yi (Ii k B0) ?_);have eA:MU x l.ents[k]=true:=by rw[gF (i3 k n9),Ay IS,Ay Mu];rfl
   refine Xi ⟨k+1,n9,fun j hj h=>by rcases BJ j k with h2 | h2;exact k2 j hj h2;have e:j=k:=B0;subst e;exact eA⟩ ?_;exact⟨Dl l.ents.length k B0,Z6,Z3,Fh,Tv⟩
  have h9:¬((k:Int)<((l.ents.map Cq).length:Int)):=h9;have n9:=FH h9;refine yN (yN (Xi _ (Yi (vC l WS) (Xi _ (Yi h49 (Yi (fun Rp=>?_) (fun Rp=>?_)))))))
  .have Rp:((Hd x l.roots (N5 l)):Int)≠(0:Int):=Rp;refine Yi aa3 ?_;exact DW.of_eq (Ab vi (show 18=gt x l by rw[vz h1 h3 i3 (fun j hj=>k2 j hj (AA hj (CC (FH h9)))),As Rp]))
  have Rp:((Hd x l.roots (N5 l)):Int)=(0:Int):=AY Rp;refine Yi aa3 ?_;exact DW.of_eq (Ab vi (show 0=gt x l by rw[vz h1 h3 i3 (fun j hj=>k2 j hj (AA hj (CC (FH h9)))),AB (fun h=>h Rp)]))
 have h3:(DT l)=false:=h3;refine Xi .pure (Xi _ (Yi (cb h3 h48) ?_));exact DW.of_eq (Ab vi (vA (fun c=>by have q:=h3;rw[c.2]at q;cases q)))
theorem VH{l:List α}(h:∀j (hj:j<l.length),f l[j]=true):l.all f=true:=A9.2 fun e he=>by
 obtain⟨j,hj,rfl⟩:=CY.1 he;exact h j hj
theorem OQ{l:List α}{j:Nat}(hj:j<l.length)(h:f l[j]=false):¬l.all f=true:=fun c=>by
 have q:=A9.1 c _ (Am hj);rw[h]at q;cases q
def bz(e:Lo):Bool:=decide (e.path.size<=100/\e.arch.size<=100/\e.ifc.size<=100)
def m9(i:Nf):Bool:=decide (i.path.size<=100)
def WI(s:Sk):Bool:=decide (s.path.size<=100)
structure MR(l:Lk):Prop where
 en:l.ents.all bz=true
 nf:l.infs.all m9=true
 sk:l.skips.all WI=true
 rq:D8 l.roots=true
 el:l.ents.length<=16
 il:l.infs.length<=300
 kl:l.skips.length<=100
open Classical in
noncomputable def QH(l:Lk):Bool:=decide (MR l)
open Classical in
theorem Kv{l:Lk}(h:¬MR l):false=QH l:=by unfold QH;exact(Au h).symm
open Classical in
theorem lZ{l:Lk}(h:MR l):true=QH l:=by unfold QH;exact(Ay h).symm
theorem vE(l:Lk)(WS:l.ents.length<=1073741824)(bP:l.infs.length<=1073741824)(JZ:l.skips.length<=1073741824)(hrl:l.roots.length<=1073741824):PC 17 [.agg (BH l)] (vb (QH l)):=by
 refine Ps (pC [1] [6,11,16]) Tryz.func17 rfl (Nz rfl) (Xi {q:Nat // q<=l.ents.length/\∀j (h:j<l.ents.length),j<q->bz l.ents[j]=true} (Xi (fun q=>⟨[(1,.ref 1 0),(3,vi q.1)],[(1,.ro (BH l))],Ad⟩) (Xi (fun q=>l.ents.length-q.1) (Yi (Xi ⟨0,Ao _,fun j _ h=>absurd h (CR _)⟩ ?_) ?_))))
 .exact⟨Z2,Z1,Fh,Tv⟩
 intro⟨i,i1,i2⟩;have i1:i<=l.ents.length:=i1;have i2:∀j (h:j<l.ents.length),j<i->bz l.ents[j]=true:=i2;refine Yi (fun h1=>?_) (fun h1=>?_)
 .have h1:(i:Int)<((l.ents.map Cq).length:Int):=h1;have n1:=IN h1;refine Xi (Cq l.ents[i]) (Yi (LX n1) (Yi rfl (Yi (fun h2=>?_) (fun h2=>?_))))
  .have h2:(100:Int)<(l.ents[i].path.size:Int):=h2;have eV:bz l.ents[i]=false:=by unfold bz;exact Au (fun c=>by have q:=h2;omega)
   exact DW.of_eq (Ab vb (Kv (fun c=>OQ n1 eV c.en)))
  have h2:¬((100:Int)<(l.ents[i].path.size:Int)):=h2;refine Xi (Cq l.ents[i]) (Yi (LX n1) (Yi rfl (Yi (fun h4=>?_) (fun h4=>?_))))
  .have h4:(100:Int)<(l.ents[i].arch.size:Int):=h4;have eV:bz l.ents[i]=false:=by unfold bz;exact Au (fun c=>by have q:=h4;omega)
   exact DW.of_eq (Ab vb (Kv (fun c=>OQ n1 eV c.en)))
  have h4:¬((100:Int)<(l.ents[i].arch.size:Int)):=h4;refine Xi (Cq l.ents[i]) (Yi (LX n1) (Yi rfl (Yi (fun h6=>?_) (fun h6=>?_))))
  .have h6:(100:Int)<(l.ents[i].ifc.size:Int):=h6;have eV:bz l.ents[i]=false:=by unfold bz;exact Au (fun c=>by have q:=h6;omega)
   exact DW.of_eq (Ab vb (Kv (fun c=>OQ n1 eV c.en)))
  have h6:¬((100:Int)<(l.ents[i].ifc.size:Int)):=h6;refine Yi (Ii i B0) ?_;have eV:bz l.ents[i]=true:=by unfold bz;exact Ay (by have q0:=h2;have q1:=h4;have q2:=h6;omega)
  refine Xi ⟨i+1,n1,fun j hj h=>by rcases BJ j i with h2 | h2;exact i2 j hj h2;have e:j=i:=B0;subst e;exact eV⟩ ?_;exact⟨Dl l.ents.length i B0,Z2,Z1,Fh,Tv⟩
 have h1:¬((i:Int)<((l.ents.map Cq).length:Int)):=h1;have n1:=FH h1;refine cU [(1,.ref 1 0)] [(1,.ro (BH l))] Z1 Z1 (Xi {q:Nat // q<=l.infs.length/\∀j (h:j<l.infs.length),j<q->m9 l.infs[j]=true} (Xi (fun q=>⟨[(1,.ref 1 0),(4,vi q.1)],[(1,.ro (BH l))],Ad⟩) (Xi (fun q=>l.infs.length-q.1) (Yi (Xi ⟨0,Ao _,fun j _ h=>absurd h (CR _)⟩ ?_) ?_))))
 .exact⟨Z2,Z1,Fh,Tv⟩
 intro⟨k,k1,k2⟩;have k1:k<=l.infs.length:=k1;have k2:∀j (h:j<l.infs.length),j<k->m9 l.infs[j]=true:=k2;refine Yi (fun h9=>?_) (fun h9=>?_)
 .have h9:(k:Int)<((l.infs.map AR).length:Int):=h9;have n9:=IN h9;refine Xi (AR l.infs[k]) (Yi (LX n9) (Yi rfl (Yi (fun Oz=>?_) (fun Oz=>?_))))
  .have Oz:(100:Int)<(l.infs[k].path.size:Int):=Oz;have eV:m9 l.infs[k]=false:=by unfold m9;exact Au (fun c=>by have q:=Oz;omega)
   exact DW.of_eq (Ab vb (Kv (fun c=>OQ n9 eV c.nf)))
  have Oz:¬((100:Int)<(l.infs[k].path.size:Int)):=Oz;refine Yi (Ii k B0) ?_;have eV:m9 l.infs[k]=true:=by unfold m9;exact Ay (by have q0:=Oz;omega)
  refine Xi ⟨k+1,n9,fun j hj h=>by rcases BJ j k with h2 | h2;exact k2 j hj h2;have e:j=k:=B0;subst e;exact eV⟩ ?_;exact⟨Dl l.infs.length k B0,Z2,Z1,Fh,Tv⟩
 have h9:¬((k:Int)<((l.infs.map AR).length:Int)):=h9;have n9:=FH h9;refine cU [(1,.ref 1 0)] [(1,.ro (BH l))] Z1 Z1 (Xi {q:Nat // q<=l.skips.length/\∀j (h:j<l.skips.length),j<q->WI l.skips[j]=true} (Xi (fun q=>⟨[(1,.ref 1 0),(5,vi q.1)],[(1,.ro (BH l))],Ad⟩) (Xi (fun q=>l.skips.length-q.1) (Yi (Xi ⟨0,Ao _,fun j _ h=>absurd h (CR _)⟩ ?_) ?_))))
 .exact⟨Z2,Z1,Fh,Tv⟩
 intro⟨m,m1,m2⟩;have m1:m<=l.skips.length:=m1;have m2:∀j (h:j<l.skips.length),j<m->WI l.skips[j]=true:=m2;refine Yi (fun UV=>?_) (fun UV=>?_)
 .have UV:(m:Int)<((l.skips.map AJ).length:Int):=UV;have n13:=IN UV;refine Xi (AJ l.skips[m]) (Yi (LX n13) (Yi rfl (Yi (fun Mu=>?_) (fun Mu=>?_))))
  .have Mu:(100:Int)<(l.skips[m].path.size:Int):=Mu;have eV:WI l.skips[m]=false:=by unfold WI;exact Au (fun c=>by have q:=Mu;omega)
   exact DW.of_eq (Ab vb (Kv (fun c=>OQ n13 eV c.sk)))
  have Mu:¬((100:Int)<(l.skips[m].path.size:Int)):=Mu;refine Yi (Ii m B0) ?_;have eV:WI l.skips[m]=true:=by unfold WI;exact Ay (by have q0:=Mu;omega)
  refine Xi ⟨m+1,n13,fun j hj h=>by rcases BJ j m with h2 | h2;exact m2 j hj h2;have e:j=m:=B0;subst e;exact eV⟩ ?_;exact⟨Dl l.skips.length m B0,Z2,Z1,Fh,Tv⟩
 have UV:¬((m:Int)<((l.skips.map AJ).length:Int)):=UV;have n13:=FH UV;refine cU [(1,.ref 1 0)] [(1,.ro (BH l))] Z1 Z1 (BK (Bt (D8 l.roots)) (fun Rp=>?_) (fun Rp=>?_))
 .have Rp:(D8 l.roots)=true:=Rp;refine Xi .pure (Xi _ (Yi (cb Rp (c35 l.roots hrl)) (Yi (fun qd=>?_) (fun qd=>?_))))
  .have qd:((l.ents.map Cq).length:Int)<=(16:Int):=qd;refine Yi (fun md=>?_) (fun md=>?_)
   .have md:((l.infs.map AR).length:Int)<=(300:Int):=md;refine Yi (fun qe=>?_) (fun qe=>?_)
    .have qe:((l.skips.map AJ).length:Int)<=(100:Int):=qe;exact DW.of_eq (Ab vb (lZ ⟨(VH fun j hj=>i2 j hj (AA hj (CC (FH h1)))),(VH fun j hj=>k2 j hj (AA hj (CC (FH h9)))),(VH fun j hj=>m2 j hj (AA hj (CC (FH UV)))),Rp,(by have q:=qd;rw[Lm]at q;omega),(by have q:=md;rw[Lm]at q;omega),(by have q:=qe;rw[Lm]at q;omega)⟩))
    have qe:¬(((l.skips.map AJ).length:Int)<=(100:Int)):=qe;exact DW.of_eq (Ab vb (Kv (fun c=>absurd c.kl (by have q:=qe;rw[Lm]at q;omega))))
   have md:¬(((l.infs.map AR).length:Int)<=(300:Int)):=md;exact DW.of_eq (Ab vb (Kv (fun c=>absurd c.il (by have q:=md;rw[Lm]at q;omega))))
  have qd:¬(((l.ents.map Cq).length:Int)<=(16:Int)):=qd;exact DW.of_eq (Ab vb (Kv (fun c=>absurd c.el (by have q:=qd;rw[Lm]at q;omega))))
 have Rp:(D8 l.roots)=false:=Rp;refine Xi .pure (Xi _ (Yi (cb Rp (c35 l.roots hrl)) ?_));exact DW.of_eq (Ab vb (Kv (fun c=>by have q:=Rp;rw[c.rq]at q;cases q)))
end Go.Eng
namespace Go.Proofs
open Go.Eng
structure LkW(most:Nat)(l:Lk):Prop where
 r:LW (RqW most) most l.roots
 e:LW LoW most l.ents
 i:LW NfW most l.infs
 k:LW SkW most l.skips
theorem cod_lk{s:ByteArray}(most:Nat):Cod s (rdLk s most) lkL (LkW most):=
 ((cod_list (cod_rq most)).seq ((cod_list (cod_lo most)).seq ((cod_list (cod_nf most)).seq (cod_list (cod_sk most))))).map (fun x=>(⟨x.1,x.2.1,x.2.2.1,x.2.2.2⟩:Lk)) (fun y=>(y.roots,y.ents,y.infs,y.skips)) lkL _
  (fun _ hx=>⟨⟨hx.1,hx.2.1,hx.2.2.1,hx.2.2.2⟩,by simp only[lkL,List.append_assoc]⟩) (fun _ hy=>⟨⟨hy.r,hy.e,hy.i,hy.k⟩,rfl,by simp only[lkL,List.append_assoc]⟩)
def z0(e:Lo):Lo:=⟨e.path,⟨0,e.ver.b,e.ver.c⟩,e.arch,e.ifc⟩
abbrev z0L(l:Lk):Lk:=⟨l.roots,l.ents.map z0,l.infs,l.skips⟩
theorem liL_map{α:Type}{f:α->List UInt8}{g:α->α}(h:∀x,f (g x)=f x)(l:List α):liL f (l.map g)=liL f l:=by
 unfold liL;rw[List.length_map,List.flatMap_map];simp only[h]
theorem lkL_z0(l:Lk):lkL (z0L l)=lkL l:=by
 unfold lkL;rw[liL_map (g:=z0) (fun _=>rfl)]
theorem lkL_maj(l:Lk):lkL (majL l)=lkL l:=by
 unfold lkL;rw[liL_map (g:=setMaj) (fun _=>rfl)]
theorem flat_mem{α:Type}{f:α->List UInt8}{x:α}{xs:List α}(h:x∈xs):(f x).length<=(xs.flatMap f).length:=by
 obtain⟨a,b,rfl⟩:=List.append_of_mem h;rw[List.flatMap_append,List.flatMap_cons,List.length_append,List.length_append];omega
theorem flat_len{α:Type}{f:α->List UInt8}(h:∀x,1<=(f x).length):∀xs:List α,xs.length<=(xs.flatMap f).length
 | []=>Nat.le_refl _
 |x::xs=>by
  have:=flat_len h xs
  have:=h x
  rw[List.flatMap_cons,List.length_append,List.length_cons];omega
theorem flat_bd{α:Type}{f:α->List UInt8}{c:Nat}:∀{xs:List α},(∀x∈xs,(f x).length<=c)->(xs.flatMap f).length<=xs.length*c
 | [],_=>Nat.zero_le _
 |x::xs,h=>by
  have h1:=flat_bd (fun y hy=>h y (.tail _ hy));have h2:=h x (.head _);rw[List.flatMap_cons,List.length_append,List.length_cons,Nat.succ_mul];omega
theorem tL_pos(x:ByteArray):1<=(tL x).length:=by
 unfold tL;rw[List.length_append];have:=uL_pos x.size;omega
theorem spL_pos(x:Int×Int):1<=(spL x).length:=by
 unfold spL;rw[nsL2,List.length_append];have:=uL_pos x.1.toNat;omega
theorem rqL_pos(x:Rq):1<=(rqL x).length:=by
 unfold rqL;rw[List.length_append];have:=tL_pos x.path;omega
theorem loL_pos(x:Lo):1<=(loL x).length:=by
 unfold loL;simp only[List.length_append];have:=tL_pos x.path;omega
theorem nfL_pos(x:Nf):1<=(nfL x).length:=by
 unfold nfL;simp only[List.length_append];have:=uL_pos x.kind.toNat;omega
theorem skL_pos(x:Sk):1<=(skL x).length:=by
 unfold skL;rw[List.length_append];have:=tL_pos x.path;omega
theorem liL_len{α:Type}{f:α->List UInt8}(h:∀x,1<=(f x).length)(xs:List α):xs.length<=(liL f xs).length:=by
 unfold liL;rw[List.length_append];have:=flat_len h xs;omega
structure LkT(l:Lk):Prop where
 r:∀q∈l.roots,TOk q.path
 e:∀e∈l.ents,TOk e.path/\TOk e.arch/\TOk e.ifc
 i:∀i∈l.infs,TOk i.path
 k:∀s∈l.skips,TOk s.path
theorem lkW_of{l:Lk}{most:Nat}(hI:LkOk l)(hT:LkT l)(hn:(lkL l).length<=most)(hm:most<9223372036854775808):LkW most (z0L l):=by
 have hl:(liL rqL l.roots).length<=most/\(liL loL l.ents).length<=most/\(liL nfL l.infs).length<=most/\(liL skL l.skips).length<=most:=by
  unfold lkL at hn;simp only[List.length_append]at hn;omega
 have n1:=liL_len rqL_pos l.roots;have n2:=liL_len loL_pos l.ents;have n3:=liL_len nfL_pos l.infs;have n4:=liL_len skL_pos l.skips;refine⟨⟨fun q hq=>⟨hT.r q hq,⟨(hI.rq q hq).i,?_,?_⟩⟩,by show l.roots.length<_;omega,by show l.roots.length<=_;omega⟩,⟨fun e he=>?_,by rw[List.length_map];omega,by rw[List.length_map];omega⟩,⟨fun i hi=>?_,by show l.infs.length<_;omega,by show l.infs.length<=_;omega⟩,⟨fun i hi=>?_,by show l.skips.length<_;omega,by show l.skips.length<=_;omega⟩⟩
 .have:=(hI.rq q hq).n;omega
 .have a:=liL_len spL_pos q.set;have b:(rqL q).length<=(l.roots.flatMap rqL).length:=flat_mem hq;have c:(liL spL q.set).length<=(rqL q).length:=by unfold rqL;rw[List.length_append];omega
  have d:(l.roots.flatMap rqL).length<=(liL rqL l.roots).length:=by unfold liL;rw[List.length_append];omega
  omega
 .obtain⟨x,hx,rfl⟩:=List.mem_map.1 he;exact⟨rfl,(hT.e x hx).1,(hI.lo x hx).1,(hI.lo x hx).2,(hT.e x hx).2.1,(hT.e x hx).2.2⟩
 .have h:=hI.nf i hi;exact⟨h.1,hT.i i hi,h.2.1,h.2.2.1,h.2.2.2.1,h.2.2.2.2⟩
 .have h:=hI.sk i hi;exact⟨hT.k i hi,h.1,h.2⟩
theorem dec_of{l:Lk}(hW:LkW (lkL l).length (z0L l))(hf:DT l=true)(hm:∀e∈l.ents,setMaj (z0 e)=e):decL (bB (lkL l))=(l,0):=by
 have e:=(cod_lk (s:=bB (lkL l)) (lkL l).length).cpl 0 (z0L l) [] hW (by rw[lkL_z0,List.append_nil];rfl);rw[lkL_z0,Nat.zero_add]at e;have e:rdS (bB (lkL l))=(z0L l,((lkL l).length,0)):=e;have yZ:majL (z0L l)=l:=by
  have:(l.ents.map z0).map setMaj=l.ents:=by
   rw[List.map_map]
   conv=>rhs;rw[<-List.map_id l.ents]
   exact List.map_congr_left fun x hx=>hm x hx
  obtain⟨a,b,c,d⟩:=l;exact congrArg (fun z=>Lk.mk a z c d) this
 unfold decL decB;rw[e];show(if(decide ((0:Int)=0/\¬(lkL l).length<(bB (lkL l)).size)&&DT (majL (z0L l)))=true then(majL (z0L l),(0:Int))else _)=_;rw[yZ,hf,bB_size,decide_eq_true ⟨rfl,Nat.lt_irrefl _⟩]
 rfl
theorem okp{n:Int}(h:0<=n)(h2:n<9223372036854775808):IOk n:=⟨h,h2⟩
theorem lkOk_of{l:Lk}(hf:DT l=true)(hq:∀q∈l.roots,q.set.length<=1000000)(hr:l.roots.length<=1000000)(hi:∀i∈l.infs,i.place<9223372036854775808/\i.number<9223372036854775808/\i.left<9223372036854775808/\i.right<9223372036854775808)(hk:∀s∈l.skips,s.place<9223372036854775808/\s.inf<9223372036854775808):LkOk l:=by
 simp only[DT,Bool.and_eq_true,decide_eq_true_eq,List.all_eq_true]at hf;obtain⟨h1,h2,h3,h4,_,h6,h7,h8⟩:=hf;refine⟨fun q LP=>⟨fun s hs=>?_,hq q LP⟩,fun e he=>?_,fun i LN=>?_,fun s hs=>?_,hr,by omega,by omega,by omega⟩
 .have:=((ID h1 q LP).2).low s hs
  exact⟨okp B0 B0,okp B0 B0⟩
 .have:=h6 e he
  simp only[Lh,Ct,Bool.and_eq_true,decide_eq_true_eq]at this;obtain⟨⟨⟨_,⟨_,p2⟩,p3⟩,_⟩,_⟩:=this;unfold okPart at p2 p3;exact⟨okp B0 B0,okp B0 B0⟩
 .have a:=h7 i LN;simp only[co,decide_eq_true_eq]at a;have b:=hi i LN;exact⟨okp B0 B0,okp B0 B0,okp B0 B0,okp B0 B0,okp B0 B0⟩
 .have a:=h8 s hs;simp only[T7,decide_eq_true_eq]at a;have b:=hk s hs;exact⟨okp B0 B0,okp B0 B0⟩
theorem maj_of{l:Lk}(hf:DT l=true):∀e∈l.ents,setMaj (z0 e)=e:=fun e he=>by
 simp only[DT,Bool.and_eq_true,decide_eq_true_eq,List.all_eq_true]at hf;obtain⟨_,_,_,_,_,h6,_,_⟩:=hf
 have:=h6 e he
 simp only[Lh,Bool.and_eq_true,decide_eq_true_eq]at this;obtain⟨p,⟨a,b,c⟩,d,f⟩:=e;show(⟨p,⟨(BF p).getD 0,b,c⟩,d,f⟩:Lo)=_;rw[this.1.1.1];rfl
theorem dec_ok{s:ByteArray}(hs:s.size<=1000000)(h:(decL s).2=0):bB (lkL (decL s).1)=s/\DT (decL s).1=true/\LkOk (decL s).1:=by
 unfold decL at h⊢;split at h
 .rename_i c;rw[if_pos c];unfold decB at c;obtain⟨c1,c2⟩:=Bool.and_eq_true _ _▸c;have c1:=of_decide_eq_true c1;obtain⟨p',hp⟩:∃p',(rdS s).2=(p',0):=⟨(rdS s).2.1,by rw[<-c1.1]⟩;obtain⟨a1,a2,a3⟩:=(cod_lk (s:=s) s.size).snd 0 p' hp;have ok:=rdLk_ok (s:=s) (most:=s.size) (q:=(0,0)) ⟨Nat.zero_le _,.inl rfl⟩;have mE : p'=s.size:=by
   have q1:(rdS s).2.1<=s.size:=ok.1;have q2:=c1.2;rw[hp]at q1 q2;omega
  have hd:dr s p'=[]:=List.drop_of_length_le (by rw[mE];exact Nat.le_refl _);rw[hd,List.append_nil]at a2;have a2:s.data.toList=lkL (rdS s).1:=a2;show bB (lkL (majL (rdS s).1))=s/\DT (majL (rdS s).1)=true/\LkOk (majL (rdS s).1);rw[lkL_maj,<-a2,bB_data];refine⟨rfl,c2,lkOk_of c2 (fun q hq=>Nat.le_trans (a1.r.1 q hq).s.2.2 hs) (Nat.le_trans a1.r.2.2 hs) (fun i hi=>?_) (fun i hi=>?_)⟩
  .have:=a1.i.1 i hi
   exact⟨this.a.2,this.b.2,this.c.2,this.d.2⟩
  .have:=a1.k.1 i hi
   exact⟨this.a.2,this.b.2⟩
 .cases h
theorem uL_le:∀(k n:Nat),n<128 ^ k->1<=k->(uL n).length<=k
 |0,_,_,h=>by omega
 |k+1,n,h,_=>by
  by_cases c:n<128
  .rw[Zd c];simp
  .rw[cR c,List.length_cons];have h1:n / 128<128 ^ k:=by rw[Nat.div_lt_iff_lt_mul aa2];rwa [Nat.pow_succ]at h
   have h2:1<=k:=by
    rcases Nat.eq_zero_or_pos k with rfl | h3
    .rw[Nat.zero_add,Nat.pow_one]at h;omega
    .exact h3
   have:=uL_le k (n / 128) h1 h2
   omega
theorem uL_10{n:Nat}(h:n<9223372036854775808):(uL n).length<=10:=uL_le 10 n (Nat.lt_of_lt_of_le h aa2) aa2
theorem tL_le{x:ByteArray}(h:x.size<=100):(tL x).length<=110:=by
 unfold tL
 have:=uL_10 (n:=x.size) B0
 have e:x.data.toList.length=x.size:=rfl;rw[List.length_append];omega
theorem few_len{l:Lk}(h:MR l)(hI:LkOk l):(lkL l).length<=1000000:=by
 have hr:=h.rq;simp only[D8,KQ,Bool.and_eq_true,decide_eq_true_eq,List.all_eq_true]at hr;have he:=h.en;have hi:=h.nf;have hk:=h.sk;simp only[List.all_eq_true,bz,m9,WI,decide_eq_true_eq]at he hi hk;have a1:(l.roots.flatMap rqL).length<=l.roots.length*300:=flat_bd fun q hq=>by
  have b1:=hr.1 q hq;have b2:=tL_le b1.1;have b3:(q.set.flatMap spL).length<=q.set.length*20:=flat_bd fun s hs=>by
   have c:=(hI.rq q hq).i s hs;have c1:=uL_10 c.1.nat;have c2:=uL_10 c.2.nat;unfold spL;rw[nsL2,List.length_append];omega
  have b4:=uL_10 (n:=q.set.length) B0;unfold rqL liL;simp only[List.length_append];omega
 have a2:(l.ents.flatMap loL).length<=l.ents.length*350:=flat_bd fun e hq=>by
  have b1:=he e hq;have b2:=tL_le b1.1;have b3:=tL_le b1.2.1;have b4:=tL_le b1.2.2;have c:=hI.lo e hq;have c1:=uL_10 c.1.nat;have c2:=uL_10 c.2.nat;unfold loL;simp only[nsL2,List.length_append];omega
 have a3:(l.infs.flatMap nfL).length<=l.infs.length*160:=flat_bd fun e hq=>by
  have b2:=tL_le (hi e hq);have c:=hI.nf e hq;have c0:=uL_10 c.1.nat;have c1:=uL_10 c.2.1.nat;have c2:=uL_10 c.2.2.1.nat;have c3:=uL_10 c.2.2.2.1.nat;have c4:=uL_10 c.2.2.2.2.nat;unfold nfL;simp only[nsL4,List.length_append];omega
 have a4:(l.skips.flatMap skL).length<=l.skips.length*130:=flat_bd fun e hq=>by
  have b2:=tL_le (hk e hq);have c:=hI.sk e hq;have c1:=uL_10 c.1.nat;have c2:=uL_10 c.2.nat;unfold skL;simp only[nsL2,List.length_append];omega
 have n1:=uL_10 (n:=l.roots.length) B0;have n2:=uL_10 (n:=l.ents.length) (by have:=h.el;omega);have n3:=uL_10 (n:=l.infs.length) (by have:=h.il;omega);have n4:=uL_10 (n:=l.skips.length) (by have:=h.kl;omega)
 have:=h.el
 have:=h.il
 have:=h.kl
 unfold lkL liL;simp only[List.length_append];omega
end Go.Proofs
namespace Go.Eng
open Go.Proofs
variable {a b:ByteArray}
abbrev zV(n:Nat):Nm:=⟨[],[],[(2,n),(5,n)],[],[],[],[5],[],[],[],[2,3]⟩
theorem Aay(l:List Sl)(hl:Cz l):Bd Tryz.prog 76 [sl Al l] (Ag [] Ad) fun r h'=>r=.msl 2000 l.length/\h'=Ag [(2000,.arr 4 (l.map Al))] Ad:=by
 refine Bm (IF (zV 4)) [(2,2000)] rfl BB hm rfl Tryz.func76 aa3 rfl (Nz rfl) aa3 rfl ?_;have DG:BX 4 (l.map Al)/\([]:List (List AV)).length=0/\(([]:List (List AV)).length+(l.map Al).length)*40<=140737488355328/\([]:List (List AV)).length+(l.map Al).length<=9223372036854775807:=by
  refine⟨DK (enc:=Al) (n:=4) (fun _=>rfl) l,rfl,?_,?_⟩<;>simp only[A0,Lm]<;>unfold Cz at hl<;>omega
 have e1:AV.msl 2000 (([]:List (List AV)).length+(l.map Al).length)=.msl 2000 l.length:=aa0
 refine Xi 0 (Xi 0 (Yi ?_ ?_))
 .intro _;refine cU [(0,sl Al l)] [] Z1 Tv (Xi 2 (Yi DG ?_));exact Xi _ (Yi (.refl _) (Yi e1 rfl))
 .intro h;refine Yi ?_ ?_
  .refine Xi ⟨[],[],Ad⟩ (Yi ⟨trivial,trivial,fun _=>.inl rfl,Bp aa3⟩ ?_);refine Xi 2 ?_;exact Xi _ (Yi (.refl _) (Yi (show AV.msl 2000 0=_ by rw[DO.1 h];rfl) (show Ag [(2000,HO.arr 4 [])] Ad=_ by rw[h])))
  .refine cU [(0,sl Al l)] [] Z1 Tv (Xi 2 (Yi DG ?_));exact Xi _ (Yi (.refl _) (Yi e1 rfl))
theorem set_same{qs:List Rq}{k:Nat}(h:k<qs.length):(qs.map Af).set k (over (Af qs[k]) 1 [sl Ap qs[k].set])=qs.map Af:=by
 refine Cr fun j=>?_;rw[List.getElem?_set];split
 .rename_i e;subst e;rw[As (by rw[Lm];exact h),BE,Ge h];rfl
 .rfl
abbrev xU:Sl->Sl->Int:=fun a b=>Kq a.path b.path
theorem hJ:Kq a b<0↔E0 a b=true:=by
 unfold Kq
 by_cases h:E0 a b=true
 .rw[As h];simp[h]
 .rw[AB h];split<;>simp[h]
theorem ZQ:Kq a b=0↔a=b:=by
 unfold Kq;constructor
 .intro h;split at h
  .cases h
  .rename_i h1;split at h
   .cases h
   .rename_i h2;exact HT (by simpa using h1) (by simpa using h2)
 .rintro rfl
  rw[AB (by rw[CO];decide),AB (by rw[CO];decide)]
abbrev kept{α:Type}(p:α->Bool)(l:List α):List α:=l.filter fun x=>!p x
end Go.Eng
namespace Go.Eng
structure OC{α β:Type}(c:α->α->Int)(R:α->α->Prop)(key:α->β):Prop where
 lt:∀a b,c a b<0↔R a b
 eq:∀a b,c a b=0↔key a=key b
 tr:∀a b d,R a b->R b d->R a d
 irr:∀a b,key a=key b->¬R a b
 tri:∀a b,¬R a b->key a≠key b->R b a
 cl:∀a b d,key a=key b->R a d->R b d
section
variable {α β:Type}{c:α->α->Int}{R:α->α->Prop}{key:α->β}
theorem eQ(h:OC c R key){a:List α}(ha:a.Pairwise R):(a.map key).Nodup:=by
 unfold List.Nodup;rw[JM];exact ha.imp fun q e=>h.irr _ _ e q
end
/-! The three comparisons. -/
abbrev uo(a b:Sl):Prop:=E0 a.path b.path=true
theorem ocP:OC xU uo (fun s:Sl=>s.path) where
 lt _ _:=hJ
 eq _ _:=ZQ
 tr _ _ _:=DZ
 irr a b e h:=by rw[uo,e,CO]at h;cases h
 tri a b h e:=by
  cases q:E0 b.path a.path with
  |true=>exact q
  |false=>
   cases p:E0 a.path b.path with
   |true=>exact absurd p h
   |false=>exact absurd (HT p q) e
 cl a b d e h:=by rw[uo,<-e];exact h
/-! Pins. -/
/-! What the reference makes of a list. -/
theorem MK{α:Type}{l:List α}{i:Nat}(h:i<l.length):l.take (i+1)=l.take i++[l[i]]:=Ep h
end Go.Eng
namespace Go.Eng
open Go.Proofs
end Go.Eng
