/- The law YankRefreshes of chapter 43 returns true and leaves the memory as it was, for inputs of bounded bulk. -/
import Derived.Test.YtddfphmpfnmknaaGreatDoorGA35
namespace Go.Proofs.YtddfphmpfnmknaaGreatDoor.joins
open Go Go.Eng Go.Proofs Go.ChangeShapes Go.WideShapes Go.ChangeAt Go.RowKit
abbrev args7:Array Value:=#[.agg #[nilV,nilV],nilV,nilV,.agg #[.string ⟨#[]⟩,.int .i64 0,.int .i64 0,.int .i64 0]]
theorem laid_met7(os:Os):laidMet Tryz.prog Rows.yankRefreshesUptoRow.laid ((laidWorld os).forCall (fun _ _=>0) ⟨#[],args7,[]⟩).memory :=
 laidMet_of_run' 8 (by as_aux_lemma=>kernel_rfl) (by as_aux_lemma=>kernel_rfl)
theorem reads7(os:Os){H:Type}(enc:TypeId×Value→H):∃places,DataW.whole enc Tryz.prog ((laidWorld os).forCall (fun _ _=>0) ⟨#[],args7,[]⟩).memory Tryz.f7.params.toList Rows.yankRefreshesSpec.vars false args7.toList 8 =
  some ([.agg [.nil,.nil],.nil,.nil,.agg [.lit (.string []),.agg [.lit (.int .i64 0),.lit (.int .i64 0),.lit (.int .i64 0)]]],[],places) :=
 ⟨[],by kernel_rfl⟩
set_option maxRecDepth 100000 in
theorem contract7(H:Type)(enc:TypeId×Value→H)(W:World)(base:Nat)(args:Array Value)(ds gs:List (DataW H))(before:List MemPlace)
  (hval:∀(j:Nat) t v,Tryz.f7.params[j]?=some t→args[j]?=some v→Value.okWide Tryz.prog W .any base t v)
  (hW:DataW.Whole enc Tryz.prog Tryz.f7.params.toList Rows.yankRefreshesSpec.vars false W args.toList ds gs before) (hk:Rows.uptoSmall H (ds++gs)=true) (hM:∃m,W.cell? ⟨0,0,none⟩=some (.int .i64 m)) :
  Calls Tryz.prog 7 args W fun e W'=>∃v,e=.returned v∧Rows.yankRefreshesSpec.post enc Tryz.prog Tryz.f7 false true false false W args v W':=by
 have hW':=hW
 obtain⟨p,q,hA0,hV,rfl,hfz,Oh⟩:=hW
 have hA:DataW.TrodAll enc Tryz.prog W 0 (fun _=>true) true Tryz.f7.params.toList args.toList ds p:=hA0
 rw[Tryz.params7]at hA hval
 obtain⟨v0,vs0,d0,ds0,p0,q0,Ke,rfl,rfl,h0,r0⟩:=trodAll_cons hA
 obtain⟨v1,vs1,d1,ds1,p1,q1,rfl,rfl,rfl,h1,r1⟩:=trodAll_cons r0
 obtain⟨v2,vs2,d2,ds2,p2,q2,rfl,rfl,rfl,h2,r2⟩:=trodAll_cons r1
 obtain⟨v3,vs3,d3,ds3,p3,q3,rfl,rfl,rfl,h3,r3⟩:=trodAll_cons r2
 obtain⟨rfl,rfl,rfl⟩:=trodAll_nil r3
 have uT:args=#[v0,v1,v2,v3]:=arr4 Ke
 subst uT
 obtain⟨rfl,rfl⟩:=trodVars_none hV
 have hb:Rows.uptoBulkAll ([d0,d1,d2,d3]:List (DataW H))≤1048576:=by
  rw[BL]at hk
  exact A4 hk
 have bd:∀d∈([d0,d1,d2,d3]:List (DataW H)),Rows.uptoBulk d≤NB:=fun d hd=>Bf (all_le hd) hb
 obtain⟨c0,rfl⟩:=ok_agg Tryz.underlying25 (hval 0 25 v0 rfl rfl)
 have hv1:=ok_slice Tryz.underlying39 (hval 1 39 v1 rfl rfl)
 have su:=ok_slice Tryz.underlying45 (hval 2 45 v2 rfl rfl)
 obtain⟨c3,rfl⟩:=ok_agg Tryz.underlying29 (hval 3 29 v3 rfl rfl)
 obtain⟨x0,R0,K0⟩:=aL oIx h0 (bd _ (by simp))
 obtain⟨x1,R1,K1⟩:=aM (e:=fun l:List Rq=>sl AH l) oRqs hv1 h1 (bd _ (by simp))
 obtain⟨x2,R2,K2⟩:=aM (e:=fun l:List Sl=>sl Ac l) oSls su h2 (bd _ (by simp))
 obtain⟨x3,R3,K3⟩:=aL oSl h3 (bd _ (by simp))
 have hc:PC 7 [EZ x0.1 x0.2,sl AH x1,sl Ac x2,.agg (Ac x3)] (vb true):=Ab7 x0.1 x0.2 x1 x2 x3 (lim_of K0.1 K1) (lim43_of K0) (few_of K2.1)
 refine(run_true (vals:=#[.agg c0,v1,v2,.agg c3]) hc hM rfl (fun i av y e1 e2=>?_)).mono fun e W' ⟨he,hs⟩=>⟨_,he,post_true hs rfl (by simpa using hW') rfl (by rw[Tryz.params7];decide +kernel) rfl⟩
 match i with
 |0=>cases e1;cases e2;exact R0
 |1=>cases e1;cases e2;exact R1
 |2=>cases e1;cases e2;exact R2
 |3=>cases e1;cases e2;exact R3
 |_+4=>simp at e1
set_option maxRecDepth 100000 in
theorem lifted7(os:Os)(started:os.Started)(H:Type)(enc:TypeId×Value→H)(F:Stop.Interp) :
  ReturnsInHanded {} Tryz.checked os 7 .any ((Rows.OpenSpec.upto Rows.yankRefreshesSpec).preRow enc Tryz.prog Tryz.f7 Rows.yankRefreshesUptoRow.domain false Rows.yankRefreshesUptoRow.laid) (((Rows.OpenSpec.upto Rows.yankRefreshesSpec).at F).post enc Tryz.prog Tryz.f7 false true false false):=by
 obtain⟨places,hx⟩:=reads7 os enc
 refine returnsInHanded_of_row (C:=Tryz.checked) (s:=Rows.OpenSpec.upto Rows.yankRefreshesSpec) own started (by as_aux_lemma=>kernel_rfl) Tryz.func7
  (witness_row_at (enc:=enc) (C:=Tryz.checked) false (laidWorld os) args7 rfl (by as_aux_lemma=>kernel_rfl) (by as_aux_lemma=>kernel_rfl) (by as_aux_lemma=>kernel_rfl)
   (OpenSpec.preRow_of_cond 8 hx (by as_aux_lemma=>kernel_rfl) (fun k hk=>by cases hk;as_aux_lemma=>kernel_rfl) (by as_aux_lemma=>kernel_rfl) (laid_met7 os))) ?_
 intro W base args ds gs before hval hW _ kF _ _ hsh _
 exact contract7 H enc W base args ds gs before hval hW (kF _ rfl) (maxLen_cell hsh)
theorem and_mk{a b:Bool}(h:a=true)(k:b=true):(a&&b)=true:=by rw[h,k];rfl
set_option maxHeartbeats 4000000 in
theorem closed:joinedFacts Tryz.pinned.checked.prog 7 Tryz.f7 (Rows.OpenSpec.upto Rows.yankRefreshesSpec).bare Rows.yankRefreshesUptoRow=true:=by
 unfold joinedFacts
 repeat' with_reducible refine and_mk ?_ ?_
 all_goals (as_aux_lemma=>kernel_rfl)
theorem said7:Rows.YankRefreshesUptoSaid :=
 OpenClaim.holds_of_cond 7 Tryz.f7 rfl rfl rfl rfl rfl rfl rfl ⟨rfl,rfl,rfl,rfl,rfl⟩ rfl rfl rfl rfl rfl (by as_aux_lemma=>kernel_rfl) Tryz.func7 closed
  (A4 (by as_aux_lemma=>kernel_rfl)) (by unfold Func.isWrapper;first | (rw[Al (by decide +kernel)];kernel_rfl) | (rw[Ae (by decide +kernel)];exact⟨rfl,rfl⟩))
  (fun os started H enc _ F=>by rw[OpenClaim.pre_eq_preRow];exact lifted7 os started H enc F)
theorem plain7 (f : FuncId) (fn : Func) (hf : Tryz.pinned.checked.prog.funcNamed "modcert/modcertlaw43.YankRefreshes" = some f) (vK : Tryz.pinned.checked.prog.funcs[f]? = some fn) :
  false=Tryz.pinned.checked.prog.looks []∧∀(j:Nat) t,fn.params[j]?=some t→Tryz.pinned.checked.prog.wantsStandIn t=false:=by
 obtain rfl : f = 7 := Cr ((show Tryz.prog.funcNamed "modcert/modcertlaw43.YankRefreshes" = some 7 by kernel_rfl).symm.trans hf) |>.symm
 obtain rfl:fn=Tryz.f7:=(Cr (Tryz.func7.symm.trans vK)).symm
 refine⟨looksOff,fun j t ht=>noStand t ?_⟩
 rw[Tryz.params7]at ht
 have hm:t∈#[25,39,45,29]:=Array.mem_of_getElem? ht
 exact(show ∀t∈([25,39,45,29]:List Nat),t∈([25,29,39,45,62]:List Nat) by decide) t (by simpa using hm)
theorem card7:Rows.YankRefreshesUptoCardSaid :=
 Claim7.holds_tied_plain_at .later [] _ _ _ _ said7 (fun _ h=>by cases h) (by kernel_rfl) (fun _ h=>by cases h) yankRefreshesUpto_row_tie rfl ⟨rfl,rfl⟩ (by kernel_rfl) rfl plain7 (by kernel_rfl)
end Go.Proofs.YtddfphmpfnmknaaGreatDoor.joins
