/- The law OverrideInner of chapter 40 returns true and leaves the memory as it was, for inputs of bounded bulk. -/
import Derived.Test.YtmcbkdbfaneofaaGreatDoorDA32
namespace Go.Proofs.YtmcbkdbfaneofaaGreatDoor.joins
open Go Go.Eng Go.Proofs Go.ChangeShapes Go.WideShapes Go.ChangeAt Go.RowKit
abbrev args7:Array Value:=#[.agg #[nilV,nilV,nilV],.agg #[nilV,nilV,nilV]]
theorem laid_met7(os:Os):laidMet Tryz.prog Rows.overrideInnerUptoRow.laid ((laidWorld os).forCall (fun _ _=>0) ⟨#[],args7,[]⟩).memory :=
 laidMet_of_run' 8 (by as_aux_lemma=>kernel_rfl) (by as_aux_lemma=>kernel_rfl)
theorem reads7(os:Os){H:Type}(enc:TypeId×Value→H):∃places,DataW.whole enc Tryz.prog ((laidWorld os).forCall (fun _ _=>0) ⟨#[],args7,[]⟩).memory Tryz.f7.params.toList Rows.overrideInnerSpec.vars false args7.toList 8 =
  some ([.agg [.nil,.nil,.nil],.agg [.nil,.nil,.nil]],[],places) :=
 ⟨[],by kernel_rfl⟩
set_option maxRecDepth 100000 in
theorem contract7(H:Type)(enc:TypeId×Value→H)(W:World)(base:Nat)(args:Array Value)(ds gs:List (DataW H))(before:List MemPlace)
  (JY:∀(j:Nat) t v,Tryz.f7.params[j]?=some t→args[j]?=some v→Value.okWide Tryz.prog W .any base t v)
  (hW:DataW.Whole enc Tryz.prog Tryz.f7.params.toList Rows.overrideInnerSpec.vars false W args.toList ds gs before) (hk:Rows.uptoSmall H (ds++gs)=true) (hM:∃m,W.cell? ⟨0,0,none⟩=some (.int .i64 m)) :
  Calls Tryz.prog 7 args W fun e W'=>∃v,e=.returned v∧Rows.overrideInnerSpec.post enc Tryz.prog Tryz.f7 false true false false W args v W':=by
 have zd:=hW
 obtain⟨p,q,yN,hV,rfl,hfz,QY⟩:=hW
 have hA:DataW.TrodAll enc Tryz.prog W 0 (fun _=>true) true Tryz.f7.params.toList args.toList ds p:=yN
 rw[Tryz.params7]at hA JY
 obtain⟨v0,vs0,d0,ds0,p0,q0,I9,rfl,rfl,h0,r0⟩:=trodAll_cons hA
 obtain⟨v1,vs1,d1,ds1,p1,q1,rfl,rfl,rfl,h1,r1⟩:=trodAll_cons r0
 obtain⟨rfl,rfl,rfl⟩:=trodAll_nil r1
 have pD:args=#[v0,v1]:=arr2 I9
 subst pD
 obtain⟨rfl,rfl⟩:=trodVars_none hV
 have hb:Rows.uptoBulkAll ([d0,d1]:List (DataW H))≤1048576:=by
  rw[B3]at hk
  exact BG hk
 have bd:∀d∈([d0,d1]:List (DataW H)),Rows.uptoBulk d≤NB:=fun d hd=>A5 (all_le hd) hb
 obtain⟨c0,rfl⟩:=ok_agg Tryz.underlying28 (JY 0 28 v0 rfl rfl)
 obtain⟨c1,rfl⟩:=ok_agg Tryz.underlying28 (JY 1 28 v1 rfl rfl)
 obtain⟨x0,R0,K0⟩:=X1 oWk h0 (bd _ (by simp))
 obtain⟨x1,R1,K1⟩:=X1 oWk h1 (bd _ (by simp))
 have hc:PC 7 [.agg (Bg x0),.agg (Bg x1)] (vb true):=uY x0 x1 (limw_of K0) (limw_of K1)
 refine(run_true (vals:=#[.agg c0,.agg c1]) hc hM rfl (fun i av y e1 e2=>?_)).mono fun e W' ⟨he,hs⟩=>⟨_,he,post_true hs rfl (by simpa using zd) rfl (by rw[Tryz.params7];decide +kernel) rfl⟩
 match i with
 |0=>cases e1;cases e2;exact R0
 |1=>cases e1;cases e2;exact R1
 |_+2=>simp at e1
set_option maxRecDepth 100000 in
theorem lifted7(os:Os)(started:os.Started)(H:Type)(enc:TypeId×Value→H)(F:Stop.Interp) :
  ReturnsInHanded {} Tryz.checked os 7 .any ((Rows.OpenSpec.upto Rows.overrideInnerSpec).preRow enc Tryz.prog Tryz.f7 Rows.overrideInnerUptoRow.domain false Rows.overrideInnerUptoRow.laid) (((Rows.OpenSpec.upto Rows.overrideInnerSpec).at F).post enc Tryz.prog Tryz.f7 false true false false):=by
 obtain⟨places,hx⟩:=reads7 os enc
 refine returnsInHanded_of_row (C:=Tryz.checked) (s:=Rows.OpenSpec.upto Rows.overrideInnerSpec) own started (by as_aux_lemma=>kernel_rfl) Tryz.func7
  (witness_row_at (enc:=enc) (C:=Tryz.checked) false (laidWorld os) args7 rfl (by as_aux_lemma=>kernel_rfl) (by as_aux_lemma=>kernel_rfl) (by as_aux_lemma=>kernel_rfl)
   (OpenSpec.preRow_of_cond 8 hx (by as_aux_lemma=>kernel_rfl) (fun k hk=>by cases hk;as_aux_lemma=>kernel_rfl) (by as_aux_lemma=>kernel_rfl) (laid_met7 os))) ?_
 intro W base args ds gs before JY hW _ fg _ _ zW _
 exact contract7 H enc W base args ds gs before JY hW (fg _ rfl) (maxLen_cell zW)
theorem and_mk{a b:Bool}(h:a=true)(k:b=true):(a&&b)=true:=by rw[h,k];rfl
set_option maxHeartbeats 4000000 in
theorem closed:joinedFacts Tryz.pinned.checked.prog 7 Tryz.f7 (Rows.OpenSpec.upto Rows.overrideInnerSpec).bare Rows.overrideInnerUptoRow=true:=by
 unfold joinedFacts
 repeat' with_reducible refine and_mk ?_ ?_
 all_goals (as_aux_lemma=>kernel_rfl)
theorem said7:Rows.OverrideInnerUptoSaid :=
 OpenClaim.holds_of_cond 7 Tryz.f7 rfl rfl rfl rfl rfl rfl rfl ⟨rfl,rfl,rfl,rfl,rfl⟩ rfl rfl rfl rfl rfl (by as_aux_lemma=>kernel_rfl) Tryz.func7 closed
  (BG (by as_aux_lemma=>kernel_rfl)) (by unfold Func.isWrapper;first | (rw[Az (by decide +kernel)];kernel_rfl) | (rw[Al (by decide +kernel)];exact⟨rfl,rfl⟩))
  (fun os started H enc _ F=>by rw[OpenClaim.pre_eq_preRow];exact lifted7 os started H enc F)
theorem plain7 (f : FuncId) (fn : Func) (hf : Tryz.pinned.checked.prog.funcNamed "modcert/modcertlaw40.OverrideInner" = some f) (qb : Tryz.pinned.checked.prog.funcs[f]? = some fn) :
  false=Tryz.pinned.checked.prog.looks []∧∀(j:Nat) t,fn.params[j]?=some t→Tryz.pinned.checked.prog.wantsStandIn t=false:=by
 obtain rfl : f = 7 := BM ((show Tryz.prog.funcNamed "modcert/modcertlaw40.OverrideInner" = some 7 by kernel_rfl).symm.trans hf) |>.symm
 obtain rfl:fn=Tryz.f7:=(BM (Tryz.func7.symm.trans qb)).symm
 refine⟨looksOff,fun j t ht=>noStand t ?_⟩
 rw[Tryz.params7]at ht
 have hm:t∈#[28,28]:=Array.mem_of_getElem? ht
 exact(show ∀t∈([28,28]:List Nat),t∈([25,28,43]:List Nat) by decide) t (by simpa using hm)
theorem card7:Rows.OverrideInnerUptoCardSaid :=
 Claim7.holds_tied_plain_at .later [] _ _ _ _ said7 (fun _ h=>by cases h) (by kernel_rfl) (fun _ h=>by cases h) overrideInnerUpto_row_tie rfl ⟨rfl,rfl⟩ (by kernel_rfl) rfl plain7 (by kernel_rfl)
end Go.Proofs.YtmcbkdbfaneofaaGreatDoor.joins
