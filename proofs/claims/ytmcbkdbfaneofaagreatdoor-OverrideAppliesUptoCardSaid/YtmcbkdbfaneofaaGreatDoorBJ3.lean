/- The law OverrideApplies of chapter 40 returns true and leaves the memory as it was, for inputs of bounded bulk. -/
import Derived.Test.YtmcbkdbfaneofaaGreatDoorBA34
namespace Go.Proofs.YtmcbkdbfaneofaaGreatDoor.joins
open Go Go.Eng Go.Proofs Go.ChangeShapes Go.WideShapes Go.ChangeAt Go.RowKit
abbrev args3:Array Value:=#[.agg #[nilV,nilV],.agg #[nilV,nilV,nilV]]
theorem laid_met3(os:Os):laidMet Tryz.prog Rows.overrideAppliesUptoRow.laid ((laidWorld os).forCall (fun _ _=>0) ⟨#[],args3,[]⟩).memory :=
 laidMet_of_run' 8 (by as_aux_lemma=>kernel_rfl) (by as_aux_lemma=>kernel_rfl)
theorem reads3(os:Os){H:Type}(enc:TypeId×Value→H):∃places,DataW.whole enc Tryz.prog ((laidWorld os).forCall (fun _ _=>0) ⟨#[],args3,[]⟩).memory Tryz.f3.params.toList Rows.overrideAppliesSpec.vars false args3.toList 8 =
  some ([.agg [.nil,.nil],.agg [.nil,.nil,.nil]],[],places) :=
 ⟨[],by kernel_rfl⟩
set_option maxRecDepth 100000 in
theorem contract3(H:Type)(enc:TypeId×Value→H)(W:World)(base:Nat)(args:Array Value)(ds gs:List (DataW H))(before:List MemPlace)
  (Kt:∀(j:Nat) t v,Tryz.f3.params[j]?=some t→args[j]?=some v→Value.okWide Tryz.prog W .any base t v)
  (hW:DataW.Whole enc Tryz.prog Tryz.f3.params.toList Rows.overrideAppliesSpec.vars false W args.toList ds gs before) (hk:Rows.uptoSmall H (ds++gs)=true) (hM:∃m,W.cell? ⟨0,0,none⟩=some (.int .i64 m)) :
  Calls Tryz.prog 3 args W fun e W'=>∃v,e=.returned v∧Rows.overrideAppliesSpec.post enc Tryz.prog Tryz.f3 false true false false W args v W':=by
 have hW':=hW
 obtain⟨p,q,hA0,hV,rfl,hfz,Sb⟩:=hW
 have hA:DataW.TrodAll enc Tryz.prog W 0 (fun _=>true) true Tryz.f3.params.toList args.toList ds p:=hA0
 rw[Tryz.params3]at hA Kt
 obtain⟨v0,vs0,d0,ds0,p0,q0,JE,rfl,rfl,h0,r0⟩:=trodAll_cons hA
 obtain⟨v1,vs1,d1,ds1,p1,q1,rfl,rfl,rfl,h1,r1⟩:=trodAll_cons r0
 obtain⟨rfl,rfl,rfl⟩:=trodAll_nil r1
 have ry:args=#[v0,v1]:=arr2 JE
 subst ry
 obtain⟨rfl,rfl⟩:=trodVars_none hV
 have hb:Rows.uptoBulkAll ([d0,d1]:List (DataW H))≤1048576:=by
  rw[BS]at hk
  exact BC hk
 have bd:∀d∈([d0,d1]:List (DataW H)),Rows.uptoBulk d≤NB:=fun d hd=>AT (all_le hd) hb
 obtain⟨c0,rfl⟩:=ok_agg Tryz.underlying25 (Kt 0 25 v0 rfl rfl)
 obtain⟨c1,rfl⟩:=ok_agg Tryz.underlying28 (Kt 1 28 v1 rfl rfl)
 obtain⟨x0,R0,K0⟩:=YT oIx h0 (bd _ (by simp))
 obtain⟨x1,R1,K1⟩:=YT oWk h1 (bd _ (by simp))
 have hc:PC 3 [M8 x0.1 x0.2,.agg (BH x1)] (vb true):=xA x0.1 x0.2 x1 (lim0_of K0.1) (limw_of K1) (few_of K0.2.1) K0.2.2 K0.1.1
 refine(run_true (vals:=#[.agg c0,.agg c1]) hc hM rfl (fun i av y e1 e2=>?_)).mono fun e W' ⟨he,hs⟩=>⟨_,he,post_true hs rfl (by simpa using hW') rfl (by rw[Tryz.params3];decide +kernel) rfl⟩
 match i with
 |0=>cases e1;cases e2;exact R0
 |1=>cases e1;cases e2;exact R1
 |_+2=>simp at e1
set_option maxRecDepth 100000 in
theorem lifted3(os:Os)(started:os.Started)(H:Type)(enc:TypeId×Value→H)(F:Stop.Interp) :
  ReturnsInHanded {} Tryz.checked os 3 .any ((Rows.OpenSpec.upto Rows.overrideAppliesSpec).preRow enc Tryz.prog Tryz.f3 Rows.overrideAppliesUptoRow.domain false Rows.overrideAppliesUptoRow.laid) (((Rows.OpenSpec.upto Rows.overrideAppliesSpec).at F).post enc Tryz.prog Tryz.f3 false true false false):=by
 obtain⟨places,hx⟩:=reads3 os enc
 refine returnsInHanded_of_row (C:=Tryz.checked) (s:=Rows.OpenSpec.upto Rows.overrideAppliesSpec) own started (by as_aux_lemma=>kernel_rfl) Tryz.func3
  (witness_row_at (enc:=enc) (C:=Tryz.checked) false (laidWorld os) args3 rfl (by as_aux_lemma=>kernel_rfl) (by as_aux_lemma=>kernel_rfl) (by as_aux_lemma=>kernel_rfl)
   (OpenSpec.preRow_of_cond 8 hx (by as_aux_lemma=>kernel_rfl) (fun k hk=>by cases hk;as_aux_lemma=>kernel_rfl) (by as_aux_lemma=>kernel_rfl) (laid_met3 os))) ?_
 intro W base args ds gs before Kt hW _ gO _ _ hsh _
 exact contract3 H enc W base args ds gs before Kt hW (gO _ rfl) (maxLen_cell hsh)
theorem and_mk{a b:Bool}(h:a=true)(k:b=true):(a&&b)=true:=by rw[h,k];rfl
set_option maxHeartbeats 4000000 in
theorem closed:joinedFacts Tryz.pinned.checked.prog 3 Tryz.f3 (Rows.OpenSpec.upto Rows.overrideAppliesSpec).bare Rows.overrideAppliesUptoRow=true:=by
 unfold joinedFacts
 repeat' with_reducible refine and_mk ?_ ?_
 all_goals (as_aux_lemma=>kernel_rfl)
theorem said3:Rows.OverrideAppliesUptoSaid :=
 OpenClaim.holds_of_cond 3 Tryz.f3 rfl rfl rfl rfl rfl rfl rfl ⟨rfl,rfl,rfl,rfl,rfl⟩ rfl rfl rfl rfl rfl (by as_aux_lemma=>kernel_rfl) Tryz.func3 closed
  (BC (by as_aux_lemma=>kernel_rfl)) (by unfold Func.isWrapper;first | (rw[Au (by decide +kernel)];kernel_rfl) | (rw[Al (by decide +kernel)];exact⟨rfl,rfl⟩))
  (fun os started H enc _ F=>by rw[OpenClaim.pre_eq_preRow];exact lifted3 os started H enc F)
theorem plain3 (f : FuncId) (fn : Func) (hf : Tryz.pinned.checked.prog.funcNamed "modcert/modcertlaw40.OverrideApplies" = some f) (r7 : Tryz.pinned.checked.prog.funcs[f]? = some fn) :
  false=Tryz.pinned.checked.prog.looks []∧∀(j:Nat) t,fn.params[j]?=some t→Tryz.pinned.checked.prog.wantsStandIn t=false:=by
 obtain rfl : f = 3 := Bv ((show Tryz.prog.funcNamed "modcert/modcertlaw40.OverrideApplies" = some 3 by kernel_rfl).symm.trans hf) |>.symm
 obtain rfl:fn=Tryz.f3:=(Bv (Tryz.func3.symm.trans r7)).symm
 refine⟨looksOff,fun j t ht=>noStand t ?_⟩
 rw[Tryz.params3]at ht
 have hm:t∈#[25,28]:=Array.mem_of_getElem? ht
 exact(show ∀t∈([25,28]:List Nat),t∈([25,28,43]:List Nat) by decide) t (by simpa using hm)
theorem card3:Rows.OverrideAppliesUptoCardSaid :=
 Claim7.holds_tied_plain_at .later [] _ _ _ _ said3 (fun _ h=>by cases h) (by kernel_rfl) (fun _ h=>by cases h) overrideAppliesUpto_row_tie rfl ⟨rfl,rfl⟩ (by kernel_rfl) rfl plain3 (by kernel_rfl)
end Go.Proofs.YtmcbkdbfaneofaaGreatDoor.joins
