/- The law OverrideUnits of chapter 40 returns true and leaves the memory as it was, for inputs of bounded bulk. -/
import Derived.Test.YtmcbkdbfaneofaaGreatDoorCA32
namespace Go.Proofs.YtmcbkdbfaneofaaGreatDoor.joins
open Go Go.Eng Go.Proofs Go.ChangeShapes Go.WideShapes Go.ChangeAt Go.RowKit
abbrev args6:Array Value:=#[.agg #[nilV,nilV,nilV]]
theorem laid_met6(os:Os):laidMet Tryz.prog Rows.overrideUnitsUptoRow.laid ((laidWorld os).forCall (fun _ _=>0) ⟨#[],args6,[]⟩).memory :=
 laidMet_of_run' 8 (by as_aux_lemma=>kernel_rfl) (by as_aux_lemma=>kernel_rfl)
theorem reads6(os:Os){H:Type}(enc:TypeId×Value→H):∃places,DataW.whole enc Tryz.prog ((laidWorld os).forCall (fun _ _=>0) ⟨#[],args6,[]⟩).memory Tryz.f6.params.toList Rows.overrideUnitsSpec.vars false args6.toList 8 =
  some ([.agg [.nil,.nil,.nil]],[],places) :=
 ⟨[],by kernel_rfl⟩
set_option maxRecDepth 100000 in
theorem contract6(H:Type)(enc:TypeId×Value→H)(W:World)(base:Nat)(args:Array Value)(ds gs:List (DataW H))(before:List MemPlace)
  (Km:∀(j:Nat) t v,Tryz.f6.params[j]?=some t→args[j]?=some v→Value.okWide Tryz.prog W .any base t v)
  (hW:DataW.Whole enc Tryz.prog Tryz.f6.params.toList Rows.overrideUnitsSpec.vars false W args.toList ds gs before) (hk:Rows.uptoSmall H (ds++gs)=true) (hM:∃m,W.cell? ⟨0,0,none⟩=some (.int .i64 m)) :
  Calls Tryz.prog 6 args W fun e W'=>∃v,e=.returned v∧Rows.overrideUnitsSpec.post enc Tryz.prog Tryz.f6 false true false false W args v W':=by
 have yP:=hW
 obtain⟨p,q,yw,hV,rfl,hfz,Q0⟩:=hW
 have hA:DataW.TrodAll enc Tryz.prog W 0 (fun _=>true) true Tryz.f6.params.toList args.toList ds p:=yw
 rw[Tryz.params6]at hA Km
 obtain⟨v0,vs0,d0,ds0,p0,q0,I6,rfl,rfl,h0,r0⟩:=trodAll_cons hA
 obtain⟨rfl,rfl,rfl⟩:=trodAll_nil r0
 have pn:args=#[v0]:=arr1 I6
 subst pn
 obtain⟨rfl,rfl⟩:=trodVars_none hV
 have hb:Rows.uptoBulkAll ([d0]:List (DataW H))≤1048576:=by
  rw[BZ]at hk
  exact BJ hk
 have bd:∀d∈([d0]:List (DataW H)),Rows.uptoBulk d≤NB:=fun d hd=>A3 (all_le hd) hb
 obtain⟨c0,rfl⟩:=ok_agg Tryz.underlying28 (Km 0 28 v0 rfl rfl)
 obtain⟨x0,R0,K0⟩:=gy oWk h0 (bd _ (by simp))
 have hc:PC 6 [.agg (Bx x0)] (vb true):=uH x0 (limw_of K0)
 refine(run_true (vals:=#[.agg c0]) hc hM rfl (fun i av y e1 e2=>?_)).mono fun e W' ⟨he,hs⟩=>⟨_,he,post_true hs rfl (by simpa using yP) rfl (by rw[Tryz.params6];decide +kernel) rfl⟩
 match i with
 |0=>cases e1;cases e2;exact R0
 |_+1=>simp at e1
set_option maxRecDepth 100000 in
theorem lifted6(os:Os)(started:os.Started)(H:Type)(enc:TypeId×Value→H)(F:Stop.Interp) :
  ReturnsInHanded {} Tryz.checked os 6 .any ((Rows.OpenSpec.upto Rows.overrideUnitsSpec).preRow enc Tryz.prog Tryz.f6 Rows.overrideUnitsUptoRow.domain false Rows.overrideUnitsUptoRow.laid) (((Rows.OpenSpec.upto Rows.overrideUnitsSpec).at F).post enc Tryz.prog Tryz.f6 false true false false):=by
 obtain⟨places,hx⟩:=reads6 os enc
 refine returnsInHanded_of_row (C:=Tryz.checked) (s:=Rows.OpenSpec.upto Rows.overrideUnitsSpec) own started (by as_aux_lemma=>kernel_rfl) Tryz.func6
  (witness_row_at (enc:=enc) (C:=Tryz.checked) false (laidWorld os) args6 rfl (by as_aux_lemma=>kernel_rfl) (by as_aux_lemma=>kernel_rfl) (by as_aux_lemma=>kernel_rfl)
   (OpenSpec.preRow_of_cond 8 hx (by as_aux_lemma=>kernel_rfl) (fun k hk=>by cases hk;as_aux_lemma=>kernel_rfl) (by as_aux_lemma=>kernel_rfl) (laid_met6 os))) ?_
 intro W base args ds gs before Km hW _ fc _ _ zE _
 exact contract6 H enc W base args ds gs before Km hW (fc _ rfl) (maxLen_cell zE)
theorem and_mk{a b:Bool}(h:a=true)(k:b=true):(a&&b)=true:=by rw[h,k];rfl
set_option maxHeartbeats 4000000 in
theorem closed:joinedFacts Tryz.pinned.checked.prog 6 Tryz.f6 (Rows.OpenSpec.upto Rows.overrideUnitsSpec).bare Rows.overrideUnitsUptoRow=true:=by
 unfold joinedFacts
 repeat' with_reducible refine and_mk ?_ ?_
 all_goals (as_aux_lemma=>kernel_rfl)
theorem said6:Rows.OverrideUnitsUptoSaid :=
 OpenClaim.holds_of_cond 6 Tryz.f6 rfl rfl rfl rfl rfl rfl rfl ⟨rfl,rfl,rfl,rfl,rfl⟩ rfl rfl rfl rfl rfl (by as_aux_lemma=>kernel_rfl) Tryz.func6 closed
  (BJ (by as_aux_lemma=>kernel_rfl)) (by unfold Func.isWrapper;first | (rw[Aw (by decide +kernel)];kernel_rfl) | (rw[Ak (by decide +kernel)];exact⟨rfl,rfl⟩))
  (fun os started H enc _ F=>by rw[OpenClaim.pre_eq_preRow];exact lifted6 os started H enc F)
theorem plain6 (f : FuncId) (fn : Func) (hf : Tryz.pinned.checked.prog.funcNamed "modcert/modcertlaw40.OverrideUnits" = some f) (pT : Tryz.pinned.checked.prog.funcs[f]? = some fn) :
  false=Tryz.pinned.checked.prog.looks []∧∀(j:Nat) t,fn.params[j]?=some t→Tryz.pinned.checked.prog.wantsStandIn t=false:=by
 obtain rfl : f = 6 := BL ((show Tryz.prog.funcNamed "modcert/modcertlaw40.OverrideUnits" = some 6 by kernel_rfl).symm.trans hf) |>.symm
 obtain rfl:fn=Tryz.f6:=(BL (Tryz.func6.symm.trans pT)).symm
 refine⟨looksOff,fun j t ht=>noStand t ?_⟩
 rw[Tryz.params6]at ht
 have hm:t∈#[28]:=Array.mem_of_getElem? ht
 exact(show ∀t∈([28]:List Nat),t∈([25,28,43]:List Nat) by decide) t (by simpa using hm)
theorem card6:Rows.OverrideUnitsUptoCardSaid :=
 Claim7.holds_tied_plain_at .later [] _ _ _ _ said6 (fun _ h=>by cases h) (by kernel_rfl) (fun _ h=>by cases h) overrideUnitsUpto_row_tie rfl ⟨rfl,rfl⟩ (by kernel_rfl) rfl plain6 (by kernel_rfl)
end Go.Proofs.YtmcbkdbfaneofaaGreatDoor.joins
