/- The law YankChanges of chapter 43 returns true and leaves the memory as it was, for inputs of bounded bulk. -/
import Derived.Test.YtddfphmpfnmknaaGreatDoorDA33
namespace Go.Proofs.YtddfphmpfnmknaaGreatDoor.joins
open Go Go.Eng Go.Proofs Go.ChangeShapes Go.WideShapes Go.ChangeAt Go.RowKit
abbrev args6:Array Value:=#[.agg #[nilV,nilV],.agg #[.string ⟨#[]⟩,.int .i64 0,.int .i64 0,.int .i64 0],nilV]
theorem laid_met6(os:Os):laidMet Tryz.prog Rows.yankChangesUptoRow.laid ((laidWorld os).forCall (fun _ _=>0) ⟨#[],args6,[]⟩).memory :=
 laidMet_of_run' 8 (by as_aux_lemma=>kernel_rfl) (by as_aux_lemma=>kernel_rfl)
theorem reads6(os:Os){H:Type}(enc:TypeId×Value→H):∃places,DataW.whole enc Tryz.prog ((laidWorld os).forCall (fun _ _=>0) ⟨#[],args6,[]⟩).memory Tryz.f6.params.toList Rows.yankChangesSpec.vars false args6.toList 8 =
  some ([.agg [.nil,.nil],.agg [.lit (.string []),.agg [.lit (.int .i64 0),.lit (.int .i64 0),.lit (.int .i64 0)]],.nil],[],places) :=
 ⟨[],by kernel_rfl⟩
set_option maxRecDepth 100000 in
theorem contract6(H:Type)(enc:TypeId×Value→H)(W:World)(base:Nat)(args:Array Value)(ds gs:List (DataW H))(before:List MemPlace)
  (JR:∀(j:Nat) t v,Tryz.f6.params[j]?=some t→args[j]?=some v→Value.okWide Tryz.prog W .any base t v)
  (hW:DataW.Whole enc Tryz.prog Tryz.f6.params.toList Rows.yankChangesSpec.vars false W args.toList ds gs before) (hk:Rows.uptoSmall H (ds++gs)=true) (hM:∃m,W.cell? ⟨0,0,none⟩=some (.int .i64 m)) :
  Calls Tryz.prog 6 args W fun e W'=>∃v,e=.returned v∧Rows.yankChangesSpec.post enc Tryz.prog Tryz.f6 false true false false W args v W':=by
 have hW':=hW
 obtain⟨p,q,hA0,hV,rfl,hfz,RK⟩:=hW
 have hA:DataW.TrodAll enc Tryz.prog W 0 (fun _=>true) true Tryz.f6.params.toList args.toList ds p:=hA0
 rw[Tryz.params6]at hA JR
 obtain⟨v0,vs0,d0,ds0,p0,q0,Jv,rfl,rfl,h0,r0⟩:=trodAll_cons hA
 obtain⟨v1,vs1,d1,ds1,p1,q1,rfl,rfl,rfl,h1,r1⟩:=trodAll_cons r0
 obtain⟨v2,vs2,d2,ds2,p2,q2,rfl,rfl,rfl,h2,r2⟩:=trodAll_cons r1
 obtain⟨rfl,rfl,rfl⟩:=trodAll_nil r2
 have qU:args=#[v0,v1,v2]:=arr3 Jv
 subst qU
 obtain⟨rfl,rfl⟩:=trodVars_none hV
 have hb:Rows.uptoBulkAll ([d0,d1,d2]:List (DataW H))≤1048576:=by
  rw[BN]at hk
  exact A5 hk
 have bd:∀d∈([d0,d1,d2]:List (DataW H)),Rows.uptoBulk d≤NB:=fun d hd=>Bx (all_le hd) hb
 obtain⟨c0,rfl⟩:=ok_agg Tryz.underlying25 (JR 0 25 v0 rfl rfl)
 obtain⟨c1,rfl⟩:=ok_agg Tryz.underlying29 (JR 1 29 v1 rfl rfl)
 have oN:=ok_slice Tryz.underlying45 (JR 2 45 v2 rfl rfl)
 obtain⟨x0,R0,K0⟩:=YJ oIx h0 (bd _ (by simp))
 obtain⟨x1,R1,K1⟩:=YJ oSl h1 (bd _ (by simp))
 obtain⟨x2,R2,K2⟩:=iJ (e:=fun l:List Sl=>sl Ad l) oSls oN h2 (bd _ (by simp))
 have hc:PC 6 [EV x0.1 x0.2,.agg (Ad x1),sl Ad x2] (vb true):=xC x0.1 x0.2 x1 x2 (lim43_of K0) (few_of K2.1)
 refine(run_true (vals:=#[.agg c0,.agg c1,v2]) hc hM rfl (fun i av y e1 e2=>?_)).mono fun e W' ⟨he,hs⟩=>⟨_,he,post_true hs rfl (by simpa using hW') rfl (by rw[Tryz.params6];decide +kernel) rfl⟩
 match i with
 |0=>cases e1;cases e2;exact R0
 |1=>cases e1;cases e2;exact R1
 |2=>cases e1;cases e2;exact R2
 |_+3=>simp at e1
set_option maxRecDepth 100000 in
theorem lifted6(os:Os)(started:os.Started)(H:Type)(enc:TypeId×Value→H)(F:Stop.Interp) :
  ReturnsInHanded {} Tryz.checked os 6 .any ((Rows.OpenSpec.upto Rows.yankChangesSpec).preRow enc Tryz.prog Tryz.f6 Rows.yankChangesUptoRow.domain false Rows.yankChangesUptoRow.laid) (((Rows.OpenSpec.upto Rows.yankChangesSpec).at F).post enc Tryz.prog Tryz.f6 false true false false):=by
 obtain⟨places,hx⟩:=reads6 os enc
 refine returnsInHanded_of_row (C:=Tryz.checked) (s:=Rows.OpenSpec.upto Rows.yankChangesSpec) own started (by as_aux_lemma=>kernel_rfl) Tryz.func6
  (witness_row_at (enc:=enc) (C:=Tryz.checked) false (laidWorld os) args6 rfl (by as_aux_lemma=>kernel_rfl) (by as_aux_lemma=>kernel_rfl) (by as_aux_lemma=>kernel_rfl)
   (OpenSpec.preRow_of_cond 8 hx (by as_aux_lemma=>kernel_rfl) (fun k hk=>by cases hk;as_aux_lemma=>kernel_rfl) (by as_aux_lemma=>kernel_rfl) (laid_met6 os))) ?_
 intro W base args ds gs before JR hW _ gz _ _ hsh _
 exact contract6 H enc W base args ds gs before JR hW (gz _ rfl) (maxLen_cell hsh)
theorem and_mk{a b:Bool}(h:a=true)(k:b=true):(a&&b)=true:=by rw[h,k];rfl
set_option maxHeartbeats 4000000 in
theorem closed:joinedFacts Tryz.pinned.checked.prog 6 Tryz.f6 (Rows.OpenSpec.upto Rows.yankChangesSpec).bare Rows.yankChangesUptoRow=true:=by
 unfold joinedFacts
 repeat' with_reducible refine and_mk ?_ ?_
 all_goals (as_aux_lemma=>kernel_rfl)
theorem said6:Rows.YankChangesUptoSaid :=
 OpenClaim.holds_of_cond 6 Tryz.f6 rfl rfl rfl rfl rfl rfl rfl ⟨rfl,rfl,rfl,rfl,rfl⟩ rfl rfl rfl rfl rfl (by as_aux_lemma=>kernel_rfl) Tryz.func6 closed
  (A5 (by as_aux_lemma=>kernel_rfl)) (by unfold Func.isWrapper;first | (rw[Ap (by decide +kernel)];kernel_rfl) | (rw[Aj (by decide +kernel)];exact⟨rfl,rfl⟩))
  (fun os started H enc _ F=>by rw[OpenClaim.pre_eq_preRow];exact lifted6 os started H enc F)
theorem plain6 (f : FuncId) (fn : Func) (hf : Tryz.pinned.checked.prog.funcNamed "modcert/modcertlaw43.YankChanges" = some f) (rI : Tryz.pinned.checked.prog.funcs[f]? = some fn) :
  false=Tryz.pinned.checked.prog.looks []∧∀(j:Nat) t,fn.params[j]?=some t→Tryz.pinned.checked.prog.wantsStandIn t=false:=by
 obtain rfl : f = 6 := Ca ((show Tryz.prog.funcNamed "modcert/modcertlaw43.YankChanges" = some 6 by kernel_rfl).symm.trans hf) |>.symm
 obtain rfl:fn=Tryz.f6:=(Ca (Tryz.func6.symm.trans rI)).symm
 refine⟨looksOff,fun j t ht=>noStand t ?_⟩
 rw[Tryz.params6]at ht
 have hm:t∈#[25,29,45]:=Array.mem_of_getElem? ht
 exact(show ∀t∈([25,29,45]:List Nat),t∈([25,29,39,45,62]:List Nat) by decide) t (by simpa using hm)
theorem card6:Rows.YankChangesUptoCardSaid :=
 Claim7.holds_tied_plain_at .later [] _ _ _ _ said6 (fun _ h=>by cases h) (by kernel_rfl) (fun _ h=>by cases h) yankChangesUpto_row_tie rfl ⟨rfl,rfl⟩ (by kernel_rfl) rfl plain6 (by kernel_rfl)
end Go.Proofs.YtddfphmpfnmknaaGreatDoor.joins
