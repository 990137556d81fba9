/- The law SolverLists of chapter 37 returns true and leaves the memory as it was, for inputs of bounded bulk. -/
import Derived.Test.YtkmnnpmneamgoaaGreatDoorA32
namespace Go.Proofs.YtkmnnpmneamgoaaGreatDoor.joins
open Go Go.Eng Go.Proofs Go.ChangeShapes Go.WideShapes Go.ChangeAt Go.RowKit
abbrev args3:Array Value:=#[.agg #[nilV,nilV],nilV,.int .i64 0]
theorem laid_met3(os:Os):laidMet Tryz.prog Rows.solverListsUptoRow.laid ((laidWorld os).forCall (fun _ _=>0) ⟨#[],args3,[]⟩).memory :=
 laidMet_of_run' 8 (by as_aux_lemma=>kernel_rfl) (by as_aux_lemma=>kernel_rfl)
theorem reads3(os:Os){H:Type}(enc:TypeId×Value→H):∃places,DataW.whole enc Tryz.prog ((laidWorld os).forCall (fun _ _=>0) ⟨#[],args3,[]⟩).memory Tryz.f3.params.toList Rows.solverListsSpec.vars false args3.toList 8 =
  some ([.agg [.nil,.nil],.nil,.lit (.int .i64 0)],[],places) :=
 ⟨[],by kernel_rfl⟩
set_option maxRecDepth 100000 in
theorem contract3(H:Type)(enc:TypeId×Value→H)(W:World)(base:Nat)(args:Array Value)(ds gs:List (DataW H))(before:List MemPlace)
  (hval:∀(j:Nat) t v,Tryz.f3.params[j]?=some t→args[j]?=some v→Value.okWide Tryz.prog W .any base t v)
  (hW:DataW.Whole enc Tryz.prog Tryz.f3.params.toList Rows.solverListsSpec.vars false W args.toList ds gs before) (hk:Rows.uptoSmall H (ds++gs)=true) (hM:∃m,W.cell? ⟨0,0,none⟩=some (.int .i64 m)) :
  Calls Tryz.prog 3 args W fun e W'=>∃v,e=.returned v∧Rows.solverListsSpec.post enc Tryz.prog Tryz.f3 false true false false W args v W':=by
 have hW':=hW
 obtain⟨p,q,pp,hV,rfl,hfz,MJ⟩:=hW
 have hA:DataW.TrodAll enc Tryz.prog W 0 (fun _=>true) true Tryz.f3.params.toList args.toList ds p:=pp
 rw[Tryz.params3]at hA hval
 obtain⟨v0,vs0,d0,ds0,p0,q0,Jq,rfl,rfl,h0,r0⟩:=trodAll_cons hA
 obtain⟨v1,vs1,d1,ds1,p1,q1,rfl,rfl,rfl,h1,r1⟩:=trodAll_cons r0
 obtain⟨v2,vs2,d2,ds2,p2,q2,rfl,rfl,rfl,h2,r2⟩:=trodAll_cons r1
 obtain⟨rfl,rfl,rfl⟩:=trodAll_nil r2
 have qC:args=#[v0,v1,v2]:=arr3 Jq
 subst qC
 obtain⟨rfl,rfl⟩:=trodVars_none hV
 have hb:Rows.uptoBulkAll ([d0,d1,d2]:List (DataW H))≤1048576:=by
  rw[CY]at hk
  exact Cm hk
 have bd:∀d∈([d0,d1,d2]:List (DataW H)),Rows.uptoBulk d≤NB:=fun d hd=>Bu (all_le hd) hb
 obtain⟨c0,rfl⟩:=ok_agg Tryz.underlying25 (hval 0 25 v0 rfl rfl)
 have wX:=ok_slice Tryz.underlying26 (hval 1 26 v1 rfl rfl)
 have oh:=ok_int Tryz.underlying3 (hval 2 3 v2 rfl rfl)
 obtain⟨x0,R0,K0⟩:=iB oIx h0 (bd _ (by simp))
 obtain⟨x1,R1,K1⟩:=Yn (e:=fun l:List Rq=>sl Ap l) oRqs wX h1 (bd _ (by simp))
 obtain⟨x2,R2,K2⟩:=Yn (e:=fun n:Int=>vi n) oI oh h2 (bd _ (by simp))
 have hc:PC 3 [Mm x0.1 x0.2,sl Ap x1,vi x2] (vb true):=sX x0.1 x0.2 x1 x2 (lim_of K0 K1)
 refine(run_true (vals:=#[.agg c0,v1,v2]) hc hM rfl (fun i av y e1 e2=>?_)).mono fun e W' ⟨he,hs⟩=>⟨_,he,post_true hs rfl (by simpa using hW') rfl (by rw[Tryz.params3];decide +kernel) rfl⟩
 match i with
 |0=>cases e1;cases e2;exact R0
 |1=>cases e1;cases e2;exact R1
 |2=>cases e1;cases e2;exact R2
 |_+3=>simp at e1
set_option maxRecDepth 100000 in
theorem lifted3(os:Os)(started:os.Started)(H:Type)(enc:TypeId×Value→H)(F:Stop.Interp) :
  ReturnsInHanded {} Tryz.checked os 3 .any ((Rows.OpenSpec.upto Rows.solverListsSpec).preRow enc Tryz.prog Tryz.f3 Rows.solverListsUptoRow.domain false Rows.solverListsUptoRow.laid) (((Rows.OpenSpec.upto Rows.solverListsSpec).at F).post enc Tryz.prog Tryz.f3 false true false false):=by
 obtain⟨places,hx⟩:=reads3 os enc
 refine returnsInHanded_of_row (C:=Tryz.checked) (s:=Rows.OpenSpec.upto Rows.solverListsSpec) own started (by as_aux_lemma=>kernel_rfl) Tryz.func3
  (witness_row_at (enc:=enc) (C:=Tryz.checked) false (laidWorld os) args3 rfl (by as_aux_lemma=>kernel_rfl) (by as_aux_lemma=>kernel_rfl) (by as_aux_lemma=>kernel_rfl)
   (OpenSpec.preRow_of_cond 8 hx (by as_aux_lemma=>kernel_rfl) (fun k hk=>by cases hk;as_aux_lemma=>kernel_rfl) (by as_aux_lemma=>kernel_rfl) (laid_met3 os))) ?_
 intro W base args ds gs before hval hW _ gl _ _ hsh _
 exact contract3 H enc W base args ds gs before hval hW (gl _ rfl) (maxLen_cell hsh)
theorem and_mk{a b:Bool}(h:a=true)(k:b=true):(a&&b)=true:=by rw[h,k];rfl
set_option maxHeartbeats 4000000 in
theorem closed:joinedFacts Tryz.pinned.checked.prog 3 Tryz.f3 (Rows.OpenSpec.upto Rows.solverListsSpec).bare Rows.solverListsUptoRow=true:=by
 unfold joinedFacts
 repeat' with_reducible refine and_mk ?_ ?_
 all_goals (as_aux_lemma=>kernel_rfl)
theorem said3:Rows.SolverListsUptoSaid :=
 OpenClaim.holds_of_cond 3 Tryz.f3 rfl rfl rfl rfl rfl rfl rfl ⟨rfl,rfl,rfl,rfl,rfl⟩ rfl rfl rfl rfl rfl (by as_aux_lemma=>kernel_rfl) Tryz.func3 closed
  (Cm (by as_aux_lemma=>kernel_rfl)) (by unfold Func.isWrapper;first | (rw[AB (by decide +kernel)];kernel_rfl) | (rw[Ar (by decide +kernel)];exact⟨rfl,rfl⟩))
  (fun os started H enc _ F=>by rw[OpenClaim.pre_eq_preRow];exact lifted3 os started H enc F)
theorem plain3 (f : FuncId) (fn : Func) (hf : Tryz.pinned.checked.prog.funcNamed "modcert/modcertlaw37.SolverLists" = some f) (rt : Tryz.pinned.checked.prog.funcs[f]? = some fn) :
  false=Tryz.pinned.checked.prog.looks []∧∀(j:Nat) t,fn.params[j]?=some t→Tryz.pinned.checked.prog.wantsStandIn t=false:=by
 obtain rfl : f = 3 := Ch ((show Tryz.prog.funcNamed "modcert/modcertlaw37.SolverLists" = some 3 by kernel_rfl).symm.trans hf) |>.symm
 obtain rfl:fn=Tryz.f3:=(Ch (Tryz.func3.symm.trans rt)).symm
 refine⟨looksOff,fun j t ht=>noStand t ?_⟩
 rw[Tryz.params3]at ht
 have hm:t∈#[25,26,3]:=Array.mem_of_getElem? ht
 exact(show ∀t∈([25,26,3]:List Nat),t∈([25,26,3]:List Nat) by decide) t (by simpa using hm)
theorem card3:Rows.SolverListsUptoCardSaid :=
 Claim7.holds_tied_plain_at .later [] _ _ _ _ said3 (fun _ h=>by cases h) (by kernel_rfl) (fun _ h=>by cases h) solverListsUpto_row_tie rfl ⟨rfl,rfl⟩ (by kernel_rfl) rfl plain3 (by kernel_rfl)
end Go.Proofs.YtkmnnpmneamgoaaGreatDoor.joins
