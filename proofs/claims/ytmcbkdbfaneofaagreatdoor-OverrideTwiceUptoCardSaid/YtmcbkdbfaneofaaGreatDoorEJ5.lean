/- The law OverrideTwice of chapter 40 returns true and leaves the memory as it was, for inputs of bounded bulk. -/
import Derived.Test.YtmcbkdbfaneofaaGreatDoorEA32
namespace Go.Proofs.YtmcbkdbfaneofaaGreatDoor.joins
open Go Go.Eng Go.Proofs Go.ChangeShapes Go.WideShapes Go.ChangeAt Go.RowKit
abbrev args5:Array Value:=#[.agg #[nilV,nilV],.agg #[nilV,nilV,nilV]]
theorem laid_met5(os:Os):laidMet Tryz.prog Rows.overrideTwiceUptoRow.laid ((laidWorld os).forCall (fun _ _=>0) ⟨#[],args5,[]⟩).memory :=
 laidMet_of_run' 8 (by as_aux_lemma=>kernel_rfl) (by as_aux_lemma=>kernel_rfl)
theorem reads5(os:Os){H:Type}(enc:TypeId×Value→H):∃places,DataW.whole enc Tryz.prog ((laidWorld os).forCall (fun _ _=>0) ⟨#[],args5,[]⟩).memory Tryz.f5.params.toList Rows.overrideTwiceSpec.vars false args5.toList 8 =
  some ([.agg [.nil,.nil],.agg [.nil,.nil,.nil]],[],places) :=
 ⟨[],by kernel_rfl⟩
set_option maxRecDepth 100000 in
theorem contract5(H:Type)(enc:TypeId×Value→H)(W:World)(base:Nat)(args:Array Value)(ds gs:List (DataW H))(before:List MemPlace)
  (J3:∀(j:Nat) t v,Tryz.f5.params[j]?=some t→args[j]?=some v→Value.okWide Tryz.prog W .any base t v)
  (hW:DataW.Whole enc Tryz.prog Tryz.f5.params.toList Rows.overrideTwiceSpec.vars false W args.toList ds gs before) (hk:Rows.uptoSmall H (ds++gs)=true) (hM:∃m,W.cell? ⟨0,0,none⟩=some (.int .i64 m)) :
  Calls Tryz.prog 5 args W fun e W'=>∃v,e=.returned v∧Rows.overrideTwiceSpec.post enc Tryz.prog Tryz.f5 false true false false W args v W':=by
 have zw:=hW
 obtain⟨p,q,zb,hV,rfl,hfz,Rk⟩:=hW
 have hA:DataW.TrodAll enc Tryz.prog W 0 (fun _=>true) true Tryz.f5.params.toList args.toList ds p:=zb
 rw[Tryz.params5]at hA J3
 obtain⟨v0,vs0,d0,ds0,p0,q0,Jd,rfl,rfl,h0,r0⟩:=trodAll_cons hA
 obtain⟨v1,vs1,d1,ds1,p1,q1,rfl,rfl,rfl,h1,r1⟩:=trodAll_cons r0
 obtain⟨rfl,rfl,rfl⟩:=trodAll_nil r1
 have pV:args=#[v0,v1]:=arr2 Jd
 subst pV
 obtain⟨rfl,rfl⟩:=trodVars_none hV
 have hb:Rows.uptoBulkAll ([d0,d1]:List (DataW H))≤1048576:=by
  rw[B1]at hk
  exact BF hk
 have bd:∀d∈([d0,d1]:List (DataW H)),Rows.uptoBulk d≤NB:=fun d hd=>AU (all_le hd) hb
 obtain⟨c0,rfl⟩:=ok_agg Tryz.underlying25 (J3 0 25 v0 rfl rfl)
 obtain⟨c1,rfl⟩:=ok_agg Tryz.underlying28 (J3 1 28 v1 rfl rfl)
 obtain⟨x0,R0,K0⟩:=Yf oIx h0 (bd _ (by simp))
 obtain⟨x1,R1,K1⟩:=Yf oWk h1 (bd _ (by simp))
 have hc:PC 5 [I2 x0.1 x0.2,.agg (BK x1)] (vb true):=vB x0.1 x0.2 x1 (lim0_of K0.1) (limw_of K1) (few_of K0.2.1) K0.2.2 K0.1.1
 refine(run_true (vals:=#[.agg c0,.agg c1]) hc hM rfl (fun i av y e1 e2=>?_)).mono fun e W' ⟨he,hs⟩=>⟨_,he,post_true hs rfl (by simpa using zw) rfl (by rw[Tryz.params5];decide +kernel) rfl⟩
 match i with
 |0=>cases e1;cases e2;exact R0
 |1=>cases e1;cases e2;exact R1
 |_+2=>simp at e1
set_option maxRecDepth 100000 in
theorem lifted5(os:Os)(started:os.Started)(H:Type)(enc:TypeId×Value→H)(F:Stop.Interp) :
  ReturnsInHanded {} Tryz.checked os 5 .any ((Rows.OpenSpec.upto Rows.overrideTwiceSpec).preRow enc Tryz.prog Tryz.f5 Rows.overrideTwiceUptoRow.domain false Rows.overrideTwiceUptoRow.laid) (((Rows.OpenSpec.upto Rows.overrideTwiceSpec).at F).post enc Tryz.prog Tryz.f5 false true false false):=by
 obtain⟨places,hx⟩:=reads5 os enc
 refine returnsInHanded_of_row (C:=Tryz.checked) (s:=Rows.OpenSpec.upto Rows.overrideTwiceSpec) own started (by as_aux_lemma=>kernel_rfl) Tryz.func5
  (witness_row_at (enc:=enc) (C:=Tryz.checked) false (laidWorld os) args5 rfl (by as_aux_lemma=>kernel_rfl) (by as_aux_lemma=>kernel_rfl) (by as_aux_lemma=>kernel_rfl)
   (OpenSpec.preRow_of_cond 8 hx (by as_aux_lemma=>kernel_rfl) (fun k hk=>by cases hk;as_aux_lemma=>kernel_rfl) (by as_aux_lemma=>kernel_rfl) (laid_met5 os))) ?_
 intro W base args ds gs before J3 hW _ fI _ _ hsh _
 exact contract5 H enc W base args ds gs before J3 hW (fI _ rfl) (maxLen_cell hsh)
theorem and_mk{a b:Bool}(h:a=true)(k:b=true):(a&&b)=true:=by rw[h,k];rfl
set_option maxHeartbeats 4000000 in
theorem closed:joinedFacts Tryz.pinned.checked.prog 5 Tryz.f5 (Rows.OpenSpec.upto Rows.overrideTwiceSpec).bare Rows.overrideTwiceUptoRow=true:=by
 unfold joinedFacts
 repeat' with_reducible refine and_mk ?_ ?_
 all_goals (as_aux_lemma=>kernel_rfl)
theorem said5:Rows.OverrideTwiceUptoSaid :=
 OpenClaim.holds_of_cond 5 Tryz.f5 rfl rfl rfl rfl rfl rfl rfl ⟨rfl,rfl,rfl,rfl,rfl⟩ rfl rfl rfl rfl rfl (by as_aux_lemma=>kernel_rfl) Tryz.func5 closed
  (BF (by as_aux_lemma=>kernel_rfl)) (by unfold Func.isWrapper;first | (rw[Aw (by decide +kernel)];kernel_rfl) | (rw[Ah (by decide +kernel)];exact⟨rfl,rfl⟩))
  (fun os started H enc _ F=>by rw[OpenClaim.pre_eq_preRow];exact lifted5 os started H enc F)
theorem plain5 (f : FuncId) (fn : Func) (hf : Tryz.pinned.checked.prog.funcNamed "modcert/modcertlaw40.OverrideTwice" = some f) (qt : Tryz.pinned.checked.prog.funcs[f]? = some fn) :
  false=Tryz.pinned.checked.prog.looks []∧∀(j:Nat) t,fn.params[j]?=some t→Tryz.pinned.checked.prog.wantsStandIn t=false:=by
 obtain rfl : f = 5 := BM ((show Tryz.prog.funcNamed "modcert/modcertlaw40.OverrideTwice" = some 5 by kernel_rfl).symm.trans hf) |>.symm
 obtain rfl:fn=Tryz.f5:=(BM (Tryz.func5.symm.trans qt)).symm
 refine⟨looksOff,fun j t ht=>noStand t ?_⟩
 rw[Tryz.params5]at ht
 have hm:t∈#[25,28]:=Array.mem_of_getElem? ht
 exact(show ∀t∈([25,28]:List Nat),t∈([25,28,43]:List Nat) by decide) t (by simpa using hm)
theorem card5:Rows.OverrideTwiceUptoCardSaid :=
 Claim7.holds_tied_plain_at .later [] _ _ _ _ said5 (fun _ h=>by cases h) (by kernel_rfl) (fun _ h=>by cases h) overrideTwiceUpto_row_tie rfl ⟨rfl,rfl⟩ (by kernel_rfl) rfl plain5 (by kernel_rfl)
end Go.Proofs.YtmcbkdbfaneofaaGreatDoor.joins
