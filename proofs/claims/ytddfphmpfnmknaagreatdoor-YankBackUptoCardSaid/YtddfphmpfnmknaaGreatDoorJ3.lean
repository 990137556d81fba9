/- The law Back of chapter 43 returns true and leaves the memory as it was, for inputs of bounded bulk. -/
import Derived.Test.YtddfphmpfnmknaaGreatDoorA31
namespace Go.Proofs.YtddfphmpfnmknaaGreatDoor.joins
open Go Go.Eng Go.Proofs Go.ChangeShapes Go.WideShapes Go.ChangeAt Go.RowKit
abbrev args3:Array Value:=#[.agg #[nilV,nilV],.agg #[.string ⟨#[]⟩,.int .i64 0,.int .i64 0,.int .i64 0]]
theorem laid_met3(os:Os):laidMet Tryz.prog Rows.yankBackUptoRow.laid ((laidWorld os).forCall (fun _ _=>0) ⟨#[],args3,[]⟩).memory :=
 laidMet_of_run' 8 (by as_aux_lemma=>kernel_rfl) (by as_aux_lemma=>kernel_rfl)
theorem reads3(os:Os){H:Type}(enc:TypeId×Value→H):∃places,DataW.whole enc Tryz.prog ((laidWorld os).forCall (fun _ _=>0) ⟨#[],args3,[]⟩).memory Tryz.f3.params.toList Rows.yankBackSpec.vars false args3.toList 8 =
  some ([.agg [.nil,.nil],.agg [.lit (.string []),.agg [.lit (.int .i64 0),.lit (.int .i64 0),.lit (.int .i64 0)]]],[],places) :=
 ⟨[],by kernel_rfl⟩
set_option maxRecDepth 100000 in
theorem contract3(H:Type)(enc:TypeId×Value→H)(W:World)(base:Nat)(args:Array Value)(ds gs:List (DataW H))(before:List MemPlace)
  (JT:∀(j:Nat) t v,Tryz.f3.params[j]?=some t→args[j]?=some v→Value.okWide Tryz.prog W .any base t v)
  (hW:DataW.Whole enc Tryz.prog Tryz.f3.params.toList Rows.yankBackSpec.vars false W args.toList ds gs before) (hk:Rows.uptoSmall H (ds++gs)=true) (hM:∃m,W.cell? ⟨0,0,none⟩=some (.int .i64 m)) :
  Calls Tryz.prog 3 args W fun e W'=>∃v,e=.returned v∧Rows.yankBackSpec.post enc Tryz.prog Tryz.f3 false true false false W args v W':=by
 have yM:=hW
 obtain⟨p,q,yu,hV,rfl,hfz,QH⟩:=hW
 have hA:DataW.TrodAll enc Tryz.prog W 0 (fun _=>true) true Tryz.f3.params.toList args.toList ds p:=yu
 rw[Tryz.params3]at hA JT
 obtain⟨v0,vs0,d0,ds0,p0,q0,I7,rfl,rfl,h0,r0⟩:=trodAll_cons hA
 obtain⟨v1,vs1,d1,ds1,p1,q1,rfl,rfl,rfl,h1,r1⟩:=trodAll_cons r0
 obtain⟨rfl,rfl,rfl⟩:=trodAll_nil r1
 have o7:args=#[v0,v1]:=arr2 I7
 subst o7
 obtain⟨rfl,rfl⟩:=trodVars_none hV
 have hb:Rows.uptoBulkAll ([d0,d1]:List (DataW H))≤1048576:=by
  rw[BT]at hk
  exact Ba hk
 have bd:∀d∈([d0,d1]:List (DataW H)),Rows.uptoBulk d≤NB:=fun d hd=>Br (all_le hd) hb
 obtain⟨c0,rfl⟩:=ok_agg Tryz.underlying25 (JT 0 25 v0 rfl rfl)
 obtain⟨c1,rfl⟩:=ok_agg Tryz.underlying29 (JT 1 29 v1 rfl rfl)
 obtain⟨x0,R0,K0⟩:=XB oIx h0 (bd _ (by simp))
 obtain⟨x1,R1,K1⟩:=XB oSl h1 (bd _ (by simp))
 have hc:PC 3 [GP x0.1 x0.2,.agg (Af x1)] (vb true):=uP x0.1 x0.2 x1 (lim43_of K0)
 refine(run_true (vals:=#[.agg c0,.agg c1]) hc hM rfl (fun i av y e1 e2=>?_)).mono fun e W' ⟨he,hs⟩=>⟨_,he,post_true hs rfl (by simpa using yM) rfl (by rw[Tryz.params3];decide +kernel) rfl⟩
 match i with
 |0=>cases e1;cases e2;exact R0
 |1=>cases e1;cases e2;exact R1
 |_+2=>simp at e1
set_option maxRecDepth 100000 in
theorem lifted3(os:Os)(started:os.Started)(H:Type)(enc:TypeId×Value→H)(F:Stop.Interp) :
  ReturnsInHanded {} Tryz.checked os 3 .any ((Rows.OpenSpec.upto Rows.yankBackSpec).preRow enc Tryz.prog Tryz.f3 Rows.yankBackUptoRow.domain false Rows.yankBackUptoRow.laid) (((Rows.OpenSpec.upto Rows.yankBackSpec).at F).post enc Tryz.prog Tryz.f3 false true false false):=by
 obtain⟨places,hx⟩:=reads3 os enc
 refine returnsInHanded_of_row (C:=Tryz.checked) (s:=Rows.OpenSpec.upto Rows.yankBackSpec) own started (by as_aux_lemma=>kernel_rfl) Tryz.func3
  (witness_row_at (enc:=enc) (C:=Tryz.checked) false (laidWorld os) args3 rfl (by as_aux_lemma=>kernel_rfl) (by as_aux_lemma=>kernel_rfl) (by as_aux_lemma=>kernel_rfl)
   (OpenSpec.preRow_of_cond 8 hx (by as_aux_lemma=>kernel_rfl) (fun k hk=>by cases hk;as_aux_lemma=>kernel_rfl) (by as_aux_lemma=>kernel_rfl) (laid_met3 os))) ?_
 intro W base args ds gs before JT hW _ eh _ _ zx _
 exact contract3 H enc W base args ds gs before JT hW (eh _ rfl) (maxLen_cell zx)
theorem and_mk{a b:Bool}(h:a=true)(k:b=true):(a&&b)=true:=by rw[h,k];rfl
set_option maxHeartbeats 4000000 in
theorem closed:joinedFacts Tryz.pinned.checked.prog 3 Tryz.f3 (Rows.OpenSpec.upto Rows.yankBackSpec).bare Rows.yankBackUptoRow=true:=by
 unfold joinedFacts
 repeat' with_reducible refine and_mk ?_ ?_
 all_goals (as_aux_lemma=>kernel_rfl)
theorem said3:Rows.YankBackUptoSaid :=
 OpenClaim.holds_of_cond 3 Tryz.f3 rfl rfl rfl rfl rfl rfl rfl ⟨rfl,rfl,rfl,rfl,rfl⟩ rfl rfl rfl rfl rfl (by as_aux_lemma=>kernel_rfl) Tryz.func3 closed
  (Ba (by as_aux_lemma=>kernel_rfl)) (by unfold Func.isWrapper;first | (rw[Aq (by decide +kernel)];kernel_rfl) | (rw[Ai (by decide +kernel)];exact⟨rfl,rfl⟩))
  (fun os started H enc _ F=>by rw[OpenClaim.pre_eq_preRow];exact lifted3 os started H enc F)
theorem plain3 (f : FuncId) (fn : Func) (hf : Tryz.pinned.checked.prog.funcNamed "modcert/modcertlaw43.YankBack" = some f) (pK : Tryz.pinned.checked.prog.funcs[f]? = some fn) :
  false=Tryz.pinned.checked.prog.looks []∧∀(j:Nat) t,fn.params[j]?=some t→Tryz.pinned.checked.prog.wantsStandIn t=false:=by
 obtain rfl : f = 3 := Cr ((show Tryz.prog.funcNamed "modcert/modcertlaw43.YankBack" = some 3 by kernel_rfl).symm.trans hf) |>.symm
 obtain rfl:fn=Tryz.f3:=(Cr (Tryz.func3.symm.trans pK)).symm
 refine⟨looksOff,fun j t ht=>noStand t ?_⟩
 rw[Tryz.params3]at ht
 have hm:t∈#[25,29]:=Array.mem_of_getElem? ht
 exact(show ∀t∈([25,29]:List Nat),t∈([25,29,39,45,62]:List Nat) by decide) t (by simpa using hm)
theorem card3:Rows.YankBackUptoCardSaid :=
 Claim7.holds_tied_plain_at .later [] _ _ _ _ said3 (fun _ h=>by cases h) (by kernel_rfl) (fun _ h=>by cases h) yankBackUpto_row_tie rfl ⟨rfl,rfl⟩ (by kernel_rfl) rfl plain3 (by kernel_rfl)
end Go.Proofs.YtddfphmpfnmknaaGreatDoor.joins
