/- The law YankFits of chapter 43 returns true and leaves the memory as it was, for inputs of bounded bulk. -/
import Derived.Test.YtddfphmpfnmknaaGreatDoorBA31
namespace Go.Proofs.YtddfphmpfnmknaaGreatDoor.joins
open Go Go.Eng Go.Proofs Go.ChangeShapes Go.WideShapes Go.ChangeAt Go.RowKit
abbrev args4:Array Value:=#[.agg #[nilV,nilV],.agg #[.string ⟨#[]⟩,.int .i64 0,.int .i64 0,.int .i64 0]]
theorem laid_met4(os:Os):laidMet Tryz.prog Rows.yankFitsUptoRow.laid ((laidWorld os).forCall (fun _ _=>0) ⟨#[],args4,[]⟩).memory :=
 laidMet_of_run' 8 (by as_aux_lemma=>kernel_rfl) (by as_aux_lemma=>kernel_rfl)
theorem reads4(os:Os){H:Type}(enc:TypeId×Value→H):∃places,DataW.whole enc Tryz.prog ((laidWorld os).forCall (fun _ _=>0) ⟨#[],args4,[]⟩).memory Tryz.f4.params.toList Rows.yankFitsSpec.vars false args4.toList 8 =
  some ([.agg [.nil,.nil],.agg [.lit (.string []),.agg [.lit (.int .i64 0),.lit (.int .i64 0),.lit (.int .i64 0)]]],[],places) :=
 ⟨[],by kernel_rfl⟩
set_option maxRecDepth 100000 in
theorem contract4(H:Type)(enc:TypeId×Value→H)(W:World)(base:Nat)(args:Array Value)(ds gs:List (DataW H))(before:List MemPlace)
  (JQ:∀(j:Nat) t v,Tryz.f4.params[j]?=some t→args[j]?=some v→Value.okWide Tryz.prog W .any base t v)
  (hW:DataW.Whole enc Tryz.prog Tryz.f4.params.toList Rows.yankFitsSpec.vars false W args.toList ds gs before) (hk:Rows.uptoSmall H (ds++gs)=true) (hM:∃m,W.cell? ⟨0,0,none⟩=some (.int .i64 m)) :
  Calls Tryz.prog 4 args W fun e W'=>∃v,e=.returned v∧Rows.yankFitsSpec.post enc Tryz.prog Tryz.f4 false true false false W args v W':=by
 have yL:=hW
 obtain⟨p,q,yt,hV,rfl,hfz,QF⟩:=hW
 have hA:DataW.TrodAll enc Tryz.prog W 0 (fun _=>true) true Tryz.f4.params.toList args.toList ds p:=yt
 rw[Tryz.params4]at hA JQ
 obtain⟨v0,vs0,d0,ds0,p0,q0,I4,rfl,rfl,h0,r0⟩:=trodAll_cons hA
 obtain⟨v1,vs1,d1,ds1,p1,q1,rfl,rfl,rfl,h1,r1⟩:=trodAll_cons r0
 obtain⟨rfl,rfl,rfl⟩:=trodAll_nil r1
 have o6:args=#[v0,v1]:=arr2 I4
 subst o6
 obtain⟨rfl,rfl⟩:=trodVars_none hV
 have hb:Rows.uptoBulkAll ([d0,d1]:List (DataW H))≤1048576:=by
  rw[BT]at hk
  exact A8 hk
 have bd:∀d∈([d0,d1]:List (DataW H)),Rows.uptoBulk d≤NB:=fun d hd=>Br (all_le hd) hb
 obtain⟨c0,rfl⟩:=ok_agg Tryz.underlying25 (JQ 0 25 v0 rfl rfl)
 obtain⟨c1,rfl⟩:=ok_agg Tryz.underlying29 (JQ 1 29 v1 rfl rfl)
 obtain⟨x0,R0,K0⟩:=XC oIx h0 (bd _ (by simp))
 obtain⟨x1,R1,K1⟩:=XC oSl h1 (bd _ (by simp))
 have hc:PC 4 [Hr x0.1 x0.2,.agg (Ae x1)] (vb true):=uO x0.1 x0.2 x1 (lim43_of K0)
 refine(run_true (vals:=#[.agg c0,.agg c1]) hc hM rfl (fun i av y e1 e2=>?_)).mono fun e W' ⟨he,hs⟩=>⟨_,he,post_true hs rfl (by simpa using yL) rfl (by rw[Tryz.params4];decide +kernel) rfl⟩
 match i with
 |0=>cases e1;cases e2;exact R0
 |1=>cases e1;cases e2;exact R1
 |_+2=>simp at e1
set_option maxRecDepth 100000 in
theorem lifted4(os:Os)(started:os.Started)(H:Type)(enc:TypeId×Value→H)(F:Stop.Interp) :
  ReturnsInHanded {} Tryz.checked os 4 .any ((Rows.OpenSpec.upto Rows.yankFitsSpec).preRow enc Tryz.prog Tryz.f4 Rows.yankFitsUptoRow.domain false Rows.yankFitsUptoRow.laid) (((Rows.OpenSpec.upto Rows.yankFitsSpec).at F).post enc Tryz.prog Tryz.f4 false true false false):=by
 obtain⟨places,hx⟩:=reads4 os enc
 refine returnsInHanded_of_row (C:=Tryz.checked) (s:=Rows.OpenSpec.upto Rows.yankFitsSpec) own started (by as_aux_lemma=>kernel_rfl) Tryz.func4
  (witness_row_at (enc:=enc) (C:=Tryz.checked) false (laidWorld os) args4 rfl (by as_aux_lemma=>kernel_rfl) (by as_aux_lemma=>kernel_rfl) (by as_aux_lemma=>kernel_rfl)
   (OpenSpec.preRow_of_cond 8 hx (by as_aux_lemma=>kernel_rfl) (fun k hk=>by cases hk;as_aux_lemma=>kernel_rfl) (by as_aux_lemma=>kernel_rfl) (laid_met4 os))) ?_
 intro W base args ds gs before JQ hW _ eh _ _ zw _
 exact contract4 H enc W base args ds gs before JQ hW (eh _ rfl) (maxLen_cell zw)
theorem and_mk{a b:Bool}(h:a=true)(k:b=true):(a&&b)=true:=by rw[h,k];rfl
set_option maxHeartbeats 4000000 in
theorem closed:joinedFacts Tryz.pinned.checked.prog 4 Tryz.f4 (Rows.OpenSpec.upto Rows.yankFitsSpec).bare Rows.yankFitsUptoRow=true:=by
 unfold joinedFacts
 repeat' with_reducible refine and_mk ?_ ?_
 all_goals (as_aux_lemma=>kernel_rfl)
theorem said4:Rows.YankFitsUptoSaid :=
 OpenClaim.holds_of_cond 4 Tryz.f4 rfl rfl rfl rfl rfl rfl rfl ⟨rfl,rfl,rfl,rfl,rfl⟩ rfl rfl rfl rfl rfl (by as_aux_lemma=>kernel_rfl) Tryz.func4 closed
  (A8 (by as_aux_lemma=>kernel_rfl)) (by unfold Func.isWrapper;first | (rw[Ao (by decide +kernel)];kernel_rfl) | (rw[Ai (by decide +kernel)];exact⟨rfl,rfl⟩))
  (fun os started H enc _ F=>by rw[OpenClaim.pre_eq_preRow];exact lifted4 os started H enc F)
theorem plain4 (f : FuncId) (fn : Func) (hf : Tryz.pinned.checked.prog.funcNamed "modcert/modcertlaw43.YankFits" = some f) (pO : Tryz.pinned.checked.prog.funcs[f]? = some fn) :
  false=Tryz.pinned.checked.prog.looks []∧∀(j:Nat) t,fn.params[j]?=some t→Tryz.pinned.checked.prog.wantsStandIn t=false:=by
 obtain rfl : f = 4 := B2 ((show Tryz.prog.funcNamed "modcert/modcertlaw43.YankFits" = some 4 by kernel_rfl).symm.trans hf) |>.symm
 obtain rfl:fn=Tryz.f4:=(B2 (Tryz.func4.symm.trans pO)).symm
 refine⟨looksOff,fun j t ht=>noStand t ?_⟩
 rw[Tryz.params4]at ht
 have hm:t∈#[25,29]:=Array.mem_of_getElem? ht
 exact(show ∀t∈([25,29]:List Nat),t∈([25,29,39,45,62]:List Nat) by decide) t (by simpa using hm)
theorem card4:Rows.YankFitsUptoCardSaid :=
 Claim7.holds_tied_plain_at .later [] _ _ _ _ said4 (fun _ h=>by cases h) (by kernel_rfl) (fun _ h=>by cases h) yankFitsUpto_row_tie rfl ⟨rfl,rfl⟩ (by kernel_rfl) rfl plain4 (by kernel_rfl)
end Go.Proofs.YtddfphmpfnmknaaGreatDoor.joins
