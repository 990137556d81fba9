/- The law ExplainNumbers of chapter 38 returns true and leaves its arguments as they were, for every input: of bulk at most 1048576 (the row's own bound), the listed tables as the program's text lays them. -/
import Derived.Test.YtpgfieopnnkpfaaGreatDoorNA26
namespace Go.Proofs.YtpgfieopnnkpfaaGreatDoor.joins
open Go Go.Eng Go.Proofs Go.ChangeShapes Go.WideShapes Go.ChangeAt Go.RowKit
abbrev args10:Array Value:=#[.agg #[nilV,nilV],nilV,nilV,.int .u16 0]
theorem laid_met10 (os:Os):laidMet Tryz.prog Rows.explainNumbersUptoRow.laid ((laidWorldE os).forCall (fun _ _=>0) ⟨#[],args10,[]⟩).memory :=
 laidMet_of_run' 8 (by as_aux_lemma=>kernel_rfl) (by as_aux_lemma=>kernel_rfl)
theorem reads10 (os:Os) {H:Type} (enc:TypeId × Value→H):∃ places,DataW.whole enc Tryz.prog ((laidWorldE os).forCall (fun _ _=>0) ⟨#[],args10,[]⟩).memory Tryz.f10.params.toList Rows.explainNumbersSpec.vars false args10.toList 8 =
  some ([.agg [.nil,.nil],.nil,.nil,.lit (.int .u16 0)],[],places) :=
 ⟨[],by kernel_rfl⟩
set_option maxRecDepth 100000 in
theorem contract10 (H:Type) (enc:TypeId × Value→H) (W:World) (base:Nat) (args:Array Value) (ds gs:List (DataW H)) (before:List MemPlace)
  (hval:∀ (j:Nat) t v,Tryz.f10.params[j]?=some t→args[j]?=some v→Value.okWide Tryz.prog W .any base t v)
  (hW:DataW.Whole enc Tryz.prog Tryz.f10.params.toList Rows.explainNumbersSpec.vars false W args.toList ds gs before) (hk:Rows.uptoSmall H (ds++gs)=true) (hM:Start W) :
  Calls Tryz.prog 10 args W fun e W'=>∃ v,e=.returned v∧Rows.explainNumbersSpec.post enc Tryz.prog Tryz.f10 false true false false W args v W':=by
 have hW':=hW
 obtain ⟨p,q,hA0,hV,rfl,hfz,hnd⟩:=hW
 have hA:DataW.TrodAll enc Tryz.prog W 0 (fun _=>true) true Tryz.f10.params.toList args.toList ds p:=hA0
 rw [Tryz.params10] at hA hval
 obtain ⟨v0,vs0,d0,ds0,p0,q0,hargs,rfl,rfl,h0,r0⟩:=trodAll_cons hA
 obtain ⟨v1,vs1,d1,ds1,p1,q1,rfl,rfl,rfl,h1,r1⟩:=trodAll_cons r0
 obtain ⟨v2,vs2,d2,ds2,p2,q2,rfl,rfl,rfl,h2,r2⟩:=trodAll_cons r1
 obtain ⟨v3,vs3,d3,ds3,p3,q3,rfl,rfl,rfl,h3,r3⟩:=trodAll_cons r2
 obtain ⟨rfl,rfl,rfl⟩:=trodAll_nil r3
 have eargs:args=#[v0,v1,v2,v3]:=arr4 hargs
 subst eargs
 obtain ⟨rfl,rfl⟩:=trodVars_none hV
 have hb:Rows.uptoBulkAll ([d0,d1,d2,d3]:List (DataW H))≤1048576:=by
  rw [List.append_nil] at hk
  exact of_decide_eq_true hk
 have bd:∀ d ∈ ([d0,d1,d2,d3]:List (DataW H)),Rows.uptoBulk d≤NB:=fun d hd=>Nat.le_trans (all_le hd) hb
 obtain ⟨c0,rfl⟩:=ok_agg Tryz.underlying42 (hval 0 42 v0 rfl rfl)
 have hv1:=ok_slice Tryz.underlying43 (hval 1 43 v1 rfl rfl)
 have hv2:=ok_slice Tryz.underlying32 (hval 2 32 v2 rfl rfl)
 have hv3:=ok_int Tryz.underlying51 (hval 3 51 v3 rfl rfl)
 obtain ⟨x0,R0,K0⟩:=open_agg oIx h0 (bd _ (by simp))
 obtain ⟨x1,R1,K1⟩:=open_one (e:=fun l:List Rq=>sl encRq l) oRqs hv1 h1 (bd _ (by simp))
 obtain ⟨x2,R2,K2⟩:=open_one (e:=fun l:List Nf=>sl encNf l) oNfs hv2 h2 (bd _ (by simp))
 obtain ⟨x3,R3,K3⟩:=open_one (e:=fun n:Int=>.v (.int .u16 n)) oU16 hv3 h3 (bd _ (by simp))
 have hc:PC 10 [ixV x0.1 x0.2,sl encRq x1,sl encNf x2,.v (.int .u16 x3)] (vb true):=e10 x0.1 x0.2 x1 x2 x3 (lim_of K0 K1) (few_of K2.1) K3 (short_of K0 K1 K2)
 refine (run_true (vals:=#[.agg c0,v1,v2,v3]) hc hM rfl (fun i av y e1 e2=>?_)).mono fun e W' ⟨he,hs⟩=>⟨_,he,post_true hs rfl (by simpa using hW') rfl (by rw [Tryz.params10]; decide +kernel) rfl⟩
 match i with
 | 0=>cases e1; cases e2; exact R0
 | 1=>cases e1; cases e2; exact R1
 | 2=>cases e1; cases e2; exact R2
 | 3=>cases e1; cases e2; exact R3
 | _+4=>simp at e1
set_option maxRecDepth 100000 in
theorem lifted10 (os:Os) (started:os.Started) (H:Type) (enc:TypeId × Value→H) (F:Stop.Interp) :
  ReturnsInHanded {} Tryz.checked os 10 .any ((Rows.OpenSpec.upto Rows.explainNumbersSpec).preRow enc Tryz.prog Tryz.f10 Rows.explainNumbersUptoRow.domain false Rows.explainNumbersUptoRow.laid) (((Rows.OpenSpec.upto Rows.explainNumbersSpec).at F).post enc Tryz.prog Tryz.f10 false true false false):=by
 obtain ⟨places,hx⟩:=reads10 os enc
 refine returnsInHanded_of_row (C:=Tryz.checked) (s:=Rows.OpenSpec.upto Rows.explainNumbersSpec) own started (by as_aux_lemma=>kernel_rfl) Tryz.func10
  (witness_row_at (enc:=enc) (C:=Tryz.checked) false (laidWorldE os) args10 rfl (by as_aux_lemma=>kernel_rfl) (by as_aux_lemma=>kernel_rfl) (by as_aux_lemma=>kernel_rfl)
   (OpenSpec.preRow_of_cond 8 hx (by as_aux_lemma=>kernel_rfl) (fun k hk=>by cases hk; as_aux_lemma=>kernel_rfl) (by as_aux_lemma=>kernel_rfl) (laid_met10 os))) ?_
 intro W base args ds gs before hval hW hx0 hcond hx1 hx2 hsh hx3
 exact contract10 H enc W base args ds gs before hval hW (hcond _ rfl) (start_of hsh hx2)
theorem and_mk {a b:Bool} (h:a=true) (k:b=true):(a&&b)=true:=by rw [h,k]; rfl
set_option maxHeartbeats 4000000 in
theorem closed:joinedFacts Tryz.pinned.checked.prog 10 Tryz.f10 (Rows.OpenSpec.upto Rows.explainNumbersSpec).bare Rows.explainNumbersUptoRow=true:=by
 unfold joinedFacts
 repeat' with_reducible refine and_mk ?_ ?_
 all_goals (as_aux_lemma=>kernel_rfl)
theorem said10:Rows.ExplainNumbersUptoSaid :=
 OpenClaim.holds_of_cond 10 Tryz.f10 rfl rfl rfl rfl rfl rfl rfl ⟨rfl,rfl,rfl,rfl,rfl⟩ rfl rfl rfl rfl rfl (by as_aux_lemma=>kernel_rfl) Tryz.func10 closed
  (of_decide_eq_true (by as_aux_lemma=>kernel_rfl)) (by unfold Func.isWrapper; first | (rw [if_pos (by decide +kernel)]; kernel_rfl) | (rw [if_neg (by decide +kernel)]; exact ⟨rfl,rfl⟩))
  (fun os started H enc _ F=>by rw [OpenClaim.pre_eq_preRow]; exact lifted10 os started H enc F)
theorem plain10 (f : FuncId) (fn : Func) (hf : Tryz.pinned.checked.prog.funcNamed "modcert/modcertlaw38.ExplainNumbers" = some f) (hfn : Tryz.pinned.checked.prog.funcs[f]? = some fn) :
  true=Tryz.pinned.checked.prog.looks []∧∀ (j:Nat) t,fn.params[j]?=some t→Tryz.pinned.checked.prog.wantsStandIn t=false:=by
 obtain rfl : f = 10 := Option.some.inj ((show Tryz.prog.funcNamed "modcert/modcertlaw38.ExplainNumbers" = some 10 by kernel_rfl).symm.trans hf) |>.symm
 obtain rfl:fn=Tryz.f10:=(Option.some.inj (Tryz.func10.symm.trans hfn)).symm
 refine ⟨looksOff,fun j t ht=>noStand t ?_⟩
 rw [Tryz.params10] at ht
 have hm:t ∈ #[42,43,32,51]:=Array.mem_of_getElem? ht
 exact (show ∀ t ∈ ([42,43,32,51]:List Nat),t ∈ ([42,43,32,51,66,3,23]:List Nat) by decide) t (by simpa using hm)
theorem card10:Rows.ExplainNumbersUptoCardSaid :=
 Claim7.holds_tied_plain_at .later [] _ _ _ _ said10 (fun _ h=>by cases h) (by kernel_rfl) (fun _ h=>by cases h) explainNumbersUpto_row_tie rfl ⟨rfl,rfl⟩ (by kernel_rfl) rfl plain10 (by kernel_rfl)
end Go.Proofs.YtpgfieopnnkpfaaGreatDoor.joins
