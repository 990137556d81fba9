/- The law ProofChecks of chapter 36: true, the arguments kept, for every input of bulk at most 1048576. -/
import Derived.Test.YtodcmjcogdcmlaaGreatDoorA29
namespace Go.Proofs.YtodcmjcogdcmlaaGreatDoor.joins
open Go Go.Eng Go.Proofs Go.ChangeShapes Go.WideShapes Go.ChangeAt Go.RowKit
abbrev args4:Array Value:=#[.agg #[nilV,nilV],nilV,nilV,.agg #[.bool false,nilV,nilV,nilV]]
theorem m4 (os:Os):laidMet Tryz.prog Rows.proofChecksUptoRow.laid ((laidWorld os).forCall (fun _ _=>0) ⟨#[],args4,[]⟩).memory :=
 laidMet_of_run' 8 (by as_aux_lemma=>kernel_rfl) (by as_aux_lemma=>kernel_rfl)
theorem r4 (os:Os) {H:Type} (enc:TypeId × Value→H):∃ pl,DataW.whole enc Tryz.prog ((laidWorld os).forCall (fun _ _=>0) ⟨#[],args4,[]⟩).memory Tryz.f4.params.toList Rows.proofChecksSpec.vars false args4.toList 8 =
  some ([.agg [.nil,.nil],.nil,.nil,.agg [.lit (.bool false),.nil,.nil,.nil]],[],pl) :=
 ⟨[],by kernel_rfl⟩
set_option maxRecDepth 100000 in
theorem k4 (H:Type) (enc:TypeId × Value→H) (W:World) (z:Nat) (a:Array Value) (ds gs:List (DataW H)) (bf:List MemPlace)
  (hv:∀ (j:Nat) t v,Tryz.f4.params[j]?=some t→a[j]?=some v→Value.okWide Tryz.prog W .any z t v)
  (hW:DataW.Whole enc Tryz.prog Tryz.f4.params.toList Rows.proofChecksSpec.vars false W a.toList ds gs bf) (hk:Rows.uptoSmall H (ds++gs)=true) (hM:∃ m,W.cell? ⟨0,0,none⟩=some (.int .i64 m)) :
  Calls Tryz.prog 4 a W fun e W'=>∃ v,e=.returned v∧Rows.proofChecksSpec.post enc Tryz.prog Tryz.f4 false true false false W a v W':=by
 have hW':=hW
 obtain ⟨p,q,hA0,hV,rfl,hfz,hnd⟩:=hW
 have hA:DataW.TrodAll enc Tryz.prog W 0 (fun _=>true) true Tryz.f4.params.toList a.toList ds p:=hA0
 rw [Tryz.params4] at hA hv
 obtain ⟨v0,vs0,d0,ds0,p0,q0,ha,rfl,rfl,h0,r0⟩:=trodAll_cons hA
 obtain ⟨v1,vs1,d1,ds1,p1,q1,rfl,rfl,rfl,h1,r1⟩:=trodAll_cons r0
 obtain ⟨v2,vs2,d2,ds2,p2,q2,rfl,rfl,rfl,h2,r2⟩:=trodAll_cons r1
 obtain ⟨v3,vs3,d3,ds3,p3,q3,rfl,rfl,rfl,h3,r3⟩:=trodAll_cons r2
 obtain ⟨rfl,rfl,rfl⟩:=trodAll_nil r3
 have ea:a=#[v0,v1,v2,v3]:=arr4 ha
 subst ea
 obtain ⟨rfl,rfl⟩:=trodVars_none hV
 have hb:Rows.uptoBulkAll ([d0,d1,d2,d3]:List (DataW H))≤1048576:=by
  rw [List.append_nil] at hk
  exact of_decide_eq_true hk
 have bd:∀ d ∈ ([d0,d1,d2,d3]:List (DataW H)),Rows.uptoBulk d≤NB:=fun d hd=>Nat.le_trans (all_le hd) hb
 obtain ⟨c0,rfl⟩:=ok_agg Tryz.underlying25 (hv 0 25 v0 rfl rfl)
 have hv1:=ok_slice Tryz.underlying26 (hv 1 26 v1 rfl rfl)
 have hv2:=ok_slice Tryz.underlying37 (hv 2 37 v2 rfl rfl)
 obtain ⟨c3,rfl⟩:=ok_agg Tryz.underlying40 (hv 3 40 v3 rfl rfl)
 obtain ⟨x0,R0,K0⟩:=open_agg oIx h0 (bd _ (by simp))
 obtain ⟨x1,R1,K1⟩:=open_one (e:=fun l:List Rq=>sl encRq l) oRqs hv1 h1 (bd _ (by simp))
 obtain ⟨x2,R2,K2⟩:=open_one (e:=fun l:List Sl=>sl encSl l) oSls hv2 h2 (bd _ (by simp))
 obtain ⟨x3,R3,K3⟩:=open_agg oAn h3 (bd _ (by simp))
 have hc:PC 4 [ixV x0.1 x0.2,sl encRq x1,sl encSl x2,.agg (encAn x3)] (vb true):=c4 x0.1 x0.2 x1 x2 x3 (lim_of K0 K1)
 refine (run_true (vals:=#[.agg c0,v1,v2,.agg c3]) hc hM rfl (fun i av y e1 e2=>?_)).mono fun e W' ⟨he,hs⟩=>⟨_,he,post_true hs rfl (by simpa using hW') rfl (by rw [Tryz.params4]; decide +kernel) rfl⟩
 match i with
 | 0=>cases e1; cases e2; exact R0
 | 1=>cases e1; cases e2; exact R1
 | 2=>cases e1; cases e2; exact R2
 | 3=>cases e1; cases e2; exact R3
 | _+4=>simp at e1
set_option maxRecDepth 100000 in
theorem l4 (os:Os) (st:os.Started) (H:Type) (enc:TypeId × Value→H) (F:Stop.Interp) :
  ReturnsInHanded {} Tryz.checked os 4 .any ((Rows.OpenSpec.upto Rows.proofChecksSpec).preRow enc Tryz.prog Tryz.f4 Rows.proofChecksUptoRow.domain false Rows.proofChecksUptoRow.laid) (((Rows.OpenSpec.upto Rows.proofChecksSpec).at F).post enc Tryz.prog Tryz.f4 false true false false):=by
 obtain ⟨pl,hx⟩:=r4 os enc
 refine returnsInHanded_of_row (C:=Tryz.checked) (s:=Rows.OpenSpec.upto Rows.proofChecksSpec) own st (by as_aux_lemma=>kernel_rfl) Tryz.func4
  (witness_row_at (enc:=enc) (C:=Tryz.checked) false (laidWorld os) args4 rfl (by as_aux_lemma=>kernel_rfl) (by as_aux_lemma=>kernel_rfl) (by as_aux_lemma=>kernel_rfl)
   (OpenSpec.preRow_of_cond 8 hx (by as_aux_lemma=>kernel_rfl) (fun k hk=>by cases hk; as_aux_lemma=>kernel_rfl) (by as_aux_lemma=>kernel_rfl) (m4 os))) ?_
 intro W z a ds gs bf hv hW _ hc _ _ hsh _
 exact k4 H enc W z a ds gs bf hv hW (hc _ rfl) (maxLen_cell hsh)
theorem and_mk {a b:Bool} (h:a=true) (k:b=true):(a&&b)=true:=by rw [h,k]; rfl
set_option maxHeartbeats 4000000 in
theorem closed:joinedFacts Tryz.pinned.checked.prog 4 Tryz.f4 (Rows.OpenSpec.upto Rows.proofChecksSpec).bare Rows.proofChecksUptoRow=true:=by
 unfold joinedFacts
 repeat' with_reducible refine and_mk ?_ ?_
 all_goals (as_aux_lemma=>kernel_rfl)
theorem said4:Rows.ProofChecksUptoSaid :=
 OpenClaim.holds_of_cond 4 Tryz.f4 rfl rfl rfl rfl rfl rfl rfl ⟨rfl,rfl,rfl,rfl,rfl⟩ rfl rfl rfl rfl rfl (by as_aux_lemma=>kernel_rfl) Tryz.func4 closed
  (of_decide_eq_true (by as_aux_lemma=>kernel_rfl)) (by unfold Func.isWrapper; first | (rw [if_pos (by decide +kernel)]; kernel_rfl) | (rw [if_neg (by decide +kernel)]; exact ⟨rfl,rfl⟩))
  (fun os st H enc _ F=>by rw [OpenClaim.pre_eq_preRow]; exact l4 os st H enc F)
theorem p4 (f:FuncId) (fn:Func) (hf:Tryz.pinned.checked.prog.funcNamed "modcert/modcertlaw36.ProofChecks"=some f) (hfn:Tryz.pinned.checked.prog.funcs[f]?=some fn) :
  false=Tryz.pinned.checked.prog.looks []∧∀ (j:Nat) t,fn.params[j]?=some t→Tryz.pinned.checked.prog.wantsStandIn t=false:=by
 obtain rfl:f=4:=Option.some.inj ((show Tryz.prog.funcNamed "modcert/modcertlaw36.ProofChecks"=some 4 by kernel_rfl).symm.trans hf) |>.symm
 obtain rfl:fn=Tryz.f4:=(Option.some.inj (Tryz.func4.symm.trans hfn)).symm
 refine ⟨looksOff,fun j t ht=>noStand t ?_⟩
 rw [Tryz.params4] at ht
 have hm:t ∈ #[25,26,37,40]:=Array.mem_of_getElem? ht
 exact (show ∀ t ∈ ([25,26,37,40]:List Nat),t ∈ ([25,26,27,37,40,63,5,57]:List Nat) by decide) t (by simpa using hm)
theorem card4:Rows.ProofChecksUptoCardSaid :=
 Claim7.holds_tied_plain_at .later [] _ _ _ _ said4 (fun _ h=>by cases h) (by kernel_rfl) (fun _ h=>by cases h) proofChecksUpto_row_tie rfl ⟨rfl,rfl⟩ (by kernel_rfl) rfl p4 (by kernel_rfl)
end Go.Proofs.YtodcmjcogdcmlaaGreatDoor.joins
