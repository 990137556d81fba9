/- The law ExplainAnswers of chapter 38 returns true and leaves the memory as it was, for inputs of bounded bulk. -/
import Derived.Test.YtpgfieopnnkpfaaGreatDoorQA31
namespace Go.Proofs.YtpgfieopnnkpfaaGreatDoor.joins
open Go Go.Eng Go.Proofs Go.ChangeShapes Go.WideShapes Go.ChangeAt Go.RowKit
abbrev args8:Array Value:=#[.agg #[nilV,nilV],nilV,.agg #[.bool false,nilV,nilV,nilV]]
theorem laid_met8(os:Os):laidMet Tryz.prog Rows.explainAnswersUptoRow.laid ((laidWorld os).forCall (fun _ _=>0) ⟨#[],args8,[]⟩).memory:=
 laidMet_of_run' 8 (by as_aux_lemma=>kernel_rfl) (by as_aux_lemma=>kernel_rfl)
theorem reads8(os:Os){H:Type}(enc:TypeId×Value->H):∃places,DataW.whole enc Tryz.prog ((laidWorld os).forCall (fun _ _=>0) ⟨#[],args8,[]⟩).memory Tryz.f8.params.toList Rows.explainAnswersSpec.vars false args8.toList 8 =
  some ([.agg [.nil,.nil],.nil,.agg [.lit (.bool false),.nil,.nil,.nil]],[],places):=
 ⟨[],by kernel_rfl⟩
set_option maxRecDepth 100000 in
theorem contract8(H:Type)(enc:TypeId×Value->H)(W:World)(base:Nat)(args:Array Value)(ds gs:List (DataW H))(before:List MemPlace)
  (Lr:∀(j:Nat) t v,Tryz.f8.params[j]?=some t->args[j]?=some v->Value.okWide Tryz.prog W .any base t v)
  (hW:DataW.Whole enc Tryz.prog Tryz.f8.params.toList Rows.explainAnswersSpec.vars false W args.toList ds gs before) (hk:Rows.uptoSmall H (ds++gs)=true) (hM:Start W) :
  Calls Tryz.prog 8 args W fun e W'=>∃v,e=.returned v/\Rows.explainAnswersSpec.post enc Tryz.prog Tryz.f8 false true false false W args v W':=by
 have hW':=hW
 obtain⟨p,q,y6,hV,rfl,hfz,l7⟩:=hW
 have hA:DataW.TrodAll enc Tryz.prog W 0 (fun _=>true) true Tryz.f8.params.toList args.toList ds p:=y6
 rw[Tryz.params8]at hA Lr
 obtain⟨v0,vs0,d0,ds0,p0,q0,Lc,rfl,rfl,h0,r0⟩:=trodAll_cons hA
 obtain⟨v1,vs1,d1,ds1,p1,q1,rfl,rfl,rfl,h1,r1⟩:=trodAll_cons r0
 obtain⟨v2,vs2,d2,ds2,p2,q2,rfl,rfl,rfl,h2,r2⟩:=trodAll_cons r1
 obtain⟨rfl,rfl,rfl⟩:=trodAll_nil r2
 have ua:args=#[v0,v1,v2]:=arr3 Lc
 subst ua
 obtain⟨rfl,rfl⟩:=trodVars_none hV
 have hb:Rows.uptoBulkAll ([d0,d1,d2]:List (DataW H))<=1048576:=by
  rw[BC]at hk
  exact DR hk
 have bd:∀d∈([d0,d1,d2]:List (DataW H)),Rows.uptoBulk d<=NB:=fun d hd=>AL (all_le hd) hb
 obtain⟨c0,rfl⟩:=ok_agg Tryz.underlying42 (Lr 0 42 v0 rfl rfl)
 have Xk:=ok_slice Tryz.underlying43 (Lr 1 43 v1 rfl rfl)
 obtain⟨c2,rfl⟩:=ok_agg Tryz.underlying66 (Lr 2 66 v2 rfl rfl)
 obtain⟨x0,R0,K0⟩:=Y1 oIx h0 (bd _ (by simp))
 obtain⟨x1,R1,K1⟩:=kR (e:=fun l:List Rq=>sl Ad l) oRqs Xk h1 (bd _ (by simp))
 obtain⟨x2,R2,K2⟩:=Y1 oAnP h2 (bd _ (by simp))
 have hc:PC 8 [Jx x0.1 x0.2,sl Ad x1,.agg (Iz x2)] (vb true):=Aar x0.1 x0.2 x1 x2 (lim_of K0 K1) (short_of K0 K1 K2)
 refine(run_true (vals:=#[.agg c0,v1,.agg c2]) hc hM rfl (fun i av y e1 e2=>?_)).mono fun e W' ⟨he,hs⟩=>⟨_,he,post_true hs rfl (by simpa using hW') rfl (by rw[Tryz.params8];decide +kernel) rfl⟩
 match i with
 |0=>cases e1;cases e2;exact R0
 |1=>cases e1;cases e2;exact R1
 |2=>cases e1;cases e2;exact R2
 |_+3=>simp at e1
set_option maxRecDepth 100000 in
theorem lifted8(os:Os)(started:os.Started)(H:Type)(enc:TypeId×Value->H)(F:Stop.Interp) :
  ReturnsInHanded {} Tryz.checked os 8 .any ((Rows.OpenSpec.upto Rows.explainAnswersSpec).preRow enc Tryz.prog Tryz.f8 Rows.explainAnswersUptoRow.domain false Rows.explainAnswersUptoRow.laid) (((Rows.OpenSpec.upto Rows.explainAnswersSpec).at F).post enc Tryz.prog Tryz.f8 false true false false):=by
 obtain⟨places,hx⟩:=reads8 os enc
 refine returnsInHanded_of_row (C:=Tryz.checked) (s:=Rows.OpenSpec.upto Rows.explainAnswersSpec) own started (by as_aux_lemma=>kernel_rfl) Tryz.func8
  (witness_row_at (enc:=enc) (C:=Tryz.checked) false (laidWorld os) args8 rfl (by as_aux_lemma=>kernel_rfl) (by as_aux_lemma=>kernel_rfl) (by as_aux_lemma=>kernel_rfl)
   (OpenSpec.preRow_of_cond 8 hx (by as_aux_lemma=>kernel_rfl) (fun k hk=>by cases hk;as_aux_lemma=>kernel_rfl) (by as_aux_lemma=>kernel_rfl) (laid_met8 os))) ?_
 intro W base args ds gs before Lr hW j8 jN hx1 sP hsh hx3
 exact contract8 H enc W base args ds gs before Lr hW (jN _ rfl) (start_of hsh sP)
end Go.Proofs.YtpgfieopnnkpfaaGreatDoor.joins
