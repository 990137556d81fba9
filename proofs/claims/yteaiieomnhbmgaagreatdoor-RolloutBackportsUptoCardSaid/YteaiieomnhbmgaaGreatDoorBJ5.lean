/- The law RolloutBackports of chapter 45 returns true and leaves the memory as it was, for inputs of bounded bulk. -/
import Derived.Test.YteaiieomnhbmgaaGreatDoorBA33
namespace Go.Proofs.YteaiieomnhbmgaaGreatDoor.joins
open Go Go.Eng Go.Proofs Go.ChangeShapes Go.WideShapes Go.ChangeAt Go.RowKit
abbrev args5:Array Value:=#[.agg #[nilV,nilV],.agg #[.string ⟨#[]⟩,.string ⟨#[]⟩,nilV,nilV,.string ⟨#[]⟩],nilV]
theorem laid_met5(os:Os):laidMet Tryz.prog Rows.rolloutBackportsUptoRow.laid ((laidWorld os).forCall (fun _ _=>0) ⟨#[],args5,[]⟩).memory:=
 laidMet_of_run' 8 (by as_aux_lemma=>kernel_rfl) (by as_aux_lemma=>kernel_rfl)
theorem reads5(os:Os){H:Type}(enc:TypeId×Value->H):∃places,DataW.whole enc Tryz.prog ((laidWorld os).forCall (fun _ _=>0) ⟨#[],args5,[]⟩).memory Tryz.f5.params.toList Rows.rolloutBackportsSpec.vars false args5.toList 8 =
  some ([.agg [.nil,.nil],.agg [.lit (.string []),.lit (.string []),.nil,.nil,.lit (.string [])],.nil],[],places):=
 ⟨[],by kernel_rfl⟩
set_option maxRecDepth 100000 in
theorem contract5(H:Type)(enc:TypeId×Value->H)(W:World)(base:Nat)(args:Array Value)(ds gs:List (DataW H))(before:List MemPlace)
  (hval:∀(j:Nat) t v,Tryz.f5.params[j]?=some t->args[j]?=some v->Value.okWide Tryz.prog W .any base t v)
  (hW:DataW.Whole enc Tryz.prog Tryz.f5.params.toList Rows.rolloutBackportsSpec.vars false W args.toList ds gs before) (hk:Rows.uptoSmall H (ds++gs)=true) (hM:Start W) :
  Calls Tryz.prog 5 args W fun e W'=>∃v,e=.returned v/\Rows.rolloutBackportsSpec.post enc Tryz.prog Tryz.f5 false true false false W args v W':=by
 have hW':=hW
 obtain⟨p,q,hA0,hV,rfl,hfz,VR⟩:=hW
 have hA:DataW.TrodAll enc Tryz.prog W 0 (fun _=>true) true Tryz.f5.params.toList args.toList ds p:=hA0
 rw[Tryz.params5]at hA hval
 obtain⟨v0,vs0,d0,ds0,p0,q0,Ku,rfl,rfl,h0,r0⟩:=trodAll_cons hA
 obtain⟨v1,vs1,d1,ds1,p1,q1,rfl,rfl,rfl,h1,r1⟩:=trodAll_cons r0
 obtain⟨v2,vs2,d2,ds2,p2,q2,rfl,rfl,rfl,h2,r2⟩:=trodAll_cons r1
 obtain⟨rfl,rfl,rfl⟩:=trodAll_nil r2
 have zO:args=#[v0,v1,v2]:=arr3 Ku
 subst zO
 obtain⟨rfl,rfl⟩:=trodVars_none hV
 have hb:Rows.uptoBulkAll ([d0,d1,d2]:List (DataW H))<=1048576:=by
  rw[BG]at hk
  exact AW hk
 have bd:∀d∈([d0,d1,d2]:List (DataW H)),Rows.uptoBulk d<=NB:=fun d hd=>AH (all_le hd) hb
 obtain⟨c0,rfl⟩:=ok_agg Tryz.underlying33 (hval 0 33 v0 rfl rfl)
 obtain⟨c1,rfl⟩:=ok_agg Tryz.underlying54 (hval 1 54 v1 rfl rfl)
 have hv2:=ok_slice Tryz.underlying55 (hval 2 55 v2 rfl rfl)
 obtain⟨x0,R0,K0⟩:=bT oIx h0 (bd _ (by simp))
 obtain⟨x1,R1,K1⟩:=bT oAd h1 (bd _ (by simp))
 obtain⟨x2,R2,K2⟩:=oX (e:=fun l:List (List Rq)=>sl BD l) oCl hv2 h2 (bd _ (by simp))
 have hc:PC 5 [Fr x0.1 x0.2,.agg (AM x1),sl BD x2] (vb true):=AfO x0.1 x0.2 x1 x2 (lim0_of K0.1) (lima_of K1 K2) (few_of K0.2.1) K0.2.2
 refine(run_true (vals:=#[.agg c0,.agg c1,v2]) hc hM rfl (fun i av y e1 e2=>?_)).mono fun e W' ⟨he,hs⟩=>⟨_,he,post_true hs rfl (by simpa using hW') rfl (by rw[Tryz.params5];decide +kernel) rfl⟩
 match i with
 |0=>cases e1;cases e2;exact R0
 |1=>cases e1;cases e2;exact R1
 |2=>cases e1;cases e2;exact R2
 |_+3=>simp at e1
set_option maxRecDepth 100000 in
theorem lifted5(os:Os)(started:os.Started)(H:Type)(enc:TypeId×Value->H)(F:Stop.Interp) :
  ReturnsInHanded {} Tryz.checked os 5 .any ((Rows.OpenSpec.upto Rows.rolloutBackportsSpec).preRow enc Tryz.prog Tryz.f5 Rows.rolloutBackportsUptoRow.domain false Rows.rolloutBackportsUptoRow.laid) (((Rows.OpenSpec.upto Rows.rolloutBackportsSpec).at F).post enc Tryz.prog Tryz.f5 false true false false):=by
 obtain⟨places,hx⟩:=reads5 os enc
 refine returnsInHanded_of_row (C:=Tryz.checked) (s:=Rows.OpenSpec.upto Rows.rolloutBackportsSpec) own started (by as_aux_lemma=>kernel_rfl) Tryz.func5
  (witness_row_at (enc:=enc) (C:=Tryz.checked) false (laidWorld os) args5 rfl (by as_aux_lemma=>kernel_rfl) (by as_aux_lemma=>kernel_rfl) (by as_aux_lemma=>kernel_rfl)
   (OpenSpec.preRow_of_cond 8 hx (by as_aux_lemma=>kernel_rfl) (fun k hk=>by cases hk;as_aux_lemma=>kernel_rfl) (by as_aux_lemma=>kernel_rfl) (laid_met5 os))) ?_
 intro W base args ds gs before hval hW nO nw hx1 yZ hsh hx3
 exact contract5 H enc W base args ds gs before hval hW (nw _ rfl) (start_of hsh yZ)
end Go.Proofs.YteaiieomnhbmgaaGreatDoor.joins
