/- The law RolloutCohorts of chapter 45 returns true and leaves the memory as it was, for inputs of bounded bulk. -/
import Derived.Test.YteaiieomnhbmgaaGreatDoorA34
import Derived.Test.YteaiieomnhbmgaaGreatDoorK8
namespace Go.Proofs.YteaiieomnhbmgaaGreatDoor.joins
open Go Go.Eng Go.Proofs Go.ChangeShapes Go.WideShapes Go.ChangeAt Go.RowKit
abbrev args8:Array Value:=#[.string ⟨#[]⟩,.string ⟨#[]⟩,.int .u8 0]
theorem laid_met8(os:Os):laidMet Tryz.prog Rows.rolloutCohortsUptoRow.laid ((laidWorld os).forCall (fun _ _=>0) ⟨#[],args8,[]⟩).memory :=
 laidMet_of_run' 8 (by as_aux_lemma=>kernel_rfl) (by as_aux_lemma=>kernel_rfl)
theorem reads8(os:Os){H:Type}(enc:TypeId×Value->H):∃places,DataW.whole enc Tryz.prog ((laidWorld os).forCall (fun _ _=>0) ⟨#[],args8,[]⟩).memory Tryz.f8.params.toList Rows.rolloutCohortsSpec.vars false args8.toList 8 =
  some ([.lit (.string []),.lit (.string []),.lit (.int .u8 0)],[],places) :=
 ⟨[],by kernel_rfl⟩
set_option maxRecDepth 100000 in
theorem contract8(H:Type)(enc:TypeId×Value->H)(W:World)(base:Nat)(args:Array Value)(ds gs:List (DataW H))(before:List MemPlace)
  (hval:∀(j:Nat) t v,Tryz.f8.params[j]?=some t->args[j]?=some v->Value.okWide Tryz.prog W .any base t v)
  (hW:DataW.Whole enc Tryz.prog Tryz.f8.params.toList Rows.rolloutCohortsSpec.vars false W args.toList ds gs before) (hk:Rows.uptoSmall H (ds++gs)=true) (hM:Start W) :
  Calls Tryz.prog 8 args W fun e W'=>∃v,e=.returned v/\Rows.rolloutCohortsSpec.post enc Tryz.prog Tryz.f8 false true false false W args v W':=by
 have hW':=hW
 obtain⟨p,q,hA0,hV,rfl,hfz,SI⟩:=hW
 have hA:DataW.TrodAll enc Tryz.prog W 0 (fun _=>true) true Tryz.f8.params.toList args.toList ds p:=hA0
 rw[Tryz.params8]at hA hval
 obtain⟨v0,vs0,d0,ds0,p0,q0,J3,rfl,rfl,h0,r0⟩:=trodAll_cons hA
 obtain⟨v1,vs1,d1,ds1,p1,q1,rfl,rfl,rfl,h1,r1⟩:=trodAll_cons r0
 obtain⟨v2,vs2,d2,ds2,p2,q2,rfl,rfl,rfl,h2,r2⟩:=trodAll_cons r1
 obtain⟨rfl,rfl,rfl⟩:=trodAll_nil r2
 have wB:args=#[v0,v1,v2]:=arr3 J3
 subst wB
 obtain⟨rfl,rfl⟩:=trodVars_none hV
 have hb:Rows.uptoBulkAll ([d0,d1,d2]:List (DataW H))<=1048576:=by
  rw[BP]at hk
  exact AU hk
 have bd:∀d∈([d0,d1,d2]:List (DataW H)),Rows.uptoBulk d<=NB:=fun d hd=>AJ (all_le hd) hb
 have hv0:=ok_string Tryz.underlying9 (hval 0 9 v0 rfl rfl)
 have hv1:=ok_string Tryz.underlying9 (hval 1 9 v1 rfl rfl)
 have tL:=ok_int Tryz.underlying5 (hval 2 5 v2 rfl rfl)
 obtain⟨x0,R0,K0⟩:=UZ (e:=fun s:ByteArray=>vs s) oS hv0 h0 (bd _ (by simp))
 obtain⟨x1,R1,K1⟩:=UZ (e:=fun s:ByteArray=>vs s) oS hv1 h1 (bd _ (by simp))
 obtain⟨x2,R2,K2⟩:=UZ (e:=fun n:Int=>.v (.int .u8 n)) oU8 tL h2 (bd _ (by simp))
 have hc:PC 8 [vs x0,vs x1,.v (.int .u8 x2)] (vb true):=Acg x0 x1 x2 K2
 refine(run_true (vals:=#[v0,v1,v2]) hc hM rfl (fun i av y e1 e2=>?_)).mono fun e W' ⟨he,hs⟩=>⟨_,he,post_true hs rfl (by simpa using hW') rfl (by rw[Tryz.params8];decide +kernel) rfl⟩
 match i with
 |0=>cases e1;cases e2;exact R0
 |1=>cases e1;cases e2;exact R1
 |2=>cases e1;cases e2;exact R2
 |_+3=>simp at e1
set_option maxRecDepth 100000 in
theorem lifted8(os:Os)(started:os.Started)(H:Type)(enc:TypeId×Value->H)(F:Stop.Interp) :
  ReturnsInHanded {} Tryz.checked os 8 .any ((Rows.OpenSpec.upto Rows.rolloutCohortsSpec).preRow enc Tryz.prog Tryz.f8 Rows.rolloutCohortsUptoRow.domain false Rows.rolloutCohortsUptoRow.laid) (((Rows.OpenSpec.upto Rows.rolloutCohortsSpec).at F).post enc Tryz.prog Tryz.f8 false true false false):=by
 obtain⟨places,hx⟩:=reads8 os enc
 refine returnsInHanded_of_row (C:=Tryz.checked) (s:=Rows.OpenSpec.upto Rows.rolloutCohortsSpec) own started (by as_aux_lemma=>kernel_rfl) Tryz.func8
  (witness_row_at (enc:=enc) (C:=Tryz.checked) false (laidWorld os) args8 rfl (by as_aux_lemma=>kernel_rfl) (by as_aux_lemma=>kernel_rfl) (by as_aux_lemma=>kernel_rfl)
   (OpenSpec.preRow_of_cond 8 hx (by as_aux_lemma=>kernel_rfl) (fun k hk=>by cases hk;as_aux_lemma=>kernel_rfl) (by as_aux_lemma=>kernel_rfl) (laid_met8 os))) ?_
 intro W base args ds gs before hval hW ik lu hx1 rJ hsh hx3
 exact contract8 H enc W base args ds gs before hval hW (lu _ rfl) (start_of hsh rJ)
theorem said8:Rows.RolloutCohortsUptoSaid :=
 OpenClaim.holds_of_cond 8 Tryz.f8 rfl rfl rfl rfl rfl rfl rfl ⟨rfl,rfl,rfl,rfl,rfl⟩ rfl rfl rfl rfl rfl (by as_aux_lemma=>kernel_rfl) Tryz.func8 closed
  (AU (by as_aux_lemma=>kernel_rfl)) (by unfold Func.isWrapper;first | (rw[Al (by decide +kernel)];kernel_rfl) | (rw[Ai (by decide +kernel)];exact⟨rfl,rfl⟩))
  (fun os started H enc _ F=>by rw[OpenClaim.pre_eq_preRow];exact lifted8 os started H enc F)
end Go.Proofs.YteaiieomnhbmgaaGreatDoor.joins
