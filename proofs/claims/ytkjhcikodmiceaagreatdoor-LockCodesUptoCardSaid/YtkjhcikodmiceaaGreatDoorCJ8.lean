/- The law LockCodes of chapter 39 returns true and leaves the memory as it was, for inputs of bounded bulk. -/
import Derived.Test.YtkjhcikodmiceaaGreatDoorCA35
import Derived.Test.YtkjhcikodmiceaaGreatDoorCA34
set_option maxRecDepth 100000
namespace Go.Proofs.YtkjhcikodmiceaaGreatDoor.joins
open Go Go.Eng Go.Proofs Go.ChangeShapes Go.WideShapes Go.ChangeAt Go.RowKit
abbrev args8:Array Value:=#[.agg #[nilV,nilV,nilV,nilV],.string ⟨#[]⟩]
theorem laid_met8(os:Os):laidMet Tryz.prog Rows.lockCodesUptoRow.laid ((laidWorld os).forCall (fun _ _=>0) ⟨#[],args8,[]⟩).memory:=
 laidMet_of_run' 8 (by as_aux_lemma=>kernel_rfl) (by as_aux_lemma=>kernel_rfl)
theorem reads8(os:Os){H:Type}(enc:TypeId×Value->H):∃places,DataW.whole enc Tryz.prog ((laidWorld os).forCall (fun _ _=>0) ⟨#[],args8,[]⟩).memory Tryz.f8.params.toList Rows.lockCodesSpec.vars false args8.toList 8 =
  some ([.agg [.nil,.nil,.nil,.nil],.lit (.string [])],[],places):=
 ⟨[],by kernel_rfl⟩
theorem contract8(H:Type)(enc:TypeId×Value->H)(W:World)(base:Nat)(args:Array Value)(ds gs:List (DataW H))(before:List MemPlace)
  (hval:∀(j:Nat) t v,Tryz.f8.params[j]?=some t->args[j]?=some v->Value.okWide Tryz.prog W .any base t v)
  (hW:DataW.Whole enc Tryz.prog Tryz.f8.params.toList Rows.lockCodesSpec.vars false W args.toList ds gs before) (hk:Rows.uptoSmall H (ds++gs)=true) (hM:∃m,W.cell? ⟨0,0,none⟩=some (.int .i64 m)) :
  Calls Tryz.prog 8 args W fun e W'=>∃v,e=.returned v/\Rows.lockCodesSpec.post enc Tryz.prog Tryz.f8 false true false false W args v W':=by
 have hW':=hW
 obtain⟨p,q,hA0,hV,rfl,hfz,VN⟩:=hW
 have hA:DataW.TrodAll enc Tryz.prog W 0 (fun _=>true) true Tryz.f8.params.toList args.toList ds p:=hA0
 rw[Tryz.params8]at hA hval
 obtain⟨v0,vs0,d0,ds0,p0,q0,Mn,rfl,rfl,h0,r0⟩:=trodAll_cons hA
 obtain⟨v1,vs1,d1,ds1,p1,q1,rfl,rfl,rfl,h1,r1⟩:=trodAll_cons r0
 obtain⟨rfl,rfl,rfl⟩:=trodAll_nil r1
 have AeB:args=#[v0,v1]:=arr2 Mn
 subst AeB
 obtain⟨rfl,rfl⟩:=trodVars_none hV
 have hb:Rows.uptoBulkAll ([d0,d1]:List (DataW H))<=1048576:=by
  rw[B9]at hk
  exact B7 hk
 have bd:∀d∈([d0,d1]:List (DataW H)),Rows.uptoBulk d<=NB:=fun d hd=>Az (all_le hd) hb
 obtain⟨c0,rfl⟩:=ok_agg Tryz.underlying33 (hval 0 33 v0 rfl rfl)
 have hv1:=ok_string Tryz.underlying9 (hval 1 9 v1 rfl rfl)
 obtain⟨x0,R0,K0⟩:=s9 oLk h0 (bd _ (by simp))
 obtain⟨x1,R1,K1⟩:=tc (e:=fun s:ByteArray=>vs s) oS hv1 h1 (bd _ (by simp))
 have hc:PC 8 [.agg (Bu x0),vs x1] (Q true):=AkS x0 x1 K0.1.1 (limk_of K0) (fun i h=>(K0.2.2.1.2 i h).2) (fun y h=>(K0.2.2.2.2 y h).2)
 refine(run_true (vals:=#[.agg c0,v1]) hc hM rfl (fun i av y e1 e2=>?_)).mono fun e W' ⟨he,hs⟩=>⟨_,he,post_true hs rfl (by simpa using hW') rfl (by rw[Tryz.params8];decide +kernel) rfl⟩
 match i with
 |0=>cases e1;cases e2;exact R0
 |1=>cases e1;cases e2;exact R1
 |_+2=>simp at e1
theorem lifted8(os:Os)(started:os.Started)(H:Type)(enc:TypeId×Value->H)(F:Stop.Interp) :
  ReturnsInHanded {} Tryz.checked os 8 .any ((Rows.OpenSpec.upto Rows.lockCodesSpec).preRow enc Tryz.prog Tryz.f8 Rows.lockCodesUptoRow.domain false Rows.lockCodesUptoRow.laid) (((Rows.OpenSpec.upto Rows.lockCodesSpec).at F).post enc Tryz.prog Tryz.f8 false true false false):=by
 obtain⟨places,hx⟩:=reads8 os enc
 refine returnsInHanded_of_row (C:=Tryz.checked) (s:=Rows.OpenSpec.upto Rows.lockCodesSpec) own started (by as_aux_lemma=>kernel_rfl) Tryz.func8
  (witness_row_at (enc:=enc) (C:=Tryz.checked) false (laidWorld os) args8 rfl (by as_aux_lemma=>kernel_rfl) (by as_aux_lemma=>kernel_rfl) (by as_aux_lemma=>kernel_rfl)
   (OpenSpec.preRow_of_cond 8 hx (by as_aux_lemma=>kernel_rfl) (fun k hk=>by cases hk;as_aux_lemma=>kernel_rfl) (by as_aux_lemma=>kernel_rfl) (laid_met8 os))) ?_
 intro W base args ds gs before hval hW hx0 rx hx1 hx2 hsh hx3
 exact contract8 H enc W base args ds gs before hval hW (rx _ rfl) (maxLen_cell hsh)
end Go.Proofs.YtkjhcikodmiceaaGreatDoor.joins
