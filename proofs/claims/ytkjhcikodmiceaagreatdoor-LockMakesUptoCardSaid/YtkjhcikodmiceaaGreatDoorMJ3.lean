/- The law LockMakes of chapter 39 returns true and leaves the memory as it was, for inputs of bounded bulk. -/
import Derived.Test.YtkjhcikodmiceaaGreatDoorMA35
namespace Go.Proofs.YtkjhcikodmiceaaGreatDoor.joins
open Go Go.Eng Go.Proofs Go.ChangeShapes Go.WideShapes Go.ChangeAt Go.RowKit
abbrev args3:Array Value:=#[.agg #[nilV,nilV],nilV]
theorem laid_met3(os:Os):laidMet Tryz.prog Rows.lockMakesUptoRow.laid ((laidWorld os).forCall (fun _ _=>0) ⟨#[],args3,[]⟩).memory:=
 laidMet_of_run' 8 (by as_aux_lemma=>kernel_rfl) (by as_aux_lemma=>kernel_rfl)
theorem reads3(os:Os){H:Type}(enc:TypeId×Value->H):∃places,DataW.whole enc Tryz.prog ((laidWorld os).forCall (fun _ _=>0) ⟨#[],args3,[]⟩).memory Tryz.f3.params.toList Rows.lockMakesSpec.vars false args3.toList 8 =
  some ([.agg [.nil,.nil],.nil],[],places):=
 ⟨[],by kernel_rfl⟩
set_option maxRecDepth 100000 in
theorem contract3(H:Type)(enc:TypeId×Value->H)(W:World)(base:Nat)(args:Array Value)(ds gs:List (DataW H))(before:List MemPlace)
  (hval:∀(j:Nat) t v,Tryz.f3.params[j]?=some t->args[j]?=some v->Value.okWide Tryz.prog W .any base t v)
  (hW:DataW.Whole enc Tryz.prog Tryz.f3.params.toList Rows.lockMakesSpec.vars false W args.toList ds gs before) (hk:Rows.uptoSmall H (ds++gs)=true) (hM:∃m,W.cell? ⟨0,0,none⟩=some (.int .i64 m)) :
  Calls Tryz.prog 3 args W fun e W'=>∃v,e=.returned v/\Rows.lockMakesSpec.post enc Tryz.prog Tryz.f3 false true false false W args v W':=by
 have hW':=hW
 obtain⟨p,q,hA0,hV,rfl,hfz,Rx⟩:=hW
 have hA:DataW.TrodAll enc Tryz.prog W 0 (fun _=>true) true Tryz.f3.params.toList args.toList ds p:=hA0
 rw[Tryz.params3]at hA hval
 obtain⟨v0,vs0,d0,ds0,p0,q0,Mi,rfl,rfl,h0,r0⟩:=trodAll_cons hA
 obtain⟨v1,vs1,d1,ds1,p1,q1,rfl,rfl,rfl,h1,r1⟩:=trodAll_cons r0
 obtain⟨rfl,rfl,rfl⟩:=trodAll_nil r1
 have zA:args=#[v0,v1]:=arr2 Mi
 subst zA
 obtain⟨rfl,rfl⟩:=trodVars_none hV
 have hb:Rows.uptoBulkAll ([d0,d1]:List (DataW H))<=1048576:=by
  rw[Ey]at hk
  exact Db hk
 have bd:∀d∈([d0,d1]:List (DataW H)),Rows.uptoBulk d<=NB:=fun d hd=>Bd (all_le hd) hb
 obtain⟨c0,rfl⟩:=ok_agg Tryz.underlying25 (hval 0 25 v0 rfl rfl)
 have hv1:=ok_slice Tryz.underlying26 (hval 1 26 v1 rfl rfl)
 obtain⟨x0,R0,K0⟩:=pg oIx h0 (bd _ (by simp))
 obtain⟨x1,R1,K1⟩:=ph (e:=fun l:List Rq=>sl Ac l) oRqs hv1 h1 (bd _ (by simp))
 have hc:PC 3 [GM x0.1 x0.2,sl Ac x1] (I true):=AaW x0.1 x0.2 x1 (lim_of K0.1 K1)
 refine(run_true (vals:=#[.agg c0,v1]) hc hM rfl (fun i av y e1 e2=>?_)).mono fun e W' ⟨he,hs⟩=>⟨_,he,post_true hs rfl (by simpa using hW') rfl (by rw[Tryz.params3];decide +kernel) rfl⟩
 match i with
 |0=>cases e1;cases e2;exact R0
 |1=>cases e1;cases e2;exact R1
 |_+2=>simp at e1
set_option maxRecDepth 100000 in
theorem lifted3(os:Os)(started:os.Started)(H:Type)(enc:TypeId×Value->H)(F:Stop.Interp) :
  ReturnsInHanded {} Tryz.checked os 3 .any ((Rows.OpenSpec.upto Rows.lockMakesSpec).preRow enc Tryz.prog Tryz.f3 Rows.lockMakesUptoRow.domain false Rows.lockMakesUptoRow.laid) (((Rows.OpenSpec.upto Rows.lockMakesSpec).at F).post enc Tryz.prog Tryz.f3 false true false false):=by
 obtain⟨places,hx⟩:=reads3 os enc
 refine returnsInHanded_of_row (C:=Tryz.checked) (s:=Rows.OpenSpec.upto Rows.lockMakesSpec) own started (by as_aux_lemma=>kernel_rfl) Tryz.func3
  (witness_row_at (enc:=enc) (C:=Tryz.checked) false (laidWorld os) args3 rfl (by as_aux_lemma=>kernel_rfl) (by as_aux_lemma=>kernel_rfl) (by as_aux_lemma=>kernel_rfl)
   (OpenSpec.preRow_of_cond 8 hx (by as_aux_lemma=>kernel_rfl) (fun k hk=>by cases hk;as_aux_lemma=>kernel_rfl) (by as_aux_lemma=>kernel_rfl) (laid_met3 os))) ?_
 intro W base args ds gs before hval hW od nP hx1 hx2 hsh hx3
 exact contract3 H enc W base args ds gs before hval hW (nP _ rfl) (maxLen_cell hsh)
end Go.Proofs.YtkjhcikodmiceaaGreatDoor.joins
