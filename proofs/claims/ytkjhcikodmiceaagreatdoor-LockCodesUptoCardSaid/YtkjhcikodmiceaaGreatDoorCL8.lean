/- The card. -/
import Derived.Test.YtkjhcikodmiceaaGreatDoorCJ8
import Derived.Test.YtkjhcikodmiceaaGreatDoorCK8
namespace Go.Proofs.YtkjhcikodmiceaaGreatDoor.joins
open Go Go.Eng Go.Proofs Go.ChangeShapes Go.WideShapes Go.ChangeAt Go.RowKit
theorem said8:Rows.LockCodesUptoSaid:=
 OpenClaim.holds_of_cond 8 Tryz.f8 rfl rfl rfl rfl rfl rfl rfl ⟨rfl,rfl,rfl,rfl,rfl⟩ rfl rfl rfl rfl rfl (by as_aux_lemma=>kernel_rfl) Tryz.func8 closed
  (B7 (by as_aux_lemma=>kernel_rfl)) (by unfold Func.isWrapper;first | (rw[AO (by decide +kernel)];kernel_rfl) | (rw[AB (by decide +kernel)];exact⟨rfl,rfl⟩))
  (fun os started H enc _ F=>by rw[OpenClaim.pre_eq_preRow];exact lifted8 os started H enc F)
theorem plain8 (f : FuncId) (fn : Func) (hf : Tryz.pinned.checked.prog.funcNamed "modcert/modcertlaw39.LockCodes" = some f) (hfn : Tryz.pinned.checked.prog.funcs[f]? = some fn) :
  true=Tryz.pinned.checked.prog.looks []/\∀(j:Nat) t,fn.params[j]?=some t->Tryz.pinned.checked.prog.wantsStandIn t=false:=by
 obtain rfl : f = 8 := EH ((show Tryz.prog.funcNamed "modcert/modcertlaw39.LockCodes" = some 8 by kernel_rfl).symm.trans hf) |>.symm
 obtain rfl:fn=Tryz.f8:=(EH (Tryz.func8.symm.trans hfn)).symm
 refine⟨looksOff,fun j t ht=>noStand t ?_⟩
 rw[Tryz.params8]at ht
 have hm:t∈#[33,9]:=Array.mem_of_getElem? ht
 exact(show ∀t∈([33,9]:List Nat),t∈([5,9,25,26,33,43]:List Nat) by decide) t (by simpa using hm)
theorem goesNone:Tryz.pinned.checked.prog.funcs.any Func.goes=false:=by kernel_rfl
theorem goes_of{P:Program}(h:P.funcs.any Func.goes=false)(f:FuncId):P.goes f=false:=by
 have k:∀g:Nat,((P.funcs[g]?).any Func.goes)=false:=fun g=>by
  cases e:P.funcs[g]? with
  |none=>rfl
  |some x=>
   obtain⟨hg,rfl⟩:=Array.getElem?_eq_some_iff.1 e
   have q:=Array.any_eq_false.1 h g hg
   show Func.goes P.funcs[g]=false
   simpa using q
 unfold Program.goes
 rw[h,Bool.and_false,Bool.or_false]
 exact List.any_eq_false.2 fun g _=>by rw[k g];exact Bool.false_ne_true
theorem goes_by{P:Program}(h:P.funcs.any Func.goes=false){c:OpenClaim}(e:c.start=.entering):false=c.goesBy P:=by
 unfold OpenClaim.goesBy Program.goesAt Program.goesFrom
 rw[e]
 cases P.funcNamed c.func with
 |none=>rfl
 |some f=>show false=(P.goes f||false);rw[goes_of h f];rfl
theorem goes8:false=Rows.lockCodesUptoRow.goesBy Tryz.pinned.checked.prog:=goes_by goesNone rfl
theorem card8:Rows.LockCodesUptoCardSaid:=
 Claim7.holds_tied_plain_at .later [] _ _ _ _ said8 (fun _ h=>by cases h) (by kernel_rfl) (fun _ h=>by cases h) lockCodesUpto_row_tie rfl ⟨rfl,rfl⟩ (by kernel_rfl) rfl plain8 goes8
end Go.Proofs.YtkjhcikodmiceaaGreatDoor.joins
