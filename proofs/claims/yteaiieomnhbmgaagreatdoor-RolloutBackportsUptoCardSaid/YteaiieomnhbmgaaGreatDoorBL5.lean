/- The card. -/
import Derived.Test.YteaiieomnhbmgaaGreatDoorBJ5
import Derived.Test.YteaiieomnhbmgaaGreatDoorBK5
namespace Go.Proofs.YteaiieomnhbmgaaGreatDoor.joins
open Go Go.Eng Go.Proofs Go.ChangeShapes Go.WideShapes Go.ChangeAt Go.RowKit
theorem said5:Rows.RolloutBackportsUptoSaid:=
 OpenClaim.holds_of_cond 5 Tryz.f5 rfl rfl rfl rfl rfl rfl rfl ⟨rfl,rfl,rfl,rfl,rfl⟩ rfl rfl rfl rfl rfl (by as_aux_lemma=>kernel_rfl) Tryz.func5 closed
  (AW (by as_aux_lemma=>kernel_rfl)) (by unfold Func.isWrapper;first | (rw[Ay (by decide +kernel)];kernel_rfl) | (rw[Az (by decide +kernel)];exact⟨rfl,rfl⟩))
  (fun os started H enc _ F=>by rw[OpenClaim.pre_eq_preRow];exact lifted5 os started H enc F)
theorem plain5 (f : FuncId) (fn : Func) (hf : Tryz.pinned.checked.prog.funcNamed "modcert/modcertlaw45.RolloutBackports" = some f) (hfn : Tryz.pinned.checked.prog.funcs[f]? = some fn) :
  false=Tryz.pinned.checked.prog.looks []/\∀(j:Nat) t,fn.params[j]?=some t->Tryz.pinned.checked.prog.wantsStandIn t=false:=by
 obtain rfl : f = 5 := DW ((show Tryz.prog.funcNamed "modcert/modcertlaw45.RolloutBackports" = some 5 by kernel_rfl).symm.trans hf) |>.symm
 obtain rfl:fn=Tryz.f5:=(DW (Tryz.func5.symm.trans hfn)).symm
 refine⟨looksOff,fun j t ht=>noStand t ?_⟩
 rw[Tryz.params5]at ht
 have hm:t∈#[33,54,55]:=Array.mem_of_getElem? ht
 exact(show ∀t∈([33,54,55]:List Nat),t∈([3,5,9,22,33,34,37,54,55]:List Nat) by decide) t (by simpa using hm)
theorem goesNone:Tryz.pinned.checked.prog.funcs.any Func.goes=false:=by kernel_rfl
theorem goes_of{P:Program}(h:P.funcs.any Func.goes=false)(f:FuncId):P.goes f=false:=by
 have k:∀g:Nat,((P.funcs[g]?).any Func.goes)=false:=fun g=>by
  cases e:P.funcs[g]? with
  |none=>rfl
  |some x=>
   obtain⟨hg,rfl⟩:=Array.getElem?_eq_some_iff.1 e
   have q:=Array.any_eq_false.1 h g hg
   show Func.goes P.funcs[g]=false
   simpa using q
 unfold Program.goes
 rw[h,Bool.and_false,Bool.or_false]
 exact List.any_eq_false.2 fun g _=>by rw[k g];exact Bool.false_ne_true
theorem goes_by{P:Program}(h:P.funcs.any Func.goes=false){c:OpenClaim}(e:c.start=.entering):false=c.goesBy P:=by
 unfold OpenClaim.goesBy Program.goesAt Program.goesFrom
 rw[e]
 cases P.funcNamed c.func with
 |none=>rfl
 |some f=>show false=(P.goes f||false);rw[goes_of h f];rfl
theorem goes5:false=Rows.rolloutBackportsUptoRow.goesBy Tryz.pinned.checked.prog:=goes_by goesNone rfl
theorem card5:Rows.RolloutBackportsUptoCardSaid:=
 Claim7.holds_tied_plain_at .later [] _ _ _ _ said5 (fun _ h=>by cases h) (by kernel_rfl) (fun _ h=>by cases h) rolloutBackportsUpto_row_tie rfl ⟨rfl,rfl⟩ (by kernel_rfl) rfl plain5 goes5
end Go.Proofs.YteaiieomnhbmgaaGreatDoor.joins
