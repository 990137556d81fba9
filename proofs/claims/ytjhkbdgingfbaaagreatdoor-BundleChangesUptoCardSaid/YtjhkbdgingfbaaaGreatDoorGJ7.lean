/- The law BundleChanges of chapter 41 returns true and leaves the memory as it was, for inputs of bounded bulk. -/
import Derived.Test.YtjhkbdgingfbaaaGreatDoorGA25
namespace Go.Proofs.YtjhkbdgingfbaaaGreatDoor.joins
open Go Go.Eng Go.Proofs Go.ChangeShapes Go.WideShapes Go.ChangeAt Go.RowKit
abbrev args7:Array Value:=#[nilV,nilV]
theorem laid_met7(os:Os):laidMet Tryz.prog Rows.bundleChangesUptoRow.laid ((laidWorld os).forCall (fun _ _=>0) ⟨#[],args7,[]⟩).memory:=
 laidMet_of_run' 8 (by as_aux_lemma=>kernel_rfl) (by as_aux_lemma=>kernel_rfl)
theorem reads7(os:Os){H:Type}(enc:TypeId×Value->H):∃places,DataW.whole enc Tryz.prog ((laidWorld os).forCall (fun _ _=>0) ⟨#[],args7,[]⟩).memory Tryz.f7.params.toList Rows.bundleChangesSpec.vars false args7.toList 8 =
  some ([.nil,.nil],[],places):=
 ⟨[],by kernel_rfl⟩
set_option maxRecDepth 100000 in
theorem contract7(H:Type)(enc:TypeId×Value->H)(W:World)(base:Nat)(args:Array Value)(ds gs:List (DataW H))(before:List MemPlace)
  (DM:∀(j:Nat) t v,Tryz.f7.params[j]?=some t->args[j]?=some v->Value.okWide Tryz.prog W .any base t v)
  (hW:DataW.Whole enc Tryz.prog Tryz.f7.params.toList Rows.bundleChangesSpec.vars false W args.toList ds gs before) (hk:Rows.uptoSmall H (ds++gs)=true) (hM:Start W) :
  Calls Tryz.prog 7 args W fun e W'=>∃v,e=.returned v/\Rows.bundleChangesSpec.post enc Tryz.prog Tryz.f7 false true false false W args v W':=by
 have ch:=hW
 obtain⟨p,q,cf,hV,rfl,dR,gf⟩:=hW
 have hA:DataW.TrodAll enc Tryz.prog W 0 (fun _=>true) true Tryz.f7.params.toList args.toList ds p:=cf
 rw[Tryz.params7]at hA DM
 obtain⟨v0,mu,d0,lR,p0,q0,EN,rfl,rfl,h0,r0⟩:=trodAll_cons hA
 obtain⟨v1,pn,d1,ns,p1,q1,rfl,rfl,rfl,h1,r1⟩:=trodAll_cons r0
 obtain⟨rfl,rfl,rfl⟩:=trodAll_nil r1
 have KW:args=#[v0,v1]:=arr2 EN
 subst KW
 obtain⟨rfl,rfl⟩:=trodVars_none hV
 have hb:Rows.uptoBulkAll ([d0,d1]:List (DataW H))<=1048576:=by
  rw[BR]at hk
  exact AZ hk
 have bd:∀d∈([d0,d1]:List (DataW H)),Rows.uptoBulk d<=NB:=fun d hd=>AP (all_le hd) hb
 have WC:=ok_slice Tryz.underlying31 (DM 0 31 v0 rfl rfl)
 have gu:=ok_slice Tryz.underlying26 (DM 1 26 v1 rfl rfl)
 obtain⟨x0,R0,K0⟩:=E8 (e:=fun l:List Cp=>sl Aq l) oCps WC h0 (bd _ (by simp))
 obtain⟨x1,R1,K1⟩:=E8 (e:=fun l:List Sl=>sl Ag l) oSls gu h1 (bd _ (by simp))
 have hc:PC 7 [sl Aq x0,sl Ag x1] (vb true):=oV x0 x1 (few_of K0.1) (few_of K1.1) (fun y hy=>few_of (K1.2 y hy))
 refine(run_true (vals:=#[v0,v1]) hc hM rfl (fun i av y e1 e2=>?_)).mono fun e W' ⟨he,hs⟩=>⟨_,he,post_true hs rfl (by simpa using ch) rfl (by rw[Tryz.params7];decide +kernel) rfl⟩
 match i with
 |0=>cases e1;cases e2;exact R0
 |1=>cases e1;cases e2;exact R1
 |_+2=>simp at e1
set_option maxRecDepth 100000 in
theorem lifted7(os:Os)(started:os.Started)(H:Type)(enc:TypeId×Value->H)(F:Stop.Interp) :
  ReturnsInHanded {} Tryz.checked os 7 .any ((Rows.OpenSpec.upto Rows.bundleChangesSpec).preRow enc Tryz.prog Tryz.f7 Rows.bundleChangesUptoRow.domain false Rows.bundleChangesUptoRow.laid) (((Rows.OpenSpec.upto Rows.bundleChangesSpec).at F).post enc Tryz.prog Tryz.f7 false true false false):=by
 obtain⟨places,hx⟩:=reads7 os enc
 refine returnsInHanded_of_row (C:=Tryz.checked) (s:=Rows.OpenSpec.upto Rows.bundleChangesSpec) own started (by as_aux_lemma=>kernel_rfl) Tryz.func7
  (witness_row_at (enc:=enc) (C:=Tryz.checked) false (laidWorld os) args7 rfl (by as_aux_lemma=>kernel_rfl) (by as_aux_lemma=>kernel_rfl) (by as_aux_lemma=>kernel_rfl)
   (OpenSpec.preRow_of_cond 8 hx (by as_aux_lemma=>kernel_rfl) (fun k hk=>by cases hk;as_aux_lemma=>kernel_rfl) (by as_aux_lemma=>kernel_rfl) (laid_met7 os))) ?_
 intro W base args ds gs before DM hW SH I5 dY TO ct kH
 exact contract7 H enc W base args ds gs before DM hW (I5 _ rfl) (start_of ct TO)
end Go.Proofs.YtjhkbdgingfbaaaGreatDoor.joins
