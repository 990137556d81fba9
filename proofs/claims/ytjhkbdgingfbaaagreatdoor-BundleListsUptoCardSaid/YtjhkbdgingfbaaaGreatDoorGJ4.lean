/- The law BundleLists of chapter 41 returns true and leaves the memory as it was, for inputs of bounded bulk. -/
import Derived.Test.YtjhkbdgingfbaaaGreatDoorGA24
namespace Go.Proofs.YtjhkbdgingfbaaaGreatDoor.joins
open Go Go.Eng Go.Proofs Go.ChangeShapes Go.WideShapes Go.ChangeAt Go.RowKit
abbrev args4:Array Value:=#[.agg #[nilV,nilV],nilV,nilV]
theorem laid_met4(os:Os):laidMet Tryz.prog Rows.bundleListsUptoRow.laid ((laidWorld os).forCall (fun _ _=>0) ⟨#[],args4,[]⟩).memory:=
 laidMet_of_run' 8 (by as_aux_lemma=>kernel_rfl) (by as_aux_lemma=>kernel_rfl)
theorem reads4(os:Os){H:Type}(enc:TypeId×Value->H):∃places,DataW.whole enc Tryz.prog ((laidWorld os).forCall (fun _ _=>0) ⟨#[],args4,[]⟩).memory Tryz.f4.params.toList Rows.bundleListsSpec.vars false args4.toList 8 =
  some ([.agg [.nil,.nil],.nil,.nil],[],places):=
 ⟨[],by kernel_rfl⟩
set_option maxRecDepth 100000 in
theorem contract4(H:Type)(enc:TypeId×Value->H)(W:World)(base:Nat)(args:Array Value)(ds gs:List (DataW H))(before:List MemPlace)
  (DM:∀(j:Nat) t v,Tryz.f4.params[j]?=some t->args[j]?=some v->Value.okWide Tryz.prog W .any base t v)
  (hW:DataW.Whole enc Tryz.prog Tryz.f4.params.toList Rows.bundleListsSpec.vars false W args.toList ds gs before) (hk:Rows.uptoSmall H (ds++gs)=true) (hM:Start W) :
  Calls Tryz.prog 4 args W fun e W'=>∃v,e=.returned v/\Rows.bundleListsSpec.post enc Tryz.prog Tryz.f4 false true false false W args v W':=by
 have ch:=hW
 obtain⟨p,q,cf,hV,rfl,dR,gf⟩:=hW
 have hA:DataW.TrodAll enc Tryz.prog W 0 (fun _=>true) true Tryz.f4.params.toList args.toList ds p:=cf
 rw[Tryz.params4]at hA DM
 obtain⟨v0,mu,d0,lR,p0,q0,EN,rfl,rfl,h0,r0⟩:=trodAll_cons hA
 obtain⟨v1,pn,d1,ns,p1,q1,rfl,rfl,rfl,h1,r1⟩:=trodAll_cons r0
 obtain⟨v2,qu,d2,py,p2,q2,rfl,rfl,rfl,h2,r2⟩:=trodAll_cons r1
 obtain⟨rfl,rfl,rfl⟩:=trodAll_nil r2
 have KW:args=#[v0,v1,v2]:=arr3 EN
 subst KW
 obtain⟨rfl,rfl⟩:=trodVars_none hV
 have hb:Rows.uptoBulkAll ([d0,d1,d2]:List (DataW H))<=1048576:=by
  rw[BR]at hk
  exact AZ hk
 have bd:∀d∈([d0,d1,d2]:List (DataW H)),Rows.uptoBulk d<=NB:=fun d hd=>AP (all_le hd) hb
 obtain⟨c0,rfl⟩:=ok_agg Tryz.underlying25 (DM 0 25 v0 rfl rfl)
 have gu:=ok_slice Tryz.underlying31 (DM 1 31 v1 rfl rfl)
 have Zi:=ok_slice Tryz.underlying26 (DM 2 26 v2 rfl rfl)
 obtain⟨x0,R0,K0⟩:=Oo oIx h0 (bd _ (by simp))
 obtain⟨x1,R1,K1⟩:=E8 (e:=fun l:List Cp=>sl Aq l) oCps gu h1 (bd _ (by simp))
 obtain⟨x2,R2,K2⟩:=E8 (e:=fun l:List Sl=>sl Ag l) oSls Zi h2 (bd _ (by simp))
 have hc:PC 4 [WG x0.1 x0.2,sl Aq x1,sl Ag x2] (vb true):=oR x0.1 x0.2 x1 x2 (lim0_of K0.1) (few_of K1.1) (few_of K2.1) (few_of K0.2.1) K0.2.2
 refine(run_true (vals:=#[.agg c0,v1,v2]) hc hM rfl (fun i av y e1 e2=>?_)).mono fun e W' ⟨he,hs⟩=>⟨_,he,post_true hs rfl (by simpa using ch) rfl (by rw[Tryz.params4];decide +kernel) rfl⟩
 match i with
 |0=>cases e1;cases e2;exact R0
 |1=>cases e1;cases e2;exact R1
 |2=>cases e1;cases e2;exact R2
 |_+3=>simp at e1
set_option maxRecDepth 100000 in
theorem lifted4(os:Os)(started:os.Started)(H:Type)(enc:TypeId×Value->H)(F:Stop.Interp) :
  ReturnsInHanded {} Tryz.checked os 4 .any ((Rows.OpenSpec.upto Rows.bundleListsSpec).preRow enc Tryz.prog Tryz.f4 Rows.bundleListsUptoRow.domain false Rows.bundleListsUptoRow.laid) (((Rows.OpenSpec.upto Rows.bundleListsSpec).at F).post enc Tryz.prog Tryz.f4 false true false false):=by
 obtain⟨places,hx⟩:=reads4 os enc
 refine returnsInHanded_of_row (C:=Tryz.checked) (s:=Rows.OpenSpec.upto Rows.bundleListsSpec) own started (by as_aux_lemma=>kernel_rfl) Tryz.func4
  (witness_row_at (enc:=enc) (C:=Tryz.checked) false (laidWorld os) args4 rfl (by as_aux_lemma=>kernel_rfl) (by as_aux_lemma=>kernel_rfl) (by as_aux_lemma=>kernel_rfl)
   (OpenSpec.preRow_of_cond 8 hx (by as_aux_lemma=>kernel_rfl) (fun k hk=>by cases hk;as_aux_lemma=>kernel_rfl) (by as_aux_lemma=>kernel_rfl) (laid_met4 os))) ?_
 intro W base args ds gs before DM hW SH I5 dY TO ct kH
 exact contract4 H enc W base args ds gs before DM hW (I5 _ rfl) (start_of ct TO)
end Go.Proofs.YtjhkbdgingfbaaaGreatDoor.joins
