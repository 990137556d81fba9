/- The law RolloutSelects of chapter 45 returns true and leaves the memory as it was, for inputs of bounded bulk. -/
import Derived.Test.YteaiieomnhbmgaaGreatDoorAA34
namespace Go.Proofs.YteaiieomnhbmgaaGreatDoor.joins
open Go Go.Eng Go.Proofs Go.ChangeShapes Go.WideShapes Go.ChangeAt Go.RowKit
abbrev args4:Array Value:=#[.agg #[nilV,nilV],nilV,nilV,.agg #[.string ⟨#[]⟩,nilV],.string ⟨#[]⟩,.int .i64 0]
theorem laid_met4(os:Os):laidMet Tryz.prog Rows.rolloutSelectsUptoRow.laid ((laidWorld os).forCall (fun _ _=>0) ⟨#[],args4,[]⟩).memory:=
 laidMet_of_run' 8 (by as_aux_lemma=>kernel_rfl) (by as_aux_lemma=>kernel_rfl)
theorem reads4(os:Os){H:Type}(enc:TypeId×Value->H):∃places,DataW.whole enc Tryz.prog ((laidWorld os).forCall (fun _ _=>0) ⟨#[],args4,[]⟩).memory Tryz.f4.params.toList Rows.rolloutSelectsSpec.vars false args4.toList 8 =
  some ([.agg [.nil,.nil],.nil,.nil,.agg [.lit (.string []),.nil],.lit (.string []),.lit (.int .i64 0)],[],places):=
 ⟨[],by kernel_rfl⟩
set_option maxRecDepth 100000 in
theorem contract4(H:Type)(enc:TypeId×Value->H)(W:World)(base:Nat)(args:Array Value)(ds gs:List (DataW H))(before:List MemPlace)
  (hval:∀(j:Nat) t v,Tryz.f4.params[j]?=some t->args[j]?=some v->Value.okWide Tryz.prog W .any base t v)
  (hW:DataW.Whole enc Tryz.prog Tryz.f4.params.toList Rows.rolloutSelectsSpec.vars false W args.toList ds gs before) (hk:Rows.uptoSmall H (ds++gs)=true) (hM:Start W) :
  Calls Tryz.prog 4 args W fun e W'=>∃v,e=.returned v/\Rows.rolloutSelectsSpec.post enc Tryz.prog Tryz.f4 false true false false W args v W':=by
 have hW':=hW
 obtain⟨p,q,hA0,hV,rfl,hfz,aD⟩:=hW
 have hA:DataW.TrodAll enc Tryz.prog W 0 (fun _=>true) true Tryz.f4.params.toList args.toList ds p:=hA0
 rw[Tryz.params4]at hA hval
 obtain⟨v0,vs0,d0,ds0,p0,q0,LW,rfl,rfl,h0,r0⟩:=trodAll_cons hA
 obtain⟨v1,vs1,d1,ds1,p1,q1,rfl,rfl,rfl,h1,r1⟩:=trodAll_cons r0
 obtain⟨v2,vs2,d2,ds2,p2,q2,rfl,rfl,rfl,h2,r2⟩:=trodAll_cons r1
 obtain⟨v3,vs3,d3,ds3,p3,q3,rfl,rfl,rfl,h3,r3⟩:=trodAll_cons r2
 obtain⟨v4,vs4,d4,ds4,p4,q4,rfl,rfl,rfl,h4,r4⟩:=trodAll_cons r3
 obtain⟨v5,vs5,d5,ds5,p5,q5,rfl,rfl,rfl,h5,r5⟩:=trodAll_cons r4
 obtain⟨rfl,rfl,rfl⟩:=trodAll_nil r5
 have Aaj:args=#[v0,v1,v2,v3,v4,v5]:=arr6 LW
 subst Aaj
 obtain⟨rfl,rfl⟩:=trodVars_none hV
 have hb:Rows.uptoBulkAll ([d0,d1,d2,d3,d4,d5]:List (DataW H))<=1048576:=by
  rw[Bg]at hk
  exact AT hk
 have bd:∀d∈([d0,d1,d2,d3,d4,d5]:List (DataW H)),Rows.uptoBulk d<=NB:=fun d hd=>Av (all_le hd) hb
 obtain⟨c0,rfl⟩:=ok_agg Tryz.underlying33 (hval 0 33 v0 rfl rfl)
 have hv1:=ok_slice Tryz.underlying34 (hval 1 34 v1 rfl rfl)
 have hv2:=ok_slice Tryz.underlying34 (hval 2 34 v2 rfl rfl)
 obtain⟨c3,rfl⟩:=ok_agg Tryz.underlying37 (hval 3 37 v3 rfl rfl)
 have hv4:=ok_string Tryz.underlying9 (hval 4 9 v4 rfl rfl)
 have hv5:=ok_int Tryz.underlying3 (hval 5 3 v5 rfl rfl)
 obtain⟨x0,R0,K0⟩:=bF oIx h0 (bd _ (by simp))
 obtain⟨x1,R1,K1⟩:=PV (e:=fun l:List Sl=>sl Ab l) oSls hv1 h1 (bd _ (by simp))
 obtain⟨x2,R2,K2⟩:=PV (e:=fun l:List Sl=>sl Ab l) oSls hv2 h2 (bd _ (by simp))
 obtain⟨x3,R3,K3⟩:=bF oRo h3 (bd _ (by simp))
 obtain⟨x4,R4,K4⟩:=PV (e:=fun s:ByteArray=>vs s) oS hv4 h4 (bd _ (by simp))
 obtain⟨x5,R5,K5⟩:=PV (e:=fun n:Int=>vi n) oInt hv5 h5 (bd _ (by simp))
 have hc:PC 4 [HZ x0.1 x0.2,sl Ab x1,sl Ab x2,.agg (CR x3),vs x4,vi x5] (vb true):=Ag9 x0.1 x0.2 x1 x2 x3 x4 x5 (lim0_of K0.1) (limr_of K1 K2 K3 K4)
 refine(run_true (vals:=#[.agg c0,v1,v2,.agg c3,v4,v5]) hc hM rfl (fun i av y e1 e2=>?_)).mono fun e W' ⟨he,hs⟩=>⟨_,he,post_true hs rfl (by simpa using hW') rfl (by rw[Tryz.params4];decide +kernel) rfl⟩
 match i with
 |0=>cases e1;cases e2;exact R0
 |1=>cases e1;cases e2;exact R1
 |2=>cases e1;cases e2;exact R2
 |3=>cases e1;cases e2;exact R3
 |4=>cases e1;cases e2;exact R4
 |5=>cases e1;cases e2;exact R5
 |_+6=>simp at e1
set_option maxRecDepth 100000 in
theorem lifted4(os:Os)(started:os.Started)(H:Type)(enc:TypeId×Value->H)(F:Stop.Interp) :
  ReturnsInHanded {} Tryz.checked os 4 .any ((Rows.OpenSpec.upto Rows.rolloutSelectsSpec).preRow enc Tryz.prog Tryz.f4 Rows.rolloutSelectsUptoRow.domain false Rows.rolloutSelectsUptoRow.laid) (((Rows.OpenSpec.upto Rows.rolloutSelectsSpec).at F).post enc Tryz.prog Tryz.f4 false true false false):=by
 obtain⟨places,hx⟩:=reads4 os enc
 refine returnsInHanded_of_row (C:=Tryz.checked) (s:=Rows.OpenSpec.upto Rows.rolloutSelectsSpec) own started (by as_aux_lemma=>kernel_rfl) Tryz.func4
  (witness_row_at (enc:=enc) (C:=Tryz.checked) false (laidWorld os) args4 rfl (by as_aux_lemma=>kernel_rfl) (by as_aux_lemma=>kernel_rfl) (by as_aux_lemma=>kernel_rfl)
   (OpenSpec.preRow_of_cond 8 hx (by as_aux_lemma=>kernel_rfl) (fun k hk=>by cases hk;as_aux_lemma=>kernel_rfl) (by as_aux_lemma=>kernel_rfl) (laid_met4 os))) ?_
 intro W base args ds gs before hval hW nT nE hx1 zE hsh hx3
 exact contract4 H enc W base args ds gs before hval hW (nE _ rfl) (start_of hsh zE)
end Go.Proofs.YteaiieomnhbmgaaGreatDoor.joins
