/- The law RolloutStages of chapter 45 returns true and leaves the memory as it was, for inputs of bounded bulk. -/
import Derived.Test.YteaiieomnhbmgaaGreatDoorAA35
namespace Go.Proofs.YteaiieomnhbmgaaGreatDoor.joins
open Go Go.Eng Go.Proofs Go.ChangeShapes Go.WideShapes Go.ChangeAt Go.RowKit
abbrev args3:Array Value:=#[nilV,.int .i64 0,.string ⟨#[]⟩,.string ⟨#[]⟩]
theorem laid_met3(os:Os):laidMet Tryz.prog Rows.rolloutStagesUptoRow.laid ((laidWorld os).forCall (fun _ _=>0) ⟨#[],args3,[]⟩).memory:=
 laidMet_of_run' 8 (by as_aux_lemma=>kernel_rfl) (by as_aux_lemma=>kernel_rfl)
theorem reads3(os:Os){H:Type}(enc:TypeId×Value->H):∃places,DataW.whole enc Tryz.prog ((laidWorld os).forCall (fun _ _=>0) ⟨#[],args3,[]⟩).memory Tryz.f3.params.toList Rows.rolloutStagesSpec.vars false args3.toList 8 =
  some ([.nil,.lit (.int .i64 0),.lit (.string []),.lit (.string [])],[],places):=
 ⟨[],by kernel_rfl⟩
set_option maxRecDepth 100000 in
theorem contract3(H:Type)(enc:TypeId×Value->H)(W:World)(base:Nat)(args:Array Value)(ds gs:List (DataW H))(before:List MemPlace)
  (hval:∀(j:Nat) t v,Tryz.f3.params[j]?=some t->args[j]?=some v->Value.okWide Tryz.prog W .any base t v)
  (hW:DataW.Whole enc Tryz.prog Tryz.f3.params.toList Rows.rolloutStagesSpec.vars false W args.toList ds gs before) (hk:Rows.uptoSmall H (ds++gs)=true) (hM:Start W) :
  Calls Tryz.prog 3 args W fun e W'=>∃v,e=.returned v/\Rows.rolloutStagesSpec.post enc Tryz.prog Tryz.f3 false true false false W args v W':=by
 have hW':=hW
 obtain⟨p,q,hA0,hV,rfl,hfz,Tu⟩:=hW
 have hA:DataW.TrodAll enc Tryz.prog W 0 (fun _=>true) true Tryz.f3.params.toList args.toList ds p:=hA0
 rw[Tryz.params3]at hA hval
 obtain⟨v0,vs0,d0,ds0,p0,q0,Kj,rfl,rfl,h0,r0⟩:=trodAll_cons hA
 obtain⟨v1,vs1,d1,ds1,p1,q1,rfl,rfl,rfl,h1,r1⟩:=trodAll_cons r0
 obtain⟨v2,vs2,d2,ds2,p2,q2,rfl,rfl,rfl,h2,r2⟩:=trodAll_cons r1
 obtain⟨v3,vs3,d3,ds3,p3,q3,rfl,rfl,rfl,h3,r3⟩:=trodAll_cons r2
 obtain⟨rfl,rfl,rfl⟩:=trodAll_nil r3
 have xL:args=#[v0,v1,v2,v3]:=arr4 Kj
 subst xL
 obtain⟨rfl,rfl⟩:=trodVars_none hV
 have hb:Rows.uptoBulkAll ([d0,d1,d2,d3]:List (DataW H))<=1048576:=by
  rw[BP]at hk
  exact AU hk
 have bd:∀d∈([d0,d1,d2,d3]:List (DataW H)),Rows.uptoBulk d<=NB:=fun d hd=>AI (all_le hd) hb
 have hv0:=ok_slice Tryz.underlying22 (hval 0 22 v0 rfl rfl)
 have hv1:=ok_int Tryz.underlying3 (hval 1 3 v1 rfl rfl)
 have uR:=ok_string Tryz.underlying9 (hval 2 9 v2 rfl rfl)
 have y9:=ok_string Tryz.underlying9 (hval 3 9 v3 rfl rfl)
 obtain⟨x0,R0,K0⟩:=QM (e:=fun l:List Ud=>sl Cr l) oStgs hv0 h0 (bd _ (by simp))
 obtain⟨x1,R1,K1⟩:=QM (e:=fun n:Int=>vi n) oInt hv1 h1 (bd _ (by simp))
 obtain⟨x2,R2,K2⟩:=QM (e:=fun s:ByteArray=>vs s) oS uR h2 (bd _ (by simp))
 obtain⟨x3,R3,K3⟩:=QM (e:=fun s:ByteArray=>vs s) oS y9 h3 (bd _ (by simp))
 have hc:PC 3 [sl Cr x0,vi x1,vs x2,vs x3] (vb true):=Adr x0 x1 x2 x3 (few_of K0)
 refine(run_true (vals:=#[v0,v1,v2,v3]) hc hM rfl (fun i av y e1 e2=>?_)).mono fun e W' ⟨he,hs⟩=>⟨_,he,post_true hs rfl (by simpa using hW') rfl (by rw[Tryz.params3];decide +kernel) rfl⟩
 match i with
 |0=>cases e1;cases e2;exact R0
 |1=>cases e1;cases e2;exact R1
 |2=>cases e1;cases e2;exact R2
 |3=>cases e1;cases e2;exact R3
 |_+4=>simp at e1
set_option maxRecDepth 100000 in
theorem lifted3(os:Os)(started:os.Started)(H:Type)(enc:TypeId×Value->H)(F:Stop.Interp) :
  ReturnsInHanded {} Tryz.checked os 3 .any ((Rows.OpenSpec.upto Rows.rolloutStagesSpec).preRow enc Tryz.prog Tryz.f3 Rows.rolloutStagesUptoRow.domain false Rows.rolloutStagesUptoRow.laid) (((Rows.OpenSpec.upto Rows.rolloutStagesSpec).at F).post enc Tryz.prog Tryz.f3 false true false false):=by
 obtain⟨places,hx⟩:=reads3 os enc
 refine returnsInHanded_of_row (C:=Tryz.checked) (s:=Rows.OpenSpec.upto Rows.rolloutStagesSpec) own started (by as_aux_lemma=>kernel_rfl) Tryz.func3
  (witness_row_at (enc:=enc) (C:=Tryz.checked) false (laidWorld os) args3 rfl (by as_aux_lemma=>kernel_rfl) (by as_aux_lemma=>kernel_rfl) (by as_aux_lemma=>kernel_rfl)
   (OpenSpec.preRow_of_cond 8 hx (by as_aux_lemma=>kernel_rfl) (fun k hk=>by cases hk;as_aux_lemma=>kernel_rfl) (by as_aux_lemma=>kernel_rfl) (laid_met3 os))) ?_
 intro W base args ds gs before hval hW jf mz hx1 sU hsh hx3
 exact contract3 H enc W base args ds gs before hval hW (mz _ rfl) (start_of hsh sU)
end Go.Proofs.YteaiieomnhbmgaaGreatDoor.joins
