/- The law BundleDetects of chapter 41 returns true and leaves the memory as it was, for inputs of bounded bulk. -/
import Derived.Test.YtjhkbdgingfbaaaGreatDoorGA22
namespace Go.Proofs.YtjhkbdgingfbaaaGreatDoor.joins
open Go Go.Eng Go.Proofs Go.ChangeShapes Go.WideShapes Go.ChangeAt Go.RowKit
abbrev args6:Array Value:=#[nilV,.int .u8 0,.string ⟨#[]⟩,.agg #[.int .i64 0,.int .i64 0,.int .i64 0]]
theorem laid_met6(os:Os):laidMet Tryz.prog Rows.bundleDetectsUptoRow.laid ((laidWorld os).forCall (fun _ _=>0) ⟨#[],args6,[]⟩).memory:=
 laidMet_of_run' 8 (by as_aux_lemma=>kernel_rfl) (by as_aux_lemma=>kernel_rfl)
theorem reads6(os:Os){H:Type}(enc:TypeId×Value->H):∃places,DataW.whole enc Tryz.prog ((laidWorld os).forCall (fun _ _=>0) ⟨#[],args6,[]⟩).memory Tryz.f6.params.toList Rows.bundleDetectsSpec.vars false args6.toList 8 =
  some ([.nil,.lit (.int .u8 0),.lit (.string []),.agg [.lit (.int .i64 0),.lit (.int .i64 0),.lit (.int .i64 0)]],[],places):=
 ⟨[],by kernel_rfl⟩
set_option maxRecDepth 100000 in
theorem contract6(H:Type)(enc:TypeId×Value->H)(W:World)(base:Nat)(args:Array Value)(ds gs:List (DataW H))(before:List MemPlace)
  (DM:∀(j:Nat) t v,Tryz.f6.params[j]?=some t->args[j]?=some v->Value.okWide Tryz.prog W .any base t v)
  (hW:DataW.Whole enc Tryz.prog Tryz.f6.params.toList Rows.bundleDetectsSpec.vars false W args.toList ds gs before) (hk:Rows.uptoSmall H (ds++gs)=true) (hM:Start W) :
  Calls Tryz.prog 6 args W fun e W'=>∃v,e=.returned v/\Rows.bundleDetectsSpec.post enc Tryz.prog Tryz.f6 false true false false W args v W':=by
 have ch:=hW
 obtain⟨p,q,cf,hV,rfl,dR,gf⟩:=hW
 have hA:DataW.TrodAll enc Tryz.prog W 0 (fun _=>true) true Tryz.f6.params.toList args.toList ds p:=cf
 rw[Tryz.params6]at hA DM
 obtain⟨v0,mu,d0,lR,p0,q0,EN,rfl,rfl,h0,r0⟩:=trodAll_cons hA
 obtain⟨v1,pn,d1,ns,p1,q1,rfl,rfl,rfl,h1,r1⟩:=trodAll_cons r0
 obtain⟨v2,qu,d2,py,p2,q2,rfl,rfl,rfl,h2,r2⟩:=trodAll_cons r1
 obtain⟨v3,sQ,d3,ss,p3,q3,rfl,rfl,rfl,h3,r3⟩:=trodAll_cons r2
 obtain⟨rfl,rfl,rfl⟩:=trodAll_nil r3
 have KW:args=#[v0,v1,v2,v3]:=arr4 EN
 subst KW
 obtain⟨rfl,rfl⟩:=trodVars_none hV
 have hb:Rows.uptoBulkAll ([d0,d1,d2,d3]:List (DataW H))<=1048576:=by
  rw[BR]at hk
  exact AZ hk
 have bd:∀d∈([d0,d1,d2,d3]:List (DataW H)),Rows.uptoBulk d<=NB:=fun d hd=>AP (all_le hd) hb
 have WC:=ok_slice Tryz.underlying31 (DM 0 31 v0 rfl rfl)
 have gu:=ok_int Tryz.underlying5 (DM 1 5 v1 rfl rfl)
 have Zi:=ok_string Tryz.underlying9 (DM 2 9 v2 rfl rfl)
 obtain⟨c3,rfl⟩:=ok_agg Tryz.underlying47 (DM 3 47 v3 rfl rfl)
 obtain⟨x0,R0,K0⟩:=E8 (e:=fun l:List Cp=>sl Aq l) oCps WC h0 (bd _ (by simp))
 obtain⟨x1,R1,K1⟩:=E8 (e:=fun n:Int=>.v (.int .u8 n)) oU8 gu h1 (bd _ (by simp))
 obtain⟨x2,R2,K2⟩:=E8 (e:=fun s:ByteArray=>vs s) oS Zi h2 (bd _ (by simp))
 obtain⟨x3,R3,K3⟩:=Oo oVer h3 (bd _ (by simp))
 have hc:PC 6 [sl Aq x0,.v (.int .u8 x1),vs x2,.agg (Dy x3)] (vb true):=oU x0 x1 x2 x3 (few_of K0.1) K1
 refine(run_true (vals:=#[v0,v1,v2,.agg c3]) hc hM rfl (fun i av y e1 e2=>?_)).mono fun e W' ⟨he,hs⟩=>⟨_,he,post_true hs rfl (by simpa using ch) rfl (by rw[Tryz.params6];decide +kernel) rfl⟩
 match i with
 |0=>cases e1;cases e2;exact R0
 |1=>cases e1;cases e2;exact R1
 |2=>cases e1;cases e2;exact R2
 |3=>cases e1;cases e2;exact R3
 |_+4=>simp at e1
set_option maxRecDepth 100000 in
theorem lifted6(os:Os)(started:os.Started)(H:Type)(enc:TypeId×Value->H)(F:Stop.Interp) :
  ReturnsInHanded {} Tryz.checked os 6 .any ((Rows.OpenSpec.upto Rows.bundleDetectsSpec).preRow enc Tryz.prog Tryz.f6 Rows.bundleDetectsUptoRow.domain false Rows.bundleDetectsUptoRow.laid) (((Rows.OpenSpec.upto Rows.bundleDetectsSpec).at F).post enc Tryz.prog Tryz.f6 false true false false):=by
 obtain⟨places,hx⟩:=reads6 os enc
 refine returnsInHanded_of_row (C:=Tryz.checked) (s:=Rows.OpenSpec.upto Rows.bundleDetectsSpec) own started (by as_aux_lemma=>kernel_rfl) Tryz.func6
  (witness_row_at (enc:=enc) (C:=Tryz.checked) false (laidWorld os) args6 rfl (by as_aux_lemma=>kernel_rfl) (by as_aux_lemma=>kernel_rfl) (by as_aux_lemma=>kernel_rfl)
   (OpenSpec.preRow_of_cond 8 hx (by as_aux_lemma=>kernel_rfl) (fun k hk=>by cases hk;as_aux_lemma=>kernel_rfl) (by as_aux_lemma=>kernel_rfl) (laid_met6 os))) ?_
 intro W base args ds gs before DM hW SH I5 dY TO ct kH
 exact contract6 H enc W base args ds gs before DM hW (I5 _ rfl) (start_of ct TO)
end Go.Proofs.YtjhkbdgingfbaaaGreatDoor.joins
