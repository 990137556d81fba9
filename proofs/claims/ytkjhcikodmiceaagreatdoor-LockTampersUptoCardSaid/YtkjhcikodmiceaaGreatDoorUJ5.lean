/- The law LockTampers of chapter 39 returns true and leaves the memory as it was, for inputs of bounded bulk. -/
import Derived.Test.YtkjhcikodmiceaaGreatDoorUA29
namespace Go.Proofs.YtkjhcikodmiceaaGreatDoor.joins
open Go Go.Eng Go.Proofs Go.ChangeShapes Go.WideShapes Go.ChangeAt Go.RowKit
abbrev args5:Array Value:=#[.agg #[nilV,nilV],.agg #[nilV,nilV,nilV,nilV],.int .u8 0,.int .u8 0,.agg #[.int .i64 0,.int .i64 0,.int .i64 0],.string ⟨#[]⟩]
theorem laid_met5(os:Os):laidMet Tryz.prog Rows.lockTampersUptoRow.laid ((laidWorld os).forCall (fun _ _=>0) ⟨#[],args5,[]⟩).memory:=
 laidMet_of_run' 8 (by as_aux_lemma=>kernel_rfl) (by as_aux_lemma=>kernel_rfl)
theorem reads5(os:Os){H:Type}(enc:TypeId×Value->H):∃places,DataW.whole enc Tryz.prog ((laidWorld os).forCall (fun _ _=>0) ⟨#[],args5,[]⟩).memory Tryz.f5.params.toList Rows.lockTampersSpec.vars false args5.toList 8 =
  some ([.agg [.nil,.nil],.agg [.nil,.nil,.nil,.nil],.lit (.int .u8 0),.lit (.int .u8 0),.agg [.lit (.int .i64 0),.lit (.int .i64 0),.lit (.int .i64 0)],.lit (.string [])],[],places):=
 ⟨[],by kernel_rfl⟩
set_option maxRecDepth 100000 in
theorem contract5(H:Type)(enc:TypeId×Value->H)(W:World)(base:Nat)(args:Array Value)(ds gs:List (DataW H))(before:List MemPlace)
  (hval:∀(j:Nat) t v,Tryz.f5.params[j]?=some t->args[j]?=some v->Value.okWide Tryz.prog W .any base t v)
  (hW:DataW.Whole enc Tryz.prog Tryz.f5.params.toList Rows.lockTampersSpec.vars false W args.toList ds gs before) (hk:Rows.uptoSmall H (ds++gs)=true) (hM:∃m,W.cell? ⟨0,0,none⟩=some (.int .i64 m)) :
  Calls Tryz.prog 5 args W fun e W'=>∃v,e=.returned v/\Rows.lockTampersSpec.post enc Tryz.prog Tryz.f5 false true false false W args v W':=by
 have vX:=hW
 obtain⟨p,q,vP,hV,rfl,wB,RP⟩:=hW
 have hA:DataW.TrodAll enc Tryz.prog W 0 (fun _=>true) true Tryz.f5.params.toList args.toList ds p:=vP
 rw[Tryz.params5]at hA hval
 obtain⟨v0,vs0,d0,ds0,p0,q0,H6,rfl,rfl,h0,r0⟩:=trodAll_cons hA
 obtain⟨v1,vs1,d1,ds1,p1,q1,rfl,rfl,rfl,h1,r1⟩:=trodAll_cons r0
 obtain⟨v2,vs2,d2,ds2,p2,q2,rfl,rfl,rfl,h2,r2⟩:=trodAll_cons r1
 obtain⟨v3,vs3,d3,ds3,p3,q3,rfl,rfl,rfl,h3,r3⟩:=trodAll_cons r2
 obtain⟨v4,vs4,d4,ds4,p4,q4,rfl,rfl,rfl,h4,r4⟩:=trodAll_cons r3
 obtain⟨v5,vs5,d5,ds5,p5,q5,rfl,rfl,rfl,h5,r5⟩:=trodAll_cons r4
 obtain⟨rfl,rfl,rfl⟩:=trodAll_nil r5
 have fD:args=#[v0,v1,v2,v3,v4,v5]:=arr6 H6
 subst fD
 obtain⟨rfl,rfl⟩:=trodVars_none hV
 have hb:Rows.uptoBulkAll ([d0,d1,d2,d3,d4,d5]:List (DataW H))<=1048576:=by
  rw[Dm]at hk
  exact BD hk
 have bd:∀d∈([d0,d1,d2,d3,d4,d5]:List (DataW H)),Rows.uptoBulk d<=NB:=fun d hd=>AH (all_le hd) hb
 obtain⟨c0,rfl⟩:=ok_agg Tryz.underlying25 (hval 0 25 v0 rfl rfl)
 obtain⟨c1,rfl⟩:=ok_agg Tryz.underlying33 (hval 1 33 v1 rfl rfl)
 have xn:=ok_int Tryz.underlying5 (hval 2 5 v2 rfl rfl)
 have xo:=ok_int Tryz.underlying5 (hval 3 5 v3 rfl rfl)
 obtain⟨c4,rfl⟩:=ok_agg Tryz.underlying43 (hval 4 43 v4 rfl rfl)
 have hv5:=ok_string Tryz.underlying9 (hval 5 9 v5 rfl rfl)
 obtain⟨x0,R0,K0⟩:=Lt oIx h0 (bd _ (by simp))
 obtain⟨x1,R1,K1⟩:=Lt oLk h1 (bd _ (by simp))
 obtain⟨x2,R2,K2⟩:=Ss (e:=fun n:Int=>.v (.int .u8 n)) oU8 xn h2 (bd _ (by simp))
 obtain⟨x3,R3,K3⟩:=Ss (e:=fun n:Int=>.v (.int .u8 n)) oU8 xo h3 (bd _ (by simp))
 obtain⟨x4,R4,K4⟩:=Lt oVer h4 (bd _ (by simp))
 obtain⟨x5,R5,K5⟩:=Ss (e:=fun s:ByteArray=>vs s) oS hv5 h5 (bd _ (by simp))
 have hc:PC 5 [IP x0.1 x0.2,.agg (Dj x1),.v (.int .u8 x2),.v (.int .u8 x3),.agg (Gi x4),vs x5] (vb true):=xx x0.1 x0.2 x1 x2 x3 x4 x5 (lim_of K0.1 K1.1) (limk_of K1) K2 K3
 refine(run_true (vals:=#[.agg c0,.agg c1,v2,v3,.agg c4,v5]) hc hM rfl (fun i av y e1 e2=>?_)).mono fun e W' ⟨he,hs⟩=>⟨_,he,post_true hs rfl (by simpa using vX) rfl (by rw[Tryz.params5];decide +kernel) rfl⟩
 match i with
 |0=>cases e1;cases e2;exact R0
 |1=>cases e1;cases e2;exact R1
 |2=>cases e1;cases e2;exact R2
 |3=>cases e1;cases e2;exact R3
 |4=>cases e1;cases e2;exact R4
 |5=>cases e1;cases e2;exact R5
 |_+6=>simp at e1
set_option maxRecDepth 100000 in
theorem lifted5(os:Os)(started:os.Started)(H:Type)(enc:TypeId×Value->H)(F:Stop.Interp) :
  ReturnsInHanded {} Tryz.checked os 5 .any ((Rows.OpenSpec.upto Rows.lockTampersSpec).preRow enc Tryz.prog Tryz.f5 Rows.lockTampersUptoRow.domain false Rows.lockTampersUptoRow.laid) (((Rows.OpenSpec.upto Rows.lockTampersSpec).at F).post enc Tryz.prog Tryz.f5 false true false false):=by
 obtain⟨places,hx⟩:=reads5 os enc
 refine returnsInHanded_of_row (C:=Tryz.checked) (s:=Rows.OpenSpec.upto Rows.lockTampersSpec) own started (by as_aux_lemma=>kernel_rfl) Tryz.func5
  (witness_row_at (enc:=enc) (C:=Tryz.checked) false (laidWorld os) args5 rfl (by as_aux_lemma=>kernel_rfl) (by as_aux_lemma=>kernel_rfl) (by as_aux_lemma=>kernel_rfl)
   (OpenSpec.preRow_of_cond 8 hx (by as_aux_lemma=>kernel_rfl) (fun k hk=>by cases hk;as_aux_lemma=>kernel_rfl) (by as_aux_lemma=>kernel_rfl) (laid_met5 os))) ?_
 intro W base args ds gs before hval hW d7 WV hx1 pX xh hx3
 exact contract5 H enc W base args ds gs before hval hW (WV _ rfl) (maxLen_cell xh)
end Go.Proofs.YtkjhcikodmiceaaGreatDoor.joins
