/- The law YankKeeps of chapter 43 returns true and leaves the memory as it was, for inputs of bounded bulk. -/
import Derived.Test.YtddfphmpfnmknaaGreatDoorFA31
namespace Go.Proofs.YtddfphmpfnmknaaGreatDoor.joins
open Go Go.Eng Go.Proofs Go.ChangeShapes Go.WideShapes Go.ChangeAt Go.RowKit
abbrev args8:Array Value:=#[.agg #[nilV,nilV],nilV,.int .u16 0]
theorem oU16{H:Type}{enc:TypeId×Value→H}{w:World}:Op enc w 62 (fun n:Int=>[.v (.int .u16 n)]) (fun n=>0≤n∧n≤65535):=(Vg Tryz.underlying62).to id (fun _ h=>⟨rfl,h⟩)
theorem laid_met8(os:Os):laidMet Tryz.prog Rows.yankKeepsUptoRow.laid ((laidWorld os).forCall (fun _ _=>0) ⟨#[],args8,[]⟩).memory :=
 laidMet_of_run' 8 (by as_aux_lemma=>kernel_rfl) (by as_aux_lemma=>kernel_rfl)
theorem reads8(os:Os){H:Type}(enc:TypeId×Value→H):∃places,DataW.whole enc Tryz.prog ((laidWorld os).forCall (fun _ _=>0) ⟨#[],args8,[]⟩).memory Tryz.f8.params.toList Rows.yankKeepsSpec.vars false args8.toList 8 =
  some ([.agg [.nil,.nil],.nil,.lit (.int .u16 0)],[],places) :=
 ⟨[],by kernel_rfl⟩
set_option maxRecDepth 100000 in
theorem contract8(H:Type)(enc:TypeId×Value→H)(W:World)(base:Nat)(args:Array Value)(ds gs:List (DataW H))(before:List MemPlace)
  (hval:∀(j:Nat) t v,Tryz.f8.params[j]?=some t→args[j]?=some v→Value.okWide Tryz.prog W .any base t v)
  (hW:DataW.Whole enc Tryz.prog Tryz.f8.params.toList Rows.yankKeepsSpec.vars false W args.toList ds gs before) (hk:Rows.uptoSmall H (ds++gs)=true) (hM:∃m,W.cell? ⟨0,0,none⟩=some (.int .i64 m)) :
  Calls Tryz.prog 8 args W fun e W'=>∃v,e=.returned v∧Rows.yankKeepsSpec.post enc Tryz.prog Tryz.f8 false true false false W args v W':=by
 have zM:=hW
 obtain⟨p,q,zt,hV,rfl,hfz,Rh⟩:=hW
 have hA:DataW.TrodAll enc Tryz.prog W 0 (fun _=>true) true Tryz.f8.params.toList args.toList ds p:=zt
 rw[Tryz.params8]at hA hval
 obtain⟨v0,vs0,d0,ds0,p0,q0,Ji,rfl,rfl,h0,r0⟩:=trodAll_cons hA
 obtain⟨v1,vs1,d1,ds1,p1,q1,rfl,rfl,rfl,h1,r1⟩:=trodAll_cons r0
 obtain⟨v2,vs2,d2,ds2,p2,q2,rfl,rfl,rfl,h2,r2⟩:=trodAll_cons r1
 obtain⟨rfl,rfl,rfl⟩:=trodAll_nil r2
 have pZ:args=#[v0,v1,v2]:=arr3 Ji
 subst pZ
 obtain⟨rfl,rfl⟩:=trodVars_none hV
 have hb:Rows.uptoBulkAll ([d0,d1,d2]:List (DataW H))≤1048576:=by
  rw[BP]at hk
  exact A2 hk
 have bd:∀d∈([d0,d1,d2]:List (DataW H)),Rows.uptoBulk d≤NB:=fun d hd=>Br (all_le hd) hb
 obtain⟨c0,rfl⟩:=ok_agg Tryz.underlying25 (hval 0 25 v0 rfl rfl)
 have hv1:=ok_slice Tryz.underlying39 (hval 1 39 v1 rfl rfl)
 have nU:=ok_int Tryz.underlying62 (hval 2 62 v2 rfl rfl)
 obtain⟨x0,R0,K0⟩:=gY oIx h0 (bd _ (by simp))
 obtain⟨x1,R1,K1⟩:=Yg (e:=fun l:List Rq=>sl AK l) oRqs hv1 h1 (bd _ (by simp))
 obtain⟨x2,R2,K2⟩:=Yg (e:=fun n:Int=>.v (.int .u16 n)) oU16 nU h2 (bd _ (by simp))
 have hc:PC 8 [F5 x0.1 x0.2,sl AK x1,.v (.int .u16 x2)] (vb true):=vW x0.1 x0.2 x1 x2 (lim_of K0.1 K1) (lim43_of K0)
 refine(run_true (vals:=#[.agg c0,v1,v2]) hc hM rfl (fun i av y e1 e2=>?_)).mono fun e W' ⟨he,hs⟩=>⟨_,he,post_true hs rfl (by simpa using zM) rfl (by rw[Tryz.params8];decide +kernel) rfl⟩
 match i with
 |0=>cases e1;cases e2;exact R0
 |1=>cases e1;cases e2;exact R1
 |2=>cases e1;cases e2;exact R2
 |_+3=>simp at e1
set_option maxRecDepth 100000 in
theorem lifted8(os:Os)(started:os.Started)(H:Type)(enc:TypeId×Value→H)(F:Stop.Interp) :
  ReturnsInHanded {} Tryz.checked os 8 .any ((Rows.OpenSpec.upto Rows.yankKeepsSpec).preRow enc Tryz.prog Tryz.f8 Rows.yankKeepsUptoRow.domain false Rows.yankKeepsUptoRow.laid) (((Rows.OpenSpec.upto Rows.yankKeepsSpec).at F).post enc Tryz.prog Tryz.f8 false true false false):=by
 obtain⟨places,hx⟩:=reads8 os enc
 refine returnsInHanded_of_row (C:=Tryz.checked) (s:=Rows.OpenSpec.upto Rows.yankKeepsSpec) own started (by as_aux_lemma=>kernel_rfl) Tryz.func8
  (witness_row_at (enc:=enc) (C:=Tryz.checked) false (laidWorld os) args8 rfl (by as_aux_lemma=>kernel_rfl) (by as_aux_lemma=>kernel_rfl) (by as_aux_lemma=>kernel_rfl)
   (OpenSpec.preRow_of_cond 8 hx (by as_aux_lemma=>kernel_rfl) (fun k hk=>by cases hk;as_aux_lemma=>kernel_rfl) (by as_aux_lemma=>kernel_rfl) (laid_met8 os))) ?_
 intro W base args ds gs before hval hW _ fM _ _ hsh _
 exact contract8 H enc W base args ds gs before hval hW (fM _ rfl) (maxLen_cell hsh)
theorem and_mk{a b:Bool}(h:a=true)(k:b=true):(a&&b)=true:=by rw[h,k];rfl
set_option maxHeartbeats 4000000 in
theorem closed:joinedFacts Tryz.pinned.checked.prog 8 Tryz.f8 (Rows.OpenSpec.upto Rows.yankKeepsSpec).bare Rows.yankKeepsUptoRow=true:=by
 unfold joinedFacts
 repeat' with_reducible refine and_mk ?_ ?_
 all_goals (as_aux_lemma=>kernel_rfl)
theorem said8:Rows.YankKeepsUptoSaid :=
 OpenClaim.holds_of_cond 8 Tryz.f8 rfl rfl rfl rfl rfl rfl rfl ⟨rfl,rfl,rfl,rfl,rfl⟩ rfl rfl rfl rfl rfl (by as_aux_lemma=>kernel_rfl) Tryz.func8 closed
  (A2 (by as_aux_lemma=>kernel_rfl)) (by unfold Func.isWrapper;first | (rw[Ao (by decide +kernel)];kernel_rfl) | (rw[Ah (by decide +kernel)];exact⟨rfl,rfl⟩))
  (fun os started H enc _ F=>by rw[OpenClaim.pre_eq_preRow];exact lifted8 os started H enc F)
theorem plain8 (f : FuncId) (fn : Func) (hf : Tryz.pinned.checked.prog.funcNamed "modcert/modcertlaw43.YankKeeps" = some f) (qC : Tryz.pinned.checked.prog.funcs[f]? = some fn) :
  false=Tryz.pinned.checked.prog.looks []∧∀(j:Nat) t,fn.params[j]?=some t→Tryz.pinned.checked.prog.wantsStandIn t=false:=by
 obtain rfl : f = 8 := Ct ((show Tryz.prog.funcNamed "modcert/modcertlaw43.YankKeeps" = some 8 by kernel_rfl).symm.trans hf) |>.symm
 obtain rfl:fn=Tryz.f8:=(Ct (Tryz.func8.symm.trans qC)).symm
 refine⟨looksOff,fun j t ht=>noStand t ?_⟩
 rw[Tryz.params8]at ht
 have hm:t∈#[25,39,62]:=Array.mem_of_getElem? ht
 exact(show ∀t∈([25,39,62]:List Nat),t∈([25,29,39,45,62]:List Nat) by decide) t (by simpa using hm)
theorem card8:Rows.YankKeepsUptoCardSaid :=
 Claim7.holds_tied_plain_at .later [] _ _ _ _ said8 (fun _ h=>by cases h) (by kernel_rfl) (fun _ h=>by cases h) yankKeepsUpto_row_tie rfl ⟨rfl,rfl⟩ (by kernel_rfl) rfl plain8 (by kernel_rfl)
end Go.Proofs.YtddfphmpfnmknaaGreatDoor.joins
