/- Lemmas for the claims of this seat, without a condition: part 28 (S25, LayDel, S26, S27, S28, LayGrow). -/
import Derived.Test.YtkmnnpmneamgoaaGreatDoorA27
import Derived.Shelf.SlicesE.DeleteFunc
import Derived.Shelf.SlGeneric
import Derived.Ground.SlgfProg
import Derived.Shelf.Spec.SlicesGrow
import Derived.Ground.Names8Prog
namespace Go.Eng
open Go.Proofs
theorem rfk_mk {cx2:Cx} {P:Program} {N:Nat} {fn:Func} {res:AV} {b rest:Code} {st:St} (σF σ:Ren) (H0 Hn:List (Nat × HO)) (gf:Nat) (caps:List AV) {bid s:Nat} {ps:Array Tmp} {asg body:Code}
  (hb:b=.block bid (.rangeFunc (.tmp s) ps asg body)) (k1:(renOk σF&&newFree st.h 0 0&&newApart σF 0 0)=true) (k2:renH σF st.h=heapOf H0 hfree) (k3:(renInj σ&&extOk σ H0)=true) (k4:extOk σ Hn=true)
  (k5:ren (rfwd σF) st.h (st.t s)=.clo gf caps)
  (k6:∀ (l D:Nat) (f' : FuncId) (tm:Array Value),tm.size=N→ICall P (fun g w=>w.heap[l]?=some (.loop (recL f' tm ps asg body D .ready))∧∀ i,Rep g w (used (heapOf H0 hfree)) (ren (rfwd σF) st.h (st.t i)) (tm.getD i undef)) σ gf
   (.v (.func (.yield l) #[] #[]) :: caps) (heapOf H0 hfree) fun _ h'=>h'=heapOf Hn hfree)
  (k7:codeOk N rest=true) (k8:awp cx2 rest (endK cx2 fn.results.toList fun r=>Sub r res) ⟨fun i=>ren (rfwd σF) st.h (st.t i),heapOf Hn hfree⟩):RfK cx2 P N fn res b rest st :=
 ⟨σF,σ,H0,Hn,bid,s,ps,asg,body,gf,caps,hb,k1,k2,k3,k4,k5,k6,k7,k8⟩
abbrev ID8:Ren:=[(1000,1000),(1001,1001),(1002,1002),(1003,1003),(1004,1004),(1005,1005),(1007,1007),(1008,1008)]
abbrev IDV:Ren:=[(1000,1000),(1001,1001),(1002,1002),(1003,1003),(1004,1004),(1005,1005),(3,1006),(1007,1007),(1008,1008)]
abbrev uH (roots:List Rq) (C A:List (Value × AV)) (out:List (List Sl)):List (Nat × HO) :=
 [(1000,.cells (srC roots C A ss0 [] 0)),(1001,.tok 6 0),(1002,.tok 1 0),(1003,.map shN []),(1004,.arr 1 []),(1005,.cells [.ref 1000 0]),(1007,.cells [.slice (.id 1008 1) (out.map encLs)]),(1008,.tok 1 out.length)]
noncomputable abbrev cxw (pl:Pol) (l:Nat) (Y:Gh→World→Prop):Cx:=⟨Tryz.prog,tab,pl,true,0,fun l' σ' g w=>l'=l→σ'=IDV→Y g w⟩
theorem uH_in {roots:List Rq} {C A:List (Value × AV)} {o:List (List Sl)} {i:Nat} (h:used (heapOf (uH roots C A o) hfree) i):i=1000∨i=1001∨i=1002∨i=1003∨i=1004∨i=1005∨i=1007∨i=1008:=by
 unfold used at h
 by_cases e0:i=1000
 ·exact .inl e0
 by_cases e1:i=1001
 ·exact .inr (.inl e1)
 by_cases e2:i=1002
 ·exact .inr (.inr (.inl e2))
 by_cases e3:i=1003
 ·exact .inr (.inr (.inr (.inl e3)))
 by_cases e4:i=1004
 ·exact .inr (.inr (.inr (.inr (.inl e4))))
 by_cases e5:i=1005
 ·exact .inr (.inr (.inr (.inr (.inr (.inl e5)))))
 by_cases e6:i=1007
 ·exact .inr (.inr (.inr (.inr (.inr (.inr (.inl e6))))))
 by_cases e7:i=1008
 ·exact .inr (.inr (.inr (.inr (.inr (.inr (.inr e7))))))
 exfalso; apply h
 simp only [heapOf,beq_ne e0,beq_ne e1,beq_ne e2,beq_ne e3,beq_ne e4,beq_ne e5,beq_ne e6,beq_ne e7,cond_false]; rfl
theorem uH_vH {roots:List Rq} {C A:List (Value × AV)} {o o' : List (List Sl)} {yl:Nat} {dec:List Cd} : ∀ i,used (heapOf (uH roots C A o) hfree) i→used (heapOf (vH roots C A yl dec o') hfree) i:=fun i h=>by
 rcases uH_in h with rfl | rfl | rfl | rfl | rfl | rfl | rfl | rfl <;> (intro q; cases q)
theorem uH_tr {roots:List Rq} {C A:List (Value × AV)} {o:List (List Sl)} : ∀ i,used (heapOf (uH roots C A o) hfree) i→rbwd IDV i=rbwd ID8 i:=fun i h=>by
 rcases uH_in h with rfl | rfl | rfl | rfl | rfl | rfl | rfl | rfl <;> rfl
theorem s30 (roots:List Rq) (C A:List (Value × AV)) (s:SS) (dec:List Cd) (st:List (List Sk)):ACall Tryz.prog 30 [.ref 1000 0] (heapOf (srH roots C A s dec st) hfree) fun r h'=>r=.clo 62 [.ref 2000 0]∧h'=heapOf (srH roots C A s dec st++[(2000,.cells [.ref 1000 0])]) hfree:=by
 refine acall_sub (cxe ⟨[],[],[],[],[],[],[],[],[],[],[]⟩) [(1000,1000),(1001,1001),(1002,1002),(1003,1003),(1004,1004),(1,2000)] rfl tab_ok hm rfl Tryz.func30 (by kernel_rfl) rfl (Nz rfl) (by kernel_rfl) rfl ?_;exact Xi _ (Yi (.refl _) Zr)
set_option maxHeartbeats 4000000 in
theorem s62 {x:List Rl} {roots:List Rq} {C A:List (Value × AV)} {Y0 Y:Gh→World→Prop} {yl M:Nat} (hE:Env x roots C A) (hst:∀ dec out,StY (vH roots C A yl dec out) Y)
  (hy:∀ dec out,dec.length≤256→out.length<M→YCall Tryz.prog Y yl [sl encSl (sortP (keysC dec))] (heapOf (vH roots C A yl dec out) hfree) fun r h'=>r=vb true∧h'=heapOf (vH roots C A yl dec (out++[sortP (keysC dec)])) hfree)
  (tr:∀ g w,Y0 (ghFwd ID8 g) w→Y (ghFwd IDV g) w) (hM:(leaves x roots (x.length+1) []).length≤M) :
  ICall Tryz.prog Y0 ID8 62 [.v (.func (.yield yl) #[] #[]),.ref 1005 0] (heapOf (uH roots C A []) hfree) fun _ h'=>h'=heapOf (uH roots C A (lfS (leaves x roots (x.length+1) []))) hfree:=by
 have hrc:=s63 hE hst hy (x.length+1) (dec:=[]) (out:=[]) (.nil x) (Nat.lt_succ_of_le (List.length_filter_le _ _)) (by simpa using hM);refine icall_of2 (l:=yl) (cxw ⟨[2],[],[],[],[],[],[],[],[],[],[]⟩ yl Y) ID8 IDV rfl tab_ok hm rfl Tryz.func62 (by kernel_rfl) rfl (Nz rfl) (by kernel_rfl) rfl rfl tr ?_;refine Yi ?_ ?_
 ·exact Nz rfl
 refine Xi (.geny IDV 0) (Yi rfl (ACallY.imp (ACallY.pre hrc (fun g w q=>q yl rfl rfl)) ?_));intro v g q;have q1:=q.1;have q2:=q.2;subst q1;subst q2
 rfl
theorem vH_eq {roots:List Rq} {C A:List (Value × AV)} {yl:Nat} {dec:List Cd} {o:List (List Sl)} {es:List (List AV)} {k:Nat} (h1:es=o.map encLs) (h2:k=o.length) :
  heapOf [(1000,.cells (srC roots C A ss0 dec 0)),(1001,.tok 6 0),(1002,.tok 1 0),(1003,.map shN []),(1004,.arr 1 []),(1005,.cells [.ref 1000 0]),(1006,.cells [.clo 63 (caps63 yl)]),(1007,.cells [.slice (.id 1008 1) es]),(1008,.tok 1 k)] hfree=heapOf (vH roots C A yl dec o) hfree:=by
 subst h1; subst h2; rfl
set_option maxHeartbeats 4000000 in
theorem s10_ok (x:List Rl) (ifs:List (List AV)) (roots:List Rq) (most:Int) (hx:∀ r ∈ x,FewR r) (hr:∀ q ∈ roots,FewQ q) (hv:validS x roots=true) (hm0:0≤most) (hm1:most≤1024) (hL:(leaves x roots (x.length+1) []).length≤most.toNat) :
  PC 10 [ixV x ifs,sl encRq roots,vi most] (.tup [sl encLs (lfS (leaves x roots (x.length+1) [])),vi 0]):=by
 obtain ⟨v0,v1⟩:=valid_of hv;have hc28:=s28 x ifs roots hx hr;rw [hv] at hc28;refine pcall_rf (cxp ⟨[3,5],[],[],[],[],[],[],[(22,(8,0,60,1))],[],[],[1,2,3,8]⟩) (cxe pl0) rfl tab_ok rfl tab_ok hm rfl rfl Tryz.func10 (by kernel_rfl) rfl (Nz rfl) (by kernel_rfl) 3 (fun _ _=>Zr) ?_;refine Xi ⟨[(1,sl encRq roots),(3,.ref 3 0),(5,.ref 5 0)],[(3,.ro (Ic x ifs)),(5,.ro [vi (most:Int)])],hfree⟩ (Yi ⟨Z3,Z2,Fh,Tv⟩ ?_)
 refine Yi (Nz rfl) ?_;refine Xi .pure (Xi _ (Yi hc28 ?_));refine Yi (fun h1=>?_) (fun h1=>?_)
 ·have h1:((most:Int):Int)<(0:Int):=h1;exact absurd h1 (by omega)
 have h1:¬ (((most:Int):Int)<(0:Int)):=h1;refine Yi (fun h2=>?_) (fun h2=>?_)
 ·have h2:(1024:Int)<((most:Int):Int):=h2;exact absurd h2 (by omega)
 have h2:¬ ((1024:Int)<((most:Int):Int)):=h2;refine Xi ⟨[(1,sl encRq roots),(3,.ref 3 0),(5,.ref 5 0)],[(3,.ro (Ic x ifs)),(5,.ro [vi (most:Int)])],hfree⟩ (Yi ⟨Z3,Z2,Fh,Tv⟩ ?_)
 refine Yi (Nz rfl) ?_;refine Xi (.gen [] 5) (Yi rfl ((s29 x ifs roots hx v0).imp ?_));intro v g q;refine Exists.elim q (fun L q=>?_);have q1:=q.2.1;have q2:=q.2.2;have qp:=q.1;subst q1;subst q2;have hE:=env_of hx hr v0 v1 qp;refine Xi (.gen [(12400,1000),(12401,1001),(12402,1002),(12403,1003),(12404,1004)] 1) (Yi rfl (ACall.imp (s30 roots (mC x) (L.map (kA x)) ss0 [] []) ?_));intro v2 g2 q3;have q3a:=q3.1;have q3b:=q3.2;subst q3a;subst q3b;refine rfk_mk [(12400,1000),(12401,1001),(12402,1002),(12403,1003),(12404,1004),(12500,1005),(8,1007),(60,1008)] ID8 (uH roots (mC x) (L.map (kA x)) []) (uH roots (mC x) (L.map (kA x)) (lfS (leaves x roots (x.length+1) []))) 62 [.ref 1005 0] rfl (by kernel_rfl) (by kernel_rfl) (by kernel_rfl) (by kernel_rfl) (by kernel_rfl) (fun l9 D9 f9 tm9 htm=>s62 (M:=most.toNat) hE (fun dec out=>recY_st (σ:=ID9) (by kernel_rfl) uH_vH) (fun dec out hdl hlt=>ycall_of (σ:=ID9) (cxe pl0) rfl tab_ok hm rfl (by kernel_rfl) (by rfl) htm (by kernel_rfl) (by kernel_rfl) (by kernel_rfl) uH_vH ?_) (recY_tr uH_tr) hL) (by kernel_rfl) ?_
 ·refine Yi (fun h9=>?_) (fun h9=>?_)
  ·have h9:((out.map encLs).length:Int)=most:=h9;exact absurd h9 (by rw [Lm]; omega)
  have b9:AllLen 1 [encLs (sortP (keysC dec))]∧(out.map encLs).length=out.length∧((out.map encLs).length+([encLs (sortP (keysC dec))]:List (List AV)).length)*24≤140737488355328∧(out.map encLs).length+([encLs (sortP (keysC dec))]:List (List AV)).length≤9223372036854775807 :=
   ⟨⟨rfl,trivial⟩,Lm ..,by rw [Lm,List.length_singleton]; omega,by rw [Lm,List.length_singleton]; omega⟩
  refine Yi b9 ?_;refine Yi ?_ ?_
  ·exact Nz rfl
  have e9:(out++[sortP (keysC dec)]).map encLs=out.map encLs++[encLs (sortP (keysC dec))]:=by rw [List.map_append]; rfl
  have e8:(out++[sortP (keysC dec)]).length=(out.map encLs).length+1:=by rw [List.length_append,Lm]; rfl
  exact Yi rfl (vH_eq e9.symm e8.symm)
 exact .refl _
end Go.Eng

namespace Go.Proofs
open Go.Shelf
def Tryz.layDel_ren:Go.Shelf.Ren:=⟨fun | 10=>34 | 6=>78 | n=>n,fun | 22=>35 | 23=>3 | 25=>79 | 3=>3 | 4=>4 | 0=>0 | n=>n,fun | n=>n⟩
theorem Tryz.layDel:Go.Proofs.SlLaysH.n10 Tryz.prog Tryz.layDel_ren:={
 mixed:=by kernel_rfl
 f6:=⟨Tryz.f78.name,by decide,Tryz.func78.trans (congrArg some (by kernel_rfl))⟩
 f10:=⟨Tryz.f34.name,by decide,Tryz.func34.trans (congrArg some (by kernel_rfl))⟩
 t0:=Tryz.underlying0
 a0:=Tryz.isAgg0
 z0:=Tryz.sizeOf0
 v0:=Tryz.zeroValue0
 t3:=Tryz.underlying3
 a3:=Tryz.isAgg3
 z3:=Tryz.sizeOf3
 v3:=Tryz.zeroValue3
 t4:=Tryz.underlying4
 a4:=Tryz.isAgg4
 z4:=Tryz.sizeOf4
 v4:=Tryz.zeroValue4
 t22:=Tryz.underlying35
 a22:=Tryz.isAgg35
 z22:=Tryz.sizeOf35
 v22:=Tryz.zeroValue35
 a23:=Tryz.isAgg3
 z23:=Tryz.sizeOf3
 t25:=Tryz.underlying79
 a25:=Tryz.isAgg79
 z25:=Tryz.sizeOf79
 v25:=Tryz.zeroValue79 }
end Go.Proofs

namespace Go.Eng
open Go.Proofs Go.Shelf Go.RowKit Go.Lib Go.Sort
theorem gives36 (v x:Int) (B o:Nat) (W:World) (hc:W.cell? ⟨B,o,none⟩=some (.int .i64 v)) :
  FnGives Tryz.prog 36 #[.pointer (some ⟨B,o,none⟩)] #[.int .i64 x] (.bool (decide (x=v))) W:=by
 show Calls Tryz.prog 36 #[.int .i64 x,.pointer (some ⟨B,o,none⟩)] W _
 go_enter Tryz.func36,Tryz.ntmps36
 go_wp2
 have e:(x == v)=decide (x=v):=rfl
 all_goals (go_ret; exact ⟨by simp_all,0,rfl⟩)
theorem pred36 (v:Int) (B o:Nat) (w:World) (hB:B<w.heap.size) (hcell:w.cell? ⟨B,o,none⟩=some (.int .i64 v)) :
  PredAt Tryz.prog 36 #[.pointer (some ⟨B,o,none⟩)] (Value.int .i64) (fun x=>decide (x=v)) w :=
 fun W x hb=>gives36 v x B o W ((hb.cell (p:=⟨B,o,none⟩) hB).trans hcell)
theorem over36 (v:Int) (B o blk off size:Nat) (w:World) (hB:B<w.heap.size) (hne:B≠blk) (hcell:w.cell? ⟨B,o,none⟩=some (.int .i64 v)) :
  PredOver Tryz.prog 36 #[.pointer (some ⟨B,o,none⟩)] (Value.int .i64) (fun x=>decide (x=v)) blk off size w :=
 fun n os dk x _=>gives36 v x B o _ (by
  unfold sortWorld;rw [cell?_grow _ _ _ (by show B<(putRow _ _ _ _ _).heap.size; rw [Go.Sort.size_putRow]; exact hB),cell?_putRow_other _ _ blk off _ _ (Or.inl hne)];exact hcell)
abbrev lessI (zs:List Int) (v:Int):List Int:=zs.filter fun z=>!decide (z=v)
theorem s34 (zs:List Int) (v:Int) (hl:Few zs) (hne:zs≠[]) :
  ACall Tryz.prog 34 [.msl 1000 zs.length,.clo 36 [.cptr [vi v]]] (heapOf [(1000,.arr 1 (zs.map encI))] hfree) fun r h'=>r=.msl 2000 (lessI zs v).length∧h'=heapOf [(1000,.dead),(2000,.arr 1 ((lessI zs v).map encI))] hfree:=by
 have hl:zs.length≤1073741824:=hl;have hE:Enters Tryz.prog 34:=ent 34 Tryz.func34 (by kernel_rfl) rfl;have hle:(lessI zs v).length≤zs.length:=List.length_filter_le _ _;have hmain:=acall_cutF (P:=Tryz.prog) (f:=34) (fF:=36) (caps:=[.cptr [vi v]]) (es:=zs.map encI) (sz:=1) (n':=(lessI zs v).length) (Q:=fun es'=>es'=(lessI zs v++List.replicate (zs.length - (lessI zs v).length) 0).map encI) hE (fun e=>hne (List.map_eq_nil_iff.1 e)) (by rw [Lm]; exact hle) ?_
 ·rw [Lm] at hmain;refine ⟨hE,fun g w vals q1 q2 q3=>(hmain.2 g w vals q1 q2 q3).mono fun _ _ ⟨x,r,h',g',e1,⟨e2,es',p1,p2⟩,rest⟩=>⟨x,r,h',g',e1,⟨e2,by
   rw [p2,p1,List.map_append,List.take_append_of_le_length (by rw [Lm]; exact Nat.le_refl _),List.take_of_length_le (by rw [Lm]; exact Nat.le_refl _)]⟩,rest⟩⟩
 ·intro g w b cap F lb hr hF hH hb hc hS hlt hls hlr;rw [Lm] at hF hc ⊢;have hFl:F.toList=zs.map fun z=>Value.int .i64 z:=repL_vals_eq (by rw [← flat_encI]; exact hr);have hFz:F=zs.toArray.map fun z=>Value.int .i64 z:=Array.toList_inj.1 (by rw [hFl]; simp);have hH2:Holds (Value.int .i64) w b 0 zs.toArray:=fun j hj=>by
   have:=hH j (by rw [hFz]; simpa using hj)
   refine ⟨this.1.trans ?_,this.2⟩;rw [hFz,getElem!_pos _ j (by simpa using hj),getElem!_pos _ j hj];simp
  have hls:lb.size=1:=hls;have h0:=hlr 0 (.cptr [vi v]) lb[0] rfl (Array.getElem?_eq_getElem (by omega));obtain ⟨B,o,hp,hSB,hcell⟩ : ∃ B o,lb[0]=.pointer (some ⟨B,o,none⟩)∧g.S B o∧w.cell? ⟨B,o,none⟩=some (.int .i64 v):=by
   generalize lb[0]=x at h0;cases h0 with
   | cptr _ cs B o val hcell hrep =>
    have a:=hcell 0 (vi v) rfl;have e:=(hrep 0 (vi v) rfl).v_eq;exact ⟨B,o,rfl,a.1,by rw [← e]; exact a.2.1⟩
  have hlb:lb=#[.pointer (some ⟨B,o,none⟩)]:=by
   refine Array.ext (by simpa using hls) fun i h1 h2=>?_
   have:i=0:=by omega
   subst this;exact hp
  have hB:=hlt B o hSB;have hBb:B≠b:=fun e=>hS o (e▸hSB);rw [hlb]
  have hcon:=AnyE.slices_DeleteFunc Tryz.layDel (Value.int .i64) (fun _=>rfl) (fun x=>decide (x=v)) 36 #[.pointer (some ⟨B,o,none⟩)] (enters_of Tryz.func36 (by kernel_rfl) rfl) 0 Tryz.zeroValue3 b 0 cap zs.toArray w
   (pred36 v B o w hB hcell) (over36 v B o b 0 zs.toArray.size w hB hBb hcell) hH2 (by simp; omega) (by simpa using hc)
  refine hcon.mono ?_
  rintro e w' ⟨rfl,q,rfl⟩
  have efl:(zs.toArray.toList.filter fun x=>!decide (x=v))=lessI zs v:=by simp
  rw [efl];refine ⟨rfl,(lessI zs v++List.replicate (zs.length - (lessI zs v).length) 0).toArray.map fun z=>Value.int .i64 z,_,q,#[],?_,rfl,?_,fun cs hcs=>?_,fun g w _=>?_,?_⟩
  ·rw [hFz]; simp; omega
  ·simp; omega
  ·obtain ⟨x,_,rfl⟩:=List.mem_map.1 hcs; rfl
  ·rw [flat_encI];have e:((lessI zs v++List.replicate (zs.length - (lessI zs v).length) 0).toArray.map fun z=>Value.int .i64 z).toList=(lessI zs v++List.replicate (zs.length - (lessI zs v).length) 0).map fun z=>Value.int .i64 z:=by simp
   rw [e];exact repL_vals _ _ _ _ fun x hx=>by
    obtain ⟨z,_,rfl⟩:=List.mem_map.1 hx; rfl
  ·rw [putRow_id,grow_empty]; simp
end Go.Eng

namespace Go.Eng
open Go.Proofs
theorem c35a (l:List Int) (hl:Few l):ACall Tryz.prog 35 [sl encI l] (heapOf [] hfree) fun r h'=>r=.msl 2000 l.length∧h'=heapOf [(2000,.arr 1 (l.map encI))] hfree:=by
 refine acall_sub (cxe (plTa 1)) [(2,2000)] rfl tab_ok hm rfl Tryz.func35 (by kernel_rfl) rfl (Nz rfl) (by kernel_rfl) rfl ?_;have bulk:AllLen 1 (l.map encI)∧([]:List (List AV)).length=0∧(([]:List (List AV)).length+(l.map encI).length)*8≤140737488355328∧([]:List (List AV)).length+(l.map encI).length≤9223372036854775807:=by
  refine ⟨allLen_map (enc:=encI) (n:=1) (fun _=>rfl) l,rfl,?_,?_⟩ <;> simp only [List.length_nil,Lm] <;> unfold Few at hl <;> omega
 have e1:AV.msl 2000 (([]:List (List AV)).length+(l.map encI).length)=.msl 2000 l.length:=by simp
 refine Xi 0 ?_;refine Xi 0 ?_;refine Yi ?_ ?_
 ·intro _;refine Xi ⟨[(0,sl encI l)],[],hfree⟩ (Yi ⟨Z1,Tv,Fh,ext_dec (by kernel_rfl)⟩ ?_)
  refine Xi 2 ?_;refine Yi bulk ?_;exact Xi _ (Yi (.refl _) (Yi e1 rfl))
 ·intro h;have h:l.map encI=[]:=h;refine Yi ?_ ?_
  ·refine Xi ⟨[],[],hfree⟩ (Yi ⟨trivial,trivial,fun _=>.inl rfl,ext_dec (by kernel_rfl)⟩ ?_)
   refine Xi 2 ?_;exact Xi _ (Yi (.refl _) (Yi (show AV.msl 2000 0=_ by rw [List.map_eq_nil_iff.1 h]; rfl) (show heapOf [(2000,HO.arr 1 [])] hfree=_ by rw [h])))
  ·refine Xi ⟨[(0,sl encI l)],[],hfree⟩ (Yi ⟨Z1,Tv,Fh,ext_dec (by kernel_rfl)⟩ ?_)
   refine Xi 2 ?_;refine Yi bulk ?_;exact Xi _ (Yi (.refl _) (Yi e1 rfl))
def idI (n i:Nat):List Int:=(List.range n).map fun k=>if k<i then (k:Int) else 0
@[simp] theorem idI_len (n i:Nat):(idI n i).length=n:=by unfold idI; simp
theorem idI_zero (n:Nat):List.replicate ((n:Int)).toNat [vi 0]=(idI n 0).map encI:=by
 rw [Int.toNat_natCast];refine List.ext_getElem (by simp [idI]) fun k h1 h2=>?_;simp [idI]
theorem idI_get {n i:Nat} (h:i<n):((idI n i).map encI)[i]?=some [vi 0]:=by
 rw [List.getElem?_map,idI,List.getElem?_map,List.getElem?_range h]; simp
theorem idI_set {n i:Nat} (_h:i<n):((idI n i).map encI).set i [vi (i:Nat)]=(idI n (i+1)).map encI:=by
 refine List.ext_getElem (by simp [idI]) fun k h1 h2=>?_;rw [List.getElem_set];simp only [idI,List.getElem_map,List.getElem_range]
 by_cases e:i=k
 ·subst e; rw [if_pos rfl,if_pos (by omega)]
 ·rw [if_neg e]
  by_cases q:k<i
  ·rw [if_pos q,if_pos (by omega)]
  ·rw [if_neg q,if_neg (by omega)]
def pickR (roots:List Rq) (l:List Int):List Rq:=l.filterMap fun k=>roots[k.toNat]?
theorem pickR_succ {roots:List Rq} {l:List Int} {j:Nat} {z:Int} {q:Rq} (h:l[j]?=some z) (hq:roots[z.toNat]?=some q):pickR roots (l.take (j+1))=pickR roots (l.take j)++[q]:=by
 unfold pickR;rw [List.take_add_one,h,List.filterMap_append];simp [hq]
theorem pickR_len (roots:List Rq) (l:List Int):(pickR roots l).length≤l.length:=List.length_filterMap_le ..
theorem pickR_mem {roots:List Rq} {l:List Int} {q:Rq} (h:q ∈ pickR roots l):q ∈ roots:=by
 unfold pickR at h;obtain ⟨k,_,hk⟩:=List.mem_filterMap.1 h;exact List.mem_of_getElem? hk
def coreStep (x:List Rl) (roots:List Rq) (kept:List Int) (z:Int):List Int :=
 if solveE x (pickR roots (lessI kept z))=0∧(solveA x (pickR roots (lessI kept z))).found=false then lessI kept z else kept
def coreGo (x:List Rl) (roots:List Rq):Nat→List Int→List Int
 | 0,kept=>kept
 | i+1,kept=>coreGo x roots i (coreStep x roots kept (i:Nat))
def coreL (x:List Rl) (roots:List Rq):List Int:=coreGo x roots roots.length (idI roots.length roots.length)
theorem coreGo_pred {x:List Rl} {roots:List Rq} {i:Nat} {kept:List Int} (h:0<i):coreGo x roots i kept=coreGo x roots (i - 1) (coreStep x roots kept ((i:Int) - 1)):=by
 obtain ⟨m,rfl⟩ : ∃ m,i=m+1:=⟨i - 1,by omega⟩;rw [show (((m+1:Nat):Int) - 1)=(m:Nat) by omega]; rfl
def coreE (x:List Rl) (roots:List Rq):Int:=if solveE x roots≠0 then solveE x roots else if (solveA x roots).found=true then 8 else 0
def coreA (x:List Rl) (roots:List Rq):List Int:=if coreE x roots=0 then coreL x roots else []
theorem solve_nil {x:List Rl} (h:solveE x []=0):(solveA x []).found=true:=by
 unfold solveE at h;split at h
 ·rename_i hv;split at h
  ·cases h
  ·rename_i hf;unfold solveA;rw [if_pos ⟨hv,by simpa using hf⟩]
   rfl
 ·cases h
theorem core_ne {x:List Rl} {roots:List Rq} (h1:solveE x roots=0) (h2:(solveA x roots).found=false):idI roots.length roots.length≠[]:=by
 intro e;have hl:=idI_len roots.length roots.length;rw [e] at hl;have hr:roots=[]:=List.eq_nil_of_length_eq_zero hl.symm;subst hr;rw [solve_nil h1] at h2; cases h2
theorem step_keeps {x:List Rl} {roots:List Rq} {kept:List Int} {z:Int} (h:kept≠[]):coreStep x roots kept z≠[]:=by
 unfold coreStep;split
 ·rename_i hc;intro e;rw [e] at hc
  have:=solve_nil (x:=x) hc.1
  rw [show pickR roots []=[] from rfl] at hc;rw [this] at hc;cases hc.2
 ·exact h
structure KOk (n:Nat) (kept:List Int):Prop where
 rng:∀ z ∈ kept,0≤z∧z<n
 len:kept.length≤n
theorem KOk.less {n:Nat} {kept:List Int} (h:KOk n kept) (i:Int):KOk n (lessI kept i) :=
 ⟨fun z hz=>h.rng z (List.mem_filter.1 hz).1,Nat.le_trans (List.length_filter_le _ _) h.len⟩
theorem KOk.step {n:Nat} {kept:List Int} (h:KOk n kept) (x:List Rl) (roots:List Rq) (i:Int):KOk n (coreStep x roots kept i):=by
 unfold coreStep;split
 ·exact h.less _
 ·exact h
theorem KOk.id (n:Nat):KOk n (idI n n):=⟨fun z hz=>by
 unfold idI at hz;obtain ⟨k,hk,rfl⟩:=List.mem_map.1 hz;rw [List.mem_range] at hk;rw [if_pos hk]; omega,by rw [idI_len]; exact Nat.le_refl _⟩
theorem cr_err {x:List Rl} {roots:List Rq} {e:Int} (h:coreE x roots=e) (he:e≠0):Sub (.tup [.v (.slice none 0 0),vi e]) (.tup [sl encI (coreA x roots),vi (coreE x roots)]):=by
 unfold coreA;rw [h,if_neg he];exact Sub.tup ⟨.nil,.refl _,trivial⟩
theorem cr_ok {x:List Rl} {roots:List Rq} {kept:List Int} (h:coreE x roots=0) (hk:kept=coreL x roots):Sub (.tup [sl encI kept,vi 0]) (.tup [sl encI (coreA x roots),vi (coreE x roots)]):=by
 unfold coreA;rw [h,if_pos rfl,hk];exact .refl _
set_option maxHeartbeats 4000000 in
theorem s13 (x:List Rl) (ifs:List (List AV)) (roots:List Rq) (hx:∀ r ∈ x,FewR r) (hr:∀ q ∈ roots,FewQ q) (hn:roots.length≤1000000):PC 13 [ixV x ifs,sl encRq roots] (.tup [sl encI (coreA x roots),vi (coreE x roots)]):=by
 have hml:(roots.map encRq).length=roots.length:=Lm _;have hc0:=s21 x ifs roots hx hr;obtain ⟨A0,hA0⟩ : ∃ A0,A0=solveA x roots:=⟨_,rfl⟩;obtain ⟨e0,he0⟩ : ∃ e0,e0=solveE x roots:=⟨_,rfl⟩;have hc0:PC 21 [ixV x ifs,sl encRq roots] (.tup [.agg (encAn A0),vi e0]):=by rw [hA0,he0]; exact hc0
 refine Ps ⟨[2],[(12,2)],[(30,1)],[(50,[10])],[],[],[],[],[],[(200012,8),(200016,11)],[2,4,7,11,12,14,16,21,22,23,24,25,26]⟩ Tryz.func13 rfl (Nz rfl) ?_;refine Yi (Nz rfl) ?_;refine Xi .pure (Xi _ (Yi hc0 ?_));refine Yi (Nz rfl) ?_;refine Xi ⟨[(1,sl encRq roots),(2,.ref 2 0),(6,.ref 6 0),(7,vi (e0:Int))],[(2,.ro (Ic x ifs)),(6,.cells (encAn A0))],hfree⟩ (Yi ⟨Z4,Z2,Fh,Tv⟩ ?_)
 refine Yi (fun h1=>?_) (fun h1=>?_)
 ·have h1:((e0:Int):Int)≠(0:Int):=h1;exact cr_err (show coreE x roots=e0 by unfold coreE; rw [← he0,if_pos h1]) h1
 have h1:((e0:Int):Int)=(0:Int):=Classical.byContradiction h1;refine Xi ⟨[(1,sl encRq roots),(2,.ref 2 0),(6,.ref 6 0)],[(2,.ro (Ic x ifs)),(6,.cells (encAn A0))],hfree⟩ (Yi ⟨Z3,Z2,Fh,Tv⟩ ?_)
 refine Yi (fun h3=>?_) (fun h3=>?_)
 ·have h3:A0.found=true:=h3;exact cr_err (show coreE x roots=8 by unfold coreE; rw [← he0,← hA0,if_neg (fun h=>h h1),if_pos h3]) (by decide)
 have h3:A0.found=false:=h3;have h0ne:=core_ne (he0.symm.trans h1) (show (solveA x roots).found=false by rw [← hA0]; exact h3);refine Yi (show (0:Int)≤(roots.map encRq).length∧((roots.map encRq).length:Int)≤(roots.map encRq).length∧((roots.map encRq).length:Int)*8≤140737488355328∧((roots.map encRq).length:Int)≤9223372036854775807 by rw [Lm]; omega) ?_;refine Xi ⟨[(1,sl encRq roots),(2,.ref 2 0),(8,.msl 30 roots.length)],[(2,.ro (Ic x ifs)),(30,.arr 1 ((idI roots.length 0).map encI))],hfree⟩ (Yi ⟨⟨Zr,Zr,⟨(show AV.msl 30 (List.replicate (((roots.map encRq).length:Nat):Int).toNat [vi 0]).length=.msl 30 roots.length by simp),rfl⟩,Tv⟩,⟨Zr,⟨(show HO.arr 1 (List.replicate (((roots.map encRq).length:Nat):Int).toNat [vi 0])=.arr 1 ((idI roots.length 0).map encI) by rw [Lm,idI_zero]),rfl⟩,Tv⟩,Fh,Tv⟩ ?_)
 refine Xi {q:Nat // q≤roots.length} (Xi (fun q=>⟨[(1,sl encRq roots),(2,.ref 2 0),(8,.msl 30 roots.length),(32,vi roots.length),(33,vi q.1)],[(2,.ro (Ic x ifs)),(30,.arr 1 ((idI roots.length q.1).map encI))],hfree⟩) (Xi (fun q=>roots.length - q.1) (Yi (Xi ⟨0,Nat.zero_le _⟩ ?_) ?_)))
 ·exact ⟨Z5,Z2,Fh,Tv⟩
 intro ⟨i,i1⟩;have i1:i≤roots.length:=i1;refine Yi (fun h5=>?_) (fun h5=>?_)
 ·have h5:(i:Int)<(roots.length:Int):=h5;have n5:i<roots.length:=by omega
  have g5:roots[i]?=some roots[i]:=Ge n5
  skip
  refine Yi (by show (0:Int)≤i∧(i:Int)<(roots.length:Nat); omega) ?_;refine Yi (show roots.length=((idI roots.length i).map encI).length by simp) (Xi [vi 0] (Yi (idI_get (show i<roots.length by omega)) (Yi (Nz rfl) ?_)));refine Xi ⟨[(1,sl encRq roots),(2,.ref 2 0),(8,.msl 30 roots.length),(32,vi roots.length),(33,vi i)],[(2,.ro (Ic x ifs)),(30,.arr 1 (((idI roots.length i).map encI).set i [vi i]))],hfree⟩ (Yi ⟨Z5,Z2,Fh,Tv⟩ ?_)
  refine Yi (Ii i (by omega)) ?_;refine Xi ⟨i+1,by omega⟩ ?_;exact ⟨Dl roots.length i (by omega),Z5,⟨Zr,⟨(congrArg (HO.arr 1) (idI_set (show i<roots.length by have q:=h5; omega))),rfl⟩,Tv⟩,Fh,Tv⟩
 have h5:¬ ((i:Int)<(roots.length:Int)):=h5;have n5:¬ i<roots.length:=by omega
 refine Yi (show roots.length=((idI roots.length i).map encI).length by rw [Lm,idI_len]) ?_;refine Xi ⟨[(1,sl encRq roots),(2,.ref 2 0),(8,sl encI (idI roots.length i))],[(2,.ro (Ic x ifs))],hfree⟩ (Yi ⟨Z3,Z1,Fh,Tv⟩ ?_)
 refine Yi (by show InI64 (((roots.map encRq).length:Int) - (1:Int)); unfold InI64; omega) ?_;refine Yi (Nz rfl) ?_;refine Xi {q:Nat × List Int // q.1≤roots.length∧KOk roots.length q.2∧q.2≠[]∧coreGo x roots q.1 q.2=coreL x roots} (Xi (fun q=>⟨[(1,sl encRq roots),(2,.ref 2 0),(8,sl encI q.1.2),(10,.ref 10 0)],[(2,.ro (Ic x ifs)),(10,.cells [vi ((q.1.1:Int) - 1)])],hfree⟩) (Xi (fun q=>q.1.1) (Yi (Xi ⟨(roots.length,idI roots.length roots.length),Nat.le_refl _,.id _,h0ne,rfl⟩ ?_) ?_)))
 ·exact ⟨⟨Zr,Zr,⟨(show sl encI (idI roots.length i)=sl encI (idI roots.length roots.length) by rw [show i=roots.length by omega]),rfl⟩,Zr,Tv⟩,⟨Zr,⟨(show HO.cells [vi (((roots.map encRq).length:Int) - (1:Int))]=.cells [vi ((roots.length:Int) - 1)] by rw [Lm]),rfl⟩,Tv⟩,Fh,Tv⟩
 intro ⟨⟨i,kept⟩,i1,k1,k2,k3⟩;have i1:i≤roots.length:=i1;have k1:KOk roots.length kept:=k1;have k2:kept≠[]:=k2;have k3:coreGo x roots i kept=coreL x roots:=k3;have hll:(lessI kept ((i:Int) - 1)).length≤roots.length:=(k1.less _).len;refine Yi (fun h7=>?_) (fun h7=>?_)
 ·have h7:(0:Int)≤(((i:Int) - 1):Int):=h7;refine Xi (.gen [] 1) (Yi rfl (ACall.imp (c35a kept (by have q:=k1.len; unfold Few; omega)) ?_));intro v8 g8 q8;have q8a:=q8.1;have q8b:=q8.2;subst q8a;subst q8b;refine Xi (.gen [(14900,1000)] 1) (Yi rfl (ACall.imp (s34 kept ((i:Int) - 1) (by have q:=k1.len; unfold Few; omega) k2) ?_));intro v9 g9 q9;have q9a:=q9.1;have q9b:=q9.2;subst q9a;subst q9b;refine Yi (show (lessI kept ((i:Int) - 1)).length=((lessI kept ((i:Int) - 1)).map encI).length by rw [Lm]) ?_;refine Xi ⟨[(1,sl encRq roots),(2,.ref 2 0),(8,sl encI kept),(10,.ref 10 0),(11,sl encI (lessI kept ((i:Int) - 1)))],[(2,.ro (Ic x ifs)),(10,.ro [vi ((i:Int) - 1)])],hfree⟩ (Yi ⟨Z5,Z2,Fh,Tv⟩ ?_)
  refine Xi {q:Nat // q≤(lessI kept ((i:Int) - 1)).length} (Xi (fun q=>⟨[(1,sl encRq roots),(2,.ref 2 0),(8,sl encI kept),(10,.ref 10 0),(11,sl encI (lessI kept ((i:Int) - 1))),(12,.slice (.id 12 2) ((pickR roots ((lessI kept ((i:Int) - 1)).take q.1)).map encRq)),(52,sl encI (lessI kept ((i:Int) - 1))),(53,vi ((lessI kept ((i:Int) - 1)).map encI).length),(54,vi q.1)],[(2,.ro (Ic x ifs)),(10,.ro [vi ((i:Int) - 1)]),(12,.tok 2 (pickR roots ((lessI kept ((i:Int) - 1)).take q.1)).length)],hfree⟩) (Xi (fun q=>(lessI kept ((i:Int) - 1)).length - q.1) (Yi (Xi ⟨0,Nat.zero_le _⟩ ?_) ?_)))
  ·exact ⟨Z9,Z3,Fh,Tv⟩
  intro ⟨j,j1⟩;have j1:j≤(lessI kept ((i:Int) - 1)).length:=j1;refine Yi (fun h10=>?_) (fun h10=>?_)
  ·have h10:(j:Int)<(((lessI kept ((i:Int) - 1)).map encI).length:Int):=h10;have n10:j<(lessI kept ((i:Int) - 1)).length:=by have q:=h10; rw [Lm] at q; omega
   have g10:(lessI kept ((i:Int) - 1))[j]?=some (lessI kept ((i:Int) - 1))[j]:=Ge n10;have nj:j<(lessI kept ((i:Int) - 1)).length:=by have q:=h10; rw [Lm] at q; omega
   refine Xi [vi ((lessI kept ((i:Int) - 1))[j])] (Yi (Yi (Nn j) (map_at (Ge nj))) (Yi rfl ?_));have hpl:(pickR roots ((lessI kept ((i:Int) - 1)).take j)).length≤roots.length:=by have a:=pickR_len roots ((lessI kept ((i:Int) - 1)).take j); have b:=(k1.less ((i:Int) - 1)).len; rw [List.length_take] at a; omega
   have hz:=k1.rng _ (List.mem_filter.1 (List.getElem_mem nj)).1;refine Exists.elim (show ∃ rq,roots[((lessI kept ((i:Int) - 1))[j]).toNat]?=some rq from ⟨_,Ge (show ((lessI kept ((i:Int) - 1))[j]).toNat<roots.length by omega)⟩) (fun rq hrq=>?_);refine Xi (encRq rq) (Yi (Yi hz.1 (map_at hrq)) (Yi rfl ?_));refine Yi (Nz rfl) ?_;have b11:AllLen 2 [(encRq rq)]∧((pickR roots ((lessI kept ((i:Int) - 1)).take j)).map encRq).length=(pickR roots ((lessI kept ((i:Int) - 1)).take j)).length∧(((pickR roots ((lessI kept ((i:Int) - 1)).take j)).map encRq).length+([(encRq rq)]:List (List AV)).length)*40≤140737488355328∧((pickR roots ((lessI kept ((i:Int) - 1)).take j)).map encRq).length+([(encRq rq)]:List (List AV)).length≤9223372036854775807:=⟨⟨rfl,trivial⟩,(by rw [Lm]),(by simp only [Lm,List.length_cons,List.length_nil]; omega),(by simp only [Lm,List.length_cons,List.length_nil]; omega)⟩;refine Yi b11 ?_;refine Xi ⟨[(1,sl encRq roots),(2,.ref 2 0),(8,sl encI kept),(10,.ref 10 0),(11,sl encI (lessI kept ((i:Int) - 1))),(12,.slice (.id 12 2) (((pickR roots ((lessI kept ((i:Int) - 1)).take j)).map encRq)++[(encRq rq)])),(52,sl encI (lessI kept ((i:Int) - 1))),(53,vi ((lessI kept ((i:Int) - 1)).map encI).length),(54,vi j)],[(2,.ro (Ic x ifs)),(10,.ro [vi ((i:Int) - 1)]),(12,.tok 2 (((pickR roots ((lessI kept ((i:Int) - 1)).take j)).map encRq).length+([(encRq rq)]:List (List AV)).length))],hfree⟩ (Yi ⟨Z9,Z3,Fh,Tv⟩ ?_)
   refine Yi (Ii j (by omega)) ?_;have hps:pickR roots ((lessI kept ((i:Int) - 1)).take (j+1))=pickR roots ((lessI kept ((i:Int) - 1)).take j)++[rq]:=pickR_succ (Ge nj) hrq;refine Xi ⟨j+1,nj⟩ ?_;exact ⟨by show (lessI kept ((i:Int) - 1)).length - (j+1)<(lessI kept ((i:Int) - 1)).length - j; omega,⟨Zr,Zr,Zr,Zr,Zr,⟨(show AV.slice (.id 12 2) ((pickR roots ((lessI kept ((i:Int) - 1)).take j)).map encRq++[encRq rq])=.slice (.id 12 2) ((pickR roots ((lessI kept ((i:Int) - 1)).take (j+1))).map encRq) by rw [hps,List.map_append]; rfl),rfl⟩,Zr,Zr,Zr,Tv⟩,⟨Zr,Zr,⟨(show HO.tok 2 (((pickR roots ((lessI kept ((i:Int) - 1)).take j)).map encRq).length+([encRq rq]:List (List AV)).length)=.tok 2 (pickR roots ((lessI kept ((i:Int) - 1)).take (j+1))).length by rw [hps,List.length_append,Lm]; rfl),rfl⟩,Tv⟩,Fh,Tv⟩
  have h10:¬ ((j:Int)<(((lessI kept ((i:Int) - 1)).map encI).length:Int)):=h10;have n10:¬ j<(lessI kept ((i:Int) - 1)).length:=by have q:=h10; rw [Lm] at q; omega
  refine Xi ⟨[(1,sl encRq roots),(2,.ref 2 0),(8,sl encI kept),(10,.ref 10 0),(11,sl encI (lessI kept ((i:Int) - 1))),(12,.slice (.id 12 2) ((pickR roots ((lessI kept ((i:Int) - 1)).take j)).map encRq))],[(2,.ro (Ic x ifs)),(10,.ro [vi ((i:Int) - 1)]),(12,.tok 2 (pickR roots ((lessI kept ((i:Int) - 1)).take j)).length)],hfree⟩ (Yi ⟨Z6,Z3,Fh,Tv⟩ ?_)
  refine Yi (Nz rfl) ?_;have hs:=s21 x ifs (pickR roots (lessI kept ((i:Int) - 1))) hx (fun q hq=>hr q (pickR_mem hq));refine Exists.elim (show ∃ A1,A1=solveA x (pickR roots (lessI kept ((i:Int) - 1))) from ⟨_,rfl⟩) (fun A1 hA1=>?_);refine Exists.elim (show ∃ e1,e1=solveE x (pickR roots (lessI kept ((i:Int) - 1))) from ⟨_,rfl⟩) (fun e1 he1=>?_);have hs:PC 21 [ixV x ifs,sl encRq (pickR roots (lessI kept ((i:Int) - 1)))] (.tup [.agg (encAn A1),vi e1]):=by rw [hA1,he1]; exact hs
  have hs:PC 21 [ixV x ifs,sl encRq (pickR roots ((lessI kept ((i:Int) - 1)).take j))] (.tup [.agg (encAn A1),vi e1]):=by rw [List.take_of_length_le (by have q:=h10; rw [Lm] at q; omega)]; exact hs
  refine Xi .pure (Xi _ (Yi hs ?_));refine Yi (Nz rfl) ?_;refine Xi ⟨[(1,sl encRq roots),(2,.ref 2 0),(8,sl encI kept),(10,.ref 10 0),(11,sl encI (lessI kept ((i:Int) - 1))),(15,.ref 15 0),(16,vi (e1:Int))],[(2,.ro (Ic x ifs)),(10,.ro [vi ((i:Int) - 1)]),(15,.cells (encAn A1))],hfree⟩ (Yi ⟨Z7,Z3,Fh,Tv⟩ ?_)
  refine Yi (fun h13=>?_) (fun h13=>?_)
  ·have h13:((e1:Int):Int)=(0:Int):=h13;refine Yi (fun h14=>?_) (fun h14=>?_)
   ·have h14:A1.found=true:=h14;refine Xi ⟨[(1,sl encRq roots),(2,.ref 2 0),(8,sl encI kept),(10,.ref 10 0)],[(2,.ro (Ic x ifs)),(10,.ro [vi ((i:Int) - 1)])],hfree⟩ (Yi ⟨Z4,Z2,Fh,Tv⟩ ?_)
    refine Xi ⟨[(1,sl encRq roots),(2,.ref 2 0),(8,sl encI kept),(80,vi ((i:Int) - 1))],[(2,.ro (Ic x ifs))],hfree⟩ (Yi ⟨Z4,Z1,Fh,Tv⟩ ?_)
    refine Yi (Nz rfl) ?_;refine Xi ⟨[(1,sl encRq roots),(2,.ref 2 0),(8,sl encI kept),(10,.ref 10 0)],[(2,.ro (Ic x ifs)),(10,.cells [vi ((i:Int) - 1)])],hfree⟩ (Yi ⟨Z4,Z2,Fh,Tv⟩ ?_)
    refine Yi (by show InI64 ((((i:Int) - 1):Int) - (1:Int)); unfold InI64; omega) ?_;refine Yi (Nz rfl) ?_;have hi0:0<i:=by omega
    have hst:coreStep x roots kept ((i:Int) - 1)=kept:=by unfold coreStep; rw [if_neg]; rintro ⟨c1,c2⟩; rw [← hA1,h14] at c2; cases c2
    have hne:kept≠[]:=by rw [← hst]; exact step_keeps k2
    have hko:KOk roots.length kept:=by rw [← hst]; exact k1.step x roots _
    have hgo:coreGo x roots (i - 1) kept=coreL x roots:=by rw [← k3,coreGo_pred hi0,hst]
    refine Xi ⟨(i - 1,kept),by show i - 1≤roots.length; omega,hko,hne,hgo⟩ ?_;exact ⟨by show (i - 1)<i; omega,Z4,⟨Zr,⟨(show HO.cells [vi (((i:Int) - 1) - (1:Int))]=.cells [vi (((i - 1:Nat):Int) - 1)] by rw [show ((i - 1:Nat):Int)=(i:Int) - 1 by omega]),rfl⟩,Tv⟩,Fh,Tv⟩
   have h14:A1.found=false:=h14;refine Xi ⟨[(1,sl encRq roots),(2,.ref 2 0),(10,.ref 10 0),(11,sl encI (lessI kept ((i:Int) - 1)))],[(2,.ro (Ic x ifs)),(10,.ro [vi ((i:Int) - 1)])],hfree⟩ (Yi ⟨Z4,Z2,Fh,Tv⟩ ?_)
   refine Xi ⟨[(1,sl encRq roots),(2,.ref 2 0),(8,sl encI (lessI kept ((i:Int) - 1))),(10,.ref 10 0)],[(2,.ro (Ic x ifs)),(10,.ro [vi ((i:Int) - 1)])],hfree⟩ (Yi ⟨Z4,Z2,Fh,Tv⟩ ?_)
   refine Xi ⟨[(1,sl encRq roots),(2,.ref 2 0),(8,sl encI (lessI kept ((i:Int) - 1))),(80,vi ((i:Int) - 1))],[(2,.ro (Ic x ifs))],hfree⟩ (Yi ⟨Z4,Z1,Fh,Tv⟩ ?_)
   refine Yi (Nz rfl) ?_;refine Xi ⟨[(1,sl encRq roots),(2,.ref 2 0),(8,sl encI (lessI kept ((i:Int) - 1))),(10,.ref 10 0)],[(2,.ro (Ic x ifs)),(10,.cells [vi ((i:Int) - 1)])],hfree⟩ (Yi ⟨Z4,Z2,Fh,Tv⟩ ?_)
   refine Yi (by show InI64 ((((i:Int) - 1):Int) - (1:Int)); unfold InI64; omega) ?_;refine Yi (Nz rfl) ?_;have hi0:0<i:=by omega
   have hst:coreStep x roots kept ((i:Int) - 1)=(lessI kept ((i:Int) - 1)):=by unfold coreStep; rw [if_pos ⟨by rw [← he1]; exact h13,by rw [← hA1]; exact h14⟩]
   have hne:(lessI kept ((i:Int) - 1))≠[]:=by rw [← hst]; exact step_keeps k2
   have hko:KOk roots.length (lessI kept ((i:Int) - 1)):=by rw [← hst]; exact k1.step x roots _
   have hgo:coreGo x roots (i - 1) (lessI kept ((i:Int) - 1))=coreL x roots:=by rw [← k3,coreGo_pred hi0,hst]
   refine Xi ⟨(i - 1,(lessI kept ((i:Int) - 1))),by show i - 1≤roots.length; omega,hko,hne,hgo⟩ ?_;exact ⟨by show (i - 1)<i; omega,Z4,⟨Zr,⟨(show HO.cells [vi (((i:Int) - 1) - (1:Int))]=.cells [vi (((i - 1:Nat):Int) - 1)] by rw [show ((i - 1:Nat):Int)=(i:Int) - 1 by omega]),rfl⟩,Tv⟩,Fh,Tv⟩
  have h13:¬ (((e1:Int):Int)=(0:Int)):=h13;refine Xi ⟨[(1,sl encRq roots),(2,.ref 2 0),(8,sl encI kept),(10,.ref 10 0)],[(2,.ro (Ic x ifs)),(10,.ro [vi ((i:Int) - 1)])],hfree⟩ (Yi ⟨Z4,Z2,Fh,Tv⟩ ?_)
  refine Xi ⟨[(1,sl encRq roots),(2,.ref 2 0),(8,sl encI kept),(80,vi ((i:Int) - 1))],[(2,.ro (Ic x ifs))],hfree⟩ (Yi ⟨Z4,Z1,Fh,Tv⟩ ?_)
  refine Yi (Nz rfl) ?_;refine Xi ⟨[(1,sl encRq roots),(2,.ref 2 0),(8,sl encI kept),(10,.ref 10 0)],[(2,.ro (Ic x ifs)),(10,.cells [vi ((i:Int) - 1)])],hfree⟩ (Yi ⟨Z4,Z2,Fh,Tv⟩ ?_)
  refine Yi (by show InI64 ((((i:Int) - 1):Int) - (1:Int)); unfold InI64; omega) ?_;refine Yi (Nz rfl) ?_;have hi0:0<i:=by omega
  have hst:coreStep x roots kept ((i:Int) - 1)=kept:=by unfold coreStep; rw [if_neg]; rintro ⟨c1,c2⟩; exact h13 (he1.trans c1)
  have hne:kept≠[]:=by rw [← hst]; exact step_keeps k2
  have hko:KOk roots.length kept:=by rw [← hst]; exact k1.step x roots _
  have hgo:coreGo x roots (i - 1) kept=coreL x roots:=by rw [← k3,coreGo_pred hi0,hst]
  refine Xi ⟨(i - 1,kept),by show i - 1≤roots.length; omega,hko,hne,hgo⟩ ?_;exact ⟨by show (i - 1)<i; omega,Z4,⟨Zr,⟨(show HO.cells [vi (((i:Int) - 1) - (1:Int))]=.cells [vi (((i - 1:Nat):Int) - 1)] by rw [show ((i - 1:Nat):Int)=(i:Int) - 1 by omega]),rfl⟩,Tv⟩,Fh,Tv⟩
 have h7:¬ ((0:Int)≤(((i:Int) - 1):Int)):=h7;have hi:i=0:=by omega
 have hkl:kept=coreL x roots:=by have q:=k3; rw [hi] at q; exact q
 exact cr_ok (show coreE x roots=0 by unfold coreE; rw [← he0,← hA0,if_neg (fun h=>h h1),if_neg (by rw [h3]; decide)]) hkl
end Go.Eng

namespace Go.Eng
open Go.Proofs
theorem s15 (l m:List Int) (hl:Few l):PC 15 [sl encI l,sl encI m] (vb (decide (l=m))):=by
 refine Ps pl0 Tryz.func15 rfl (Nz rfl) ?_;refine Yi ?_ ?_
 ·intro h;have h:¬ ((l.map encI).length:Int)=(m.map encI).length:=h
  have:l≠m:=fun e=>h (by rw [e])
  rw [decide_eq_false this];exact .refl _
 ·intro h;have h:¬ ((l.map encI).length:Int)≠(m.map encI).length:=h;have hlen:l.length=m.length:=by simp at h; omega
  refine Xi {i:Nat // i≤l.length∧l.take i=m.take i} (Xi (fun i=>⟨[(0,sl encI l),(1,sl encI m),(12,vi (l.map encI).length),(13,vi i.1)],[],hfree⟩) (Xi (fun i=>l.length - i.1) (Yi (Xi ⟨0,by simp⟩ ?_) ?_)))
  ·exact ⟨Z4,Tv,Fh,Tv⟩
  ·intro ⟨i,h1,h2⟩;refine Yi ?_ ?_
   ·intro h;have h:(i:Int)<(l.map encI).length:=h;have h:i<l.length:=by simpa using h
    have h' : i<m.length:=by omega
    have hg:l[i]?=some l[i]:=Ge h;have hg' : m[i]?=some m[i]:=Ge h';refine Xi (encI l[i]) (Yi (Yi (Nn i) (by simp [hg])) (Yi rfl ?_));refine Xi (encI m[i]) (Yi (Yi (Nn i) (by simp [hg'])) (Yi rfl ?_));refine Yi ?_ ?_
    ·intro h5;refine Yi (by kernel_rfl) ?_;have h5:(l[i]:Int)≠(m[i]:Int):=h5
     have:l≠m:=fun e=>h5 (by subst e; rfl)
     rw [decide_eq_false this];exact .refl _
    ·intro h5;have h5:¬ (l[i]:Int)≠(m[i]:Int):=h5;have e:l[i]=m[i]:=by have:=Classical.not_not.1 h5; omega
     refine Yi (by kernel_rfl) ?_;refine Yi (by show InI64 ((i:Int)+1); unfold Few at hl; unfold InI64; omega) ?_;refine Xi ⟨i+1,by omega,?_⟩ ?_
     ·rw [List.take_add_one,List.take_add_one,h2,hg,hg',e]
     ·exact ⟨Dl l.length i (by omega),Z4,Tv,Fh,Tv⟩
   ·intro h;have h:¬ (i:Int)<(l.map encI).length:=h;have h:¬ i<l.length:=by simpa using h
    have e:l=m:=by
     rw [← List.take_of_length_le (l:=l) (i:=i) (by omega),h2,List.take_of_length_le (by omega)]
    rw [decide_eq_true e];exact .refl _

abbrev pa:ByteArray:=⟨#[97,47,118,49]⟩
abbrev pb:ByteArray:=⟨#[98,47,118,49]⟩
abbrev pc:ByteArray:=⟨#[99,47,118,49]⟩
abbrev v37 (m:Int):Ver:=⟨1,m,0⟩
abbrev rl37 (p:ByteArray) (m:Int) (q:List Rq):Rl:=⟨p,v37 m,q,mt,mt,mt,false⟩
abbrev x37:List Rl:=[rl37 pa 0 [⟨pb,[(0,1)]⟩],rl37 pa 1 [⟨pb,[(1000,1000000)]⟩],rl37 pb 0 [],rl37 pb 1 []]
abbrev q37a:Rq:=⟨pa,[(0,1000000)]⟩
abbrev q37b:Rq:=⟨pb,[(1000,1000000)]⟩
abbrev q37c:Rq:=⟨pc,[(0,1000000)]⟩
abbrev sl37:List Sl:=[⟨pa,v37 1⟩,⟨pb,v37 1⟩]
theorem few37:∀ r ∈ x37,FewR r:=by
 refine List.forall_mem_cons.2 ⟨⟨by decide,by decide⟩,List.forall_mem_cons.2 ⟨⟨by decide,by decide⟩,List.forall_mem_cons.2 ⟨⟨by decide,by decide⟩,List.forall_mem_cons.2 ⟨⟨by decide,by decide⟩,List.forall_mem_nil _⟩⟩⟩⟩
abbrev rlN37 (p:ByteArray) (b:Int):List AV:=[vs p,vi 1,vi b,vi 0,nilA,vs mt,vs mt,vs mt,vb false]
abbrev x37C:List AV:=[.slice .none [encRl (rl37 pa 0 [⟨pb,[(0,1)]⟩]),encRl (rl37 pa 1 [⟨pb,[(1000,1000000)]⟩]),rlN37 pb 0,rlN37 pb 1],nilA]
theorem x37_sub:Sub (.agg x37C) (ixV x37 []) :=
 have h (p:ByteArray) (b:Int):SubL (rlN37 p b) (encRl (rl37 p b [])):=⟨.refl _,.refl _,.refl _,.refl _,.nil,.refl _,.refl _,.refl _,.refl _,trivial⟩
 Sub.agg ⟨Sub.slice ⟨.refl _,.refl _,h pb 0,h pb 1,trivial⟩,.nil,trivial⟩
theorem s24 (m:Int):PC 24 [vi m] (.agg [vi 1,vi m,vi 0]):=by
 refine Ps ⟨[],[],[],[],[],[],[],[],[],[],[]⟩ Tryz.func24 rfl (Nz rfl) ?_;refine Yi (Nz rfl) ?_;refine Yi (Nz rfl) ?_;exact .refl _
set_option maxHeartbeats 4000000 in
theorem s8  : PC 8 [] (vb true):=by
 have hq:∀ q ∈ [q37a,q37b,q37c],FewQ q:=List.forall_mem_cons.2 ⟨⟨by decide,by decide⟩,List.forall_mem_cons.2 ⟨⟨by decide,by decide⟩,List.forall_mem_cons.2 ⟨⟨by decide,by decide⟩,List.forall_mem_nil _⟩⟩⟩;have hqa:∀ q ∈ [q37a],FewQ q:=fun q h=>hq q (by simp at h; subst h; simp);have hqb:∀ q ∈ [q37a,q37b],FewQ q:=fun q h=>hq q (by simp at h; rcases h with rfl | rfl <;> simp)
 obtain ⟨A,hA⟩ : ∃ A,A=solveA x37 [q37a,q37b]:=⟨_,rfl⟩;have a1:A.found=true:=by rw [hA]; kernel_rfl
 have a2:A.sel=sl37:=by rw [hA]; kernel_rfl
 have a3:A.skips.length=1:=by rw [hA]; kernel_rfl
 have a4:solveE x37 [q37a,q37b]=0:=by kernel_rfl
 have h21:=s21 x37 [] [q37a,q37b] few37 hqb;have h21:=h21.args (args':=[.agg x37C,sl encRq [q37a,q37b]]) ⟨x37_sub,.refl _,trivial⟩;unfold solveV at h21;rw [← hA,a4,show encAn A=[vb A.found,sl encSl A.sel,sl encNf A.infs,sl encSk A.skips] from rfl,a1,a2] at h21;have a5:selE x37 [q37a,q37b]=0:=by unfold selE; rw [a4,← hA,a1]; rfl
 have a6:selA x37 [q37a,q37b]=sl37:=by unfold selA; rw [a5,← hA,a2]; rfl
 have h16:=s16 x37 [] [q37a,q37b] few37 hqb;rw [a5,a6] at h16;have h16:=h16.args (args':=[.agg x37C,sl encRq [q37a,q37b]]) ⟨x37_sub,.refl _,trivial⟩;have h10:=s10_ok x37 [] [q37a] 9 few37 hqa (by kernel_rfl) (by decide) (by decide) (Nat.le_of_ble_eq_true (by kernel_rfl));obtain ⟨L,hL⟩ : ∃ L,L=lfS (leaves x37 [q37a] (x37.length+1) []):=⟨_,rfl⟩;have hLl:L.length=2:=by rw [hL]; kernel_rfl
 rw [← hL] at h10;have h10:=h10.args (args':=[.agg x37C,sl encRq [q37a],vi 9]) ⟨x37_sub,.refl _,.refl _,trivial⟩;have h13:=s13 x37 [] [q37a,q37b,q37c] few37 hq (by decide);rw [show coreE x37 [q37a,q37b,q37c]=0 by kernel_rfl,show coreA x37 [q37a,q37b,q37c]=[2] by kernel_rfl] at h13;have h13:=h13.args (args':=[.agg x37C,sl encRq [q37a,q37b,q37c]]) ⟨x37_sub,.refl _,trivial⟩;have h18:=c27 sl37 sl37 (by decide);rw [decide_eq_true rfl] at h18;have h15:=s15 [2] [2] (by decide);rw [decide_eq_true rfl] at h15;generalize A.infs=F at h21;generalize A.skips=K at h21 a3;have hLi:((L.map encLs).length:Int)=2:=by rw [Lm,hLl]; rfl
 have hKi:((K.map encSk).length:Int)=1:=by rw [Lm,a3]; rfl
 refine Ps ⟨[],[],[],[],[],[],[],[],[(65,3)],[],[2,3,4,5,6,7,8,9]⟩ Tryz.func8 rfl (Nz rfl) ?_;refine Xi ⟨[(1,.v (.func (.func 24) #[] #[]))],[],hfree⟩ (Yi ⟨Z1,Tv,Fh,Tv⟩ ?_)
 refine Xi .pure (Xi _ (Yi (s24 0) ?_));refine Xi .pure (Xi _ (Yi (s24 1) ?_));refine Xi .pure (Xi _ (Yi (s24 0) ?_));refine Xi .pure (Xi _ (Yi (s24 1) ?_));refine Yi (Nz rfl) ?_;refine Xi ⟨[(1,.v (.func (.func 24) #[] #[])),(2,.ref 2 0)],[(2,.cells [.slice (.id 33 9) [[vs ⟨#[97,47,118,49]⟩,vi 1,vi 0,vi 0,.slice .none [[vs ⟨#[98,47,118,49]⟩,.slice .none [[vi 0,vi 1]]]],vs ⟨#[]⟩,vs ⟨#[]⟩,vs ⟨#[]⟩,vb false],[vs ⟨#[97,47,118,49]⟩,vi 1,vi 1,vi 0,.slice .none [[vs ⟨#[98,47,118,49]⟩,.slice .none [[vi 1000,vi 1000000]]]],vs ⟨#[]⟩,vs ⟨#[]⟩,vs ⟨#[]⟩,vb false],[vs ⟨#[98,47,118,49]⟩,vi 1,vi 0,vi 0,.v (.slice none 0 0),vs ⟨#[]⟩,vs ⟨#[]⟩,vs ⟨#[]⟩,vb false],[vs ⟨#[98,47,118,49]⟩,vi 1,vi 1,vi 0,.v (.slice none 0 0),vs ⟨#[]⟩,vs ⟨#[]⟩,vs ⟨#[]⟩,vb false]],.v (.slice none 0 0)]),(33,.tok 9 4)],hfree⟩ (Yi ⟨Z2,Z2,Fh,Tv⟩ ?_)
 refine Xi ⟨[(1,.v (.func (.func 24) #[] #[])),(2,.ref 2 0),(3,.slice (.id 36 2) [[vi 0,vi 1000000]])],[(2,.cells [.slice (.id 33 9) [[vs ⟨#[97,47,118,49]⟩,vi 1,vi 0,vi 0,.slice .none [[vs ⟨#[98,47,118,49]⟩,.slice .none [[vi 0,vi 1]]]],vs ⟨#[]⟩,vs ⟨#[]⟩,vs ⟨#[]⟩,vb false],[vs ⟨#[97,47,118,49]⟩,vi 1,vi 1,vi 0,.slice .none [[vs ⟨#[98,47,118,49]⟩,.slice .none [[vi 1000,vi 1000000]]]],vs ⟨#[]⟩,vs ⟨#[]⟩,vs ⟨#[]⟩,vb false],[vs ⟨#[98,47,118,49]⟩,vi 1,vi 0,vi 0,.v (.slice none 0 0),vs ⟨#[]⟩,vs ⟨#[]⟩,vs ⟨#[]⟩,vb false],[vs ⟨#[98,47,118,49]⟩,vi 1,vi 1,vi 0,.v (.slice none 0 0),vs ⟨#[]⟩,vs ⟨#[]⟩,vs ⟨#[]⟩,vb false]],.v (.slice none 0 0)]),(33,.tok 9 4),(36,.tok 2 1)],hfree⟩ (Yi ⟨Z3,Z3,Fh,Tv⟩ ?_)
 refine Xi ⟨[(1,.v (.func (.func 24) #[] #[])),(2,.ref 2 0),(3,.slice (.id 36 2) [[vi 0,vi 1000000]]),(4,.slice (.id 42 2) [[vs ⟨#[97,47,118,49]⟩,.slice .none [[vi 0,vi 1000000]]],[vs ⟨#[98,47,118,49]⟩,.slice .none [[vi 1000,vi 1000000]]]])],[(2,.cells [.slice (.id 33 9) [[vs ⟨#[97,47,118,49]⟩,vi 1,vi 0,vi 0,.slice .none [[vs ⟨#[98,47,118,49]⟩,.slice .none [[vi 0,vi 1]]]],vs ⟨#[]⟩,vs ⟨#[]⟩,vs ⟨#[]⟩,vb false],[vs ⟨#[97,47,118,49]⟩,vi 1,vi 1,vi 0,.slice .none [[vs ⟨#[98,47,118,49]⟩,.slice .none [[vi 1000,vi 1000000]]]],vs ⟨#[]⟩,vs ⟨#[]⟩,vs ⟨#[]⟩,vb false],[vs ⟨#[98,47,118,49]⟩,vi 1,vi 0,vi 0,.v (.slice none 0 0),vs ⟨#[]⟩,vs ⟨#[]⟩,vs ⟨#[]⟩,vb false],[vs ⟨#[98,47,118,49]⟩,vi 1,vi 1,vi 0,.v (.slice none 0 0),vs ⟨#[]⟩,vs ⟨#[]⟩,vs ⟨#[]⟩,vb false]],.v (.slice none 0 0)]),(33,.tok 9 4),(36,.tok 2 1),(42,.tok 2 2)],hfree⟩ (Yi ⟨Z4,Z4,Fh,Tv⟩ ?_)
 refine Yi (Nz rfl) ?_;refine Xi .pure (Xi _ (Yi h21 ?_));refine Yi (Nz rfl) ?_;refine Xi ⟨[(1,.v (.func (.func 24) #[] #[])),(2,.ref 2 0),(3,.slice (.id 36 2) [[vi 0,vi 1000000]]),(4,.slice (.id 42 2) [[vs ⟨#[97,47,118,49]⟩,.slice .none [[vi 0,vi 1000000]]],[vs ⟨#[98,47,118,49]⟩,.slice .none [[vi 1000,vi 1000000]]]]),(5,.ref 5 0),(6,vi 0)],[(2,.cells [.slice (.id 33 9) [[vs ⟨#[97,47,118,49]⟩,vi 1,vi 0,vi 0,.slice .none [[vs ⟨#[98,47,118,49]⟩,.slice .none [[vi 0,vi 1]]]],vs ⟨#[]⟩,vs ⟨#[]⟩,vs ⟨#[]⟩,vb false],[vs ⟨#[97,47,118,49]⟩,vi 1,vi 1,vi 0,.slice .none [[vs ⟨#[98,47,118,49]⟩,.slice .none [[vi 1000,vi 1000000]]]],vs ⟨#[]⟩,vs ⟨#[]⟩,vs ⟨#[]⟩,vb false],[vs ⟨#[98,47,118,49]⟩,vi 1,vi 0,vi 0,.v (.slice none 0 0),vs ⟨#[]⟩,vs ⟨#[]⟩,vs ⟨#[]⟩,vb false],[vs ⟨#[98,47,118,49]⟩,vi 1,vi 1,vi 0,.v (.slice none 0 0),vs ⟨#[]⟩,vs ⟨#[]⟩,vs ⟨#[]⟩,vb false]],.v (.slice none 0 0)]),(5,.cells [vb true,sl encSl sl37,sl encNf F,sl encSk K]),(33,.tok 9 4),(36,.tok 2 1),(42,.tok 2 2)],hfree⟩ (Yi ⟨Z6,Z5,Fh,Tv⟩ ?_)
 refine Yi (Nz rfl) ?_;refine Yi ⟨Int.le_refl _,by decide,by decide⟩ (Yi (List.forall_mem_cons.2 ⟨rfl,List.forall_mem_cons.2 ⟨rfl,List.forall_mem_nil _⟩⟩) ?_);refine Xi _ (Yi h10 ?_);refine Yi (by kernel_rfl) ?_;refine Xi ⟨[(1,.v (.func (.func 24) #[] #[])),(2,.ref 2 0),(3,.slice (.id 36 2) [[vi 0,vi 1000000]]),(4,.slice (.id 42 2) [[vs ⟨#[97,47,118,49]⟩,.slice .none [[vi 0,vi 1000000]]],[vs ⟨#[98,47,118,49]⟩,.slice .none [[vi 1000,vi 1000000]]]]),(5,.ref 5 0),(6,vi 0),(7,sl encLs L),(8,vi 0)],[(2,.cells [.slice (.id 33 9) [[vs ⟨#[97,47,118,49]⟩,vi 1,vi 0,vi 0,.slice .none [[vs ⟨#[98,47,118,49]⟩,.slice .none [[vi 0,vi 1]]]],vs ⟨#[]⟩,vs ⟨#[]⟩,vs ⟨#[]⟩,vb false],[vs ⟨#[97,47,118,49]⟩,vi 1,vi 1,vi 0,.slice .none [[vs ⟨#[98,47,118,49]⟩,.slice .none [[vi 1000,vi 1000000]]]],vs ⟨#[]⟩,vs ⟨#[]⟩,vs ⟨#[]⟩,vb false],[vs ⟨#[98,47,118,49]⟩,vi 1,vi 0,vi 0,.v (.slice none 0 0),vs ⟨#[]⟩,vs ⟨#[]⟩,vs ⟨#[]⟩,vb false],[vs ⟨#[98,47,118,49]⟩,vi 1,vi 1,vi 0,.v (.slice none 0 0),vs ⟨#[]⟩,vs ⟨#[]⟩,vs ⟨#[]⟩,vb false]],.v (.slice none 0 0)]),(5,.cells [vb true,sl encSl sl37,sl encNf F,sl encSk K]),(33,.tok 9 4),(36,.tok 2 1),(42,.tok 2 2)],hfree⟩ (Yi ⟨Z8,Z5,Fh,Tv⟩ ?_)
 refine Yi (Nz rfl) ?_;refine Xi .pure (Xi _ (Yi h16 ?_));refine Xi ⟨[(1,.v (.func (.func 24) #[] #[])),(2,.ref 2 0),(3,.slice (.id 36 2) [[vi 0,vi 1000000]]),(4,.slice (.id 42 2) [[vs ⟨#[97,47,118,49]⟩,.slice .none [[vi 0,vi 1000000]]],[vs ⟨#[98,47,118,49]⟩,.slice .none [[vi 1000,vi 1000000]]]]),(5,.ref 5 0),(6,vi 0),(7,sl encLs L),(8,vi 0),(9,sl encSl sl37),(10,vi 0)],[(2,.cells [.slice (.id 33 9) [[vs ⟨#[97,47,118,49]⟩,vi 1,vi 0,vi 0,.slice .none [[vs ⟨#[98,47,118,49]⟩,.slice .none [[vi 0,vi 1]]]],vs ⟨#[]⟩,vs ⟨#[]⟩,vs ⟨#[]⟩,vb false],[vs ⟨#[97,47,118,49]⟩,vi 1,vi 1,vi 0,.slice .none [[vs ⟨#[98,47,118,49]⟩,.slice .none [[vi 1000,vi 1000000]]]],vs ⟨#[]⟩,vs ⟨#[]⟩,vs ⟨#[]⟩,vb false],[vs ⟨#[98,47,118,49]⟩,vi 1,vi 0,vi 0,.v (.slice none 0 0),vs ⟨#[]⟩,vs ⟨#[]⟩,vs ⟨#[]⟩,vb false],[vs ⟨#[98,47,118,49]⟩,vi 1,vi 1,vi 0,.v (.slice none 0 0),vs ⟨#[]⟩,vs ⟨#[]⟩,vs ⟨#[]⟩,vb false]],.v (.slice none 0 0)]),(5,.cells [vb true,sl encSl sl37,sl encNf F,sl encSk K]),(33,.tok 9 4),(36,.tok 2 1),(42,.tok 2 2)],hfree⟩ (Yi ⟨Z10,Z5,Fh,Tv⟩ ?_)
 refine Yi (Nz rfl) ?_;refine Xi _ (Xi _ (Yi (by kernel_rfl) (Yi (c76t [q37a,q37b] (by decide)) ?_)));have b1:AllLen 2 [[vs ⟨#[99,47,118,49]⟩,.slice .none [[vi 0,vi 1000000]]]]∧([q37a,q37b].map encRq).length=([q37a,q37b].map encRq).length∧(([q37a,q37b].map encRq).length+([[vs ⟨#[99,47,118,49]⟩,.slice .none [[vi 0,vi 1000000]]]]:List (List AV)).length)*40≤140737488355328∧([q37a,q37b].map encRq).length+([[vs ⟨#[99,47,118,49]⟩,.slice .none [[vi 0,vi 1000000]]]]:List (List AV)).length≤9223372036854775807:=⟨⟨rfl,trivial⟩,rfl,(by simp only [Lm,List.length_cons,List.length_nil]; omega),(by simp only [Lm,List.length_cons,List.length_nil]; omega)⟩;refine Yi b1 ?_;refine Xi _ (Yi h13 ?_);refine Yi (by kernel_rfl) ?_;refine Xi ⟨[(1,.v (.func (.func 24) #[] #[])),(5,.ref 5 0),(6,vi 0),(7,sl encLs L),(8,vi 0),(9,sl encSl sl37),(10,vi 0),(11,sl encI [2]),(12,vi 0)],[(5,.cells [vb true,sl encSl sl37,sl encNf F,sl encSk K])],hfree⟩ (Yi ⟨Z9,Z1,Fh,Tv⟩ ?_)
 refine Yi (fun _=>?_) (fun h=>absurd (by decide) h);refine Yi (fun _=>?_) (fun h=>absurd h (by decide));refine Yi (fun h2=>?_) (fun h2=>?_)
 ·have h2:((K.map encSk).length:Int)=(1:Int):=h2;refine Xi _ (Yi h18 ?_);refine Yi (fun _=>?_) (fun h=>absurd (by decide) h);refine Yi (fun h3=>?_) (fun h3=>?_)
  ·have h3:((L.map encLs).length:Int)=(2:Int):=h3;refine Yi (fun _=>?_) (fun h=>absurd (by decide) h);refine Yi (fun h4=>?_) (fun h4=>?_)
   ·have h4:((sl37.map encSl).length:Int)=(2:Int):=h4;refine Xi (encSl (⟨pa,v37 1⟩ : Sl)) (Yi ⟨by decide,rfl⟩ (Yi rfl ?_));refine Yi (Nz rfl) ?_;refine Xi _ (Yi (s24 1) ?_);refine Yi (fun h5=>?_) (fun h5=>?_)
    ·have h5:((⟨pa,v37 1⟩ : Sl).ver.a:Int)=1∧((⟨pa,v37 1⟩ : Sl).ver.b:Int)=1∧((⟨pa,v37 1⟩ : Sl).ver.c:Int)=0∧True:=h5;refine Yi (fun _=>?_) (fun h=>absurd (by decide) h);refine Xi _ (Yi h15 ?_);refine Yi (by kernel_rfl) ?_;exact .refl _
    have h5:¬ (((⟨pa,v37 1⟩ : Sl).ver.a:Int)=1∧((⟨pa,v37 1⟩ : Sl).ver.b:Int)=1∧((⟨pa,v37 1⟩ : Sl).ver.c:Int)=0∧True):=h5;refine Yi (by kernel_rfl) ?_;exact absurd (⟨rfl,rfl,rfl,trivial⟩) h5
   have h4:¬ (((sl37.map encSl).length:Int)=(2:Int)):=h4;refine Yi (by kernel_rfl) ?_;exact absurd rfl h4
  have h3:¬ (((L.map encLs).length:Int)=(2:Int)):=h3;refine Yi (by kernel_rfl) ?_;exact absurd hLi h3
 have h2:¬ (((K.map encSk).length:Int)=(1:Int)):=h2;refine Yi (by kernel_rfl) ?_;exact absurd hKi h2
end Go.Eng

namespace Go.Proofs
open Go.Shelf
def Tryz.layGrow_ren:Go.Shelf.Ren:=⟨fun | 4=>39 | n=>n,fun | 22=>26 | 25=>45 | 3=>3 | 4=>4 | 9=>9 | 20=>20 | 0=>0 | n=>n,fun | n=>n⟩
theorem Tryz.layGrow:Go.Proofs.Lays8.n4 Tryz.prog Tryz.layGrow_ren:={
 mixed:=by kernel_rfl
 f4:=⟨Tryz.f39.name,by decide,Tryz.func39.trans (congrArg some (by kernel_rfl))⟩
 t0:=Tryz.underlying0
 a0:=Tryz.isAgg0
 z0:=Tryz.sizeOf0
 v0:=Tryz.zeroValue0
 t3:=Tryz.underlying3
 a3:=Tryz.isAgg3
 z3:=Tryz.sizeOf3
 v3:=Tryz.zeroValue3
 t4:=Tryz.underlying4
 a4:=Tryz.isAgg4
 z4:=Tryz.sizeOf4
 v4:=Tryz.zeroValue4
 t9:=Tryz.underlying9
 a9:=Tryz.isAgg9
 z9:=Tryz.sizeOf9
 v9:=Tryz.zeroValue9
 t20:=Tryz.underlying20
 a20:=Tryz.isAgg20
 z20:=Tryz.sizeOf20
 v20:=Tryz.zeroValue20
 t22:=Tryz.underlying26
 a22:=Tryz.isAgg26
 z22:=Tryz.sizeOf26
 v22:=Tryz.zeroValue26 }
end Go.Proofs
