/- Lemmas for the claims of this seat, without a condition: part 21 (C65, C66, C67, C68, C69, C56, C57, C58, C59, C70, C71, C72, C73, J1, J2, S15, S17). -/
import Derived.Test.YtkmnnpmneamgoaaGreatDoorA20
import Derived.Test.YtkmnnpmneamgoaaGreatDoorA03
import Derived.Test.YtkmnnpmneamgoaaGreatDoorCards
import Derived.Test.YtkmnnpmneamgoaaGreatDoorTie
import Derived.ProofKit
import Derived.OpenShut
import Derived.Deep.DeepHandedRow
import Derived.Lib.LaidTab
namespace Go.Eng
open Go.Proofs
theorem pathsIx_snoc:∀ (y:List Rl) (acc:List ByteArray) (r:Rl),pathsIx (y++[r]) acc=if (pathsIx y acc).any (fun p=>decide (p=r.path)) then pathsIx y acc else pathsIx y acc++[r.path]
 | [],acc,r=>rfl
 | s :: y,acc,r=>by rw [List.cons_append,pathsIx,pathsIx,pathsIx_snoc y]
theorem pathsIx_nodup:∀ (y:List Rl) (acc:List ByteArray),acc.Nodup→(pathsIx y acc).Nodup
 | [],_,h=>h
 | s :: y,acc,h=>by
  rw [pathsIx];refine pathsIx_nodup y _ ?_;split
  ·exact h
  ·rename_i hn;rw [List.nodup_append];refine ⟨h,by simp,fun a ha b hb e=>?_⟩;rw [List.mem_singleton] at hb;exact hn (any_path.2 (by rw [← hb,← e]; exact ha))
abbrev ofP (y:List Rl) (p:ByteArray):List (List AV):=(y.filter fun r=>decide (r.path=p)).map encRl
abbrev grpE (y:List Rl) (q:ByteArray × Nat):Value × AV:=(.string q.1,.slice (.id (q.2+50) 9) (ofP y q.1))
abbrev grp (y:List Rl):List (Value × AV):=(pathsIx y []).zipIdx.map (grpE y)
def tokG (y:List Rl) (l:Nat):HO:=match (pathsIx y [])[l]? with
 | some q=>.tok 9 (ofP y q).length
 | none=>.free
def hbG (y:List Rl) (j:Nat):HO:=bif Nat.ble 50 j then tokG y (j - 50) else .free
theorem hbG_at (y:List Rl) (l:Nat):hbG y (l+50)=tokG y l:=by
 unfold hbG;rw [show Nat.ble 50 (l+50)=true by rw [Nat.ble_eq]; omega,Nat.add_sub_cancel]; rfl
theorem hbG_lt (y:List Rl) {j:Nat} (h:j<50):hbG y j=.free:=by
 unfold hbG;rw [show Nat.ble 50 j=false by rw [Bool.eq_false_iff]; intro hc; rw [Nat.ble_eq] at hc; omega]; rfl
theorem ofP_snoc (y:List Rl) (r:Rl) (q:ByteArray):ofP (y++[r]) q=if r.path=q then ofP y q++[encRl r] else ofP y q:=by
 unfold ofP;rw [List.filter_append]
 by_cases h:r.path=q
 ·rw [if_pos h,List.filter_cons_of_pos (by simpa using h)]; simp
 ·rw [if_neg h,List.filter_cons_of_neg (by simpa using h)]; simp
theorem zip_get {l:List ByteArray} {q:ByteArray × Nat} (h:q ∈ l.zipIdx):l[q.2]?=some q.1:=by
 obtain ⟨a,b⟩:=q;exact List.mem_zipIdx_iff_getElem?.1 h
open Classical in
theorem mput_app {kvs:List (Value × AV)} {k:Value} {a:AV} (h:∀ a',(k,a') ∉ kvs):mput kvs k a=kvs++[(k,a)]:=by
 unfold mput;rw [if_neg (fun ⟨a',h'⟩=>h a' h')]
open Classical in
theorem mput_map {kvs:List (Value × AV)} {k:Value} {a a' : AV} (h:(k,a') ∈ kvs):mput kvs k a=kvs.map fun p=>if p.1=k then (k,a) else p:=by
 unfold mput;rw [if_pos ⟨a',h⟩]
section
variable {y:List Rl} {r:Rl} {k:Nat}
theorem paths_old (h:(pathsIx y [])[k]?=some r.path):pathsIx (y++[r]) []=pathsIx y []:=by
 rw [pathsIx_snoc,if_pos (any_path.2 (List.mem_of_getElem? h))]
theorem paths_new (h:r.path ∉ pathsIx y []):pathsIx (y++[r]) []=pathsIx y []++[r.path]:=by
 rw [pathsIx_snoc,if_neg (fun hc=>h (any_path.1 hc))]
theorem nodup_get {l:List ByteArray} (hd:l.Nodup) {i j:Nat} {p:ByteArray} (h1:l[i]?=some p) (h2:l[j]?=some p):i=j:=by
 obtain ⟨a1,a2⟩:=List.getElem?_eq_some_iff.1 h1;obtain ⟨b1,b2⟩:=List.getElem?_eq_some_iff.1 h2;exact (List.getElem_inj hd).1 (a2.trans b2.symm)
open Classical in
theorem grp_old (h:(pathsIx y [])[k]?=some r.path):mput (grp y) (.string r.path) (.slice (.id (k+50) 9) (ofP y r.path++[encRl r]))=grp (y++[r]):=by
 have hd:=pathsIx_nodup y [] List.nodup_nil;have hm:grpE y (r.path,k) ∈ grp y:=List.mem_map.2 ⟨_,List.mem_zipIdx_iff_getElem?.2 h,rfl⟩;rw [mput_map (a':=.slice (.id (k+50) 9) (ofP y r.path)) hm];unfold grp;rw [paths_old h,List.map_map];refine List.map_congr_left fun q hq=>?_;have hg:=zip_get hq;obtain ⟨q,j⟩:=q;show (if Value.string q=Value.string r.path then _ else _)=grpE (y++[r]) (q,j);have hg:(pathsIx y [])[j]?=some q:=hg
 by_cases he:q=r.path
 ·subst he
  have:j=k:=nodup_get hd hg h
  subst this;rw [if_pos rfl];show _=(Value.string r.path,AV.slice (.id (j+50) 9) (ofP (y++[r]) r.path));rw [ofP_snoc,if_pos rfl]
 ·rw [if_neg (fun e=>he (by simpa using e))];show (Value.string q,AV.slice (.id (j+50) 9) (ofP y q))=(Value.string q,AV.slice (.id (j+50) 9) (ofP (y++[r]) q));rw [ofP_snoc,if_neg (fun e=>he e.symm)]
theorem ofP_new (h:r.path ∉ pathsIx y []):ofP y r.path=[]:=by
 have:y.filter (fun s=>decide (s.path=r.path))=[]:=by
  rw [List.filter_eq_nil_iff];intro s hs he;exact h ((pathsIx_mem y [] r.path).2 (.inr ⟨s,hs,of_decide_eq_true he⟩))
 unfold ofP;rw [this]; rfl
theorem grp_none (h:r.path ∉ pathsIx y []) (a:AV):(Value.string r.path,a) ∉ grp y:=by
 intro hc;obtain ⟨q,h1,h2⟩:=List.mem_map.1 hc;simp only [grpE,Prod.mk.injEq,Value.string.injEq] at h2;exact h (by rw [← h2.1]; exact List.mem_of_getElem? (zip_get h1))
theorem grp_new (h:r.path ∉ pathsIx y []):mput (grp y) (.string r.path) (.slice (.id ((pathsIx y []).length+50) 9) [encRl r])=grp (y++[r]):=by
 rw [mput_app (fun a=>grp_none h a)];unfold grp;rw [paths_new h,List.zipIdx_append,List.map_append]
 congr 1
 ·refine List.map_congr_left fun q hq=>?_;have hg:=zip_get hq
  have:q.1≠r.path:=fun e=>h (by rw [← e]; exact List.mem_of_getElem? hg)
  show (Value.string q.1,AV.slice (.id (q.2+50) 9) (ofP y q.1))=(Value.string q.1,AV.slice (.id (q.2+50) 9) (ofP (y++[r]) q.1));rw [ofP_snoc,if_neg (fun e=>this e.symm)]
 ·show [_]=[(Value.string r.path,AV.slice (.id (0+(pathsIx y []).length+50) 9) (ofP (y++[r]) r.path))];rw [ofP_snoc,if_pos rfl,ofP_new h,Nat.zero_add]; rfl
theorem grp_uniq {p:ByteArray} {j:Nat} (h:(pathsIx y [])[j]?=some p):(Value.string p,AV.slice (.id (j+50) 9) (ofP y p)) ∈ grp y∧∀ b,(Value.string p,b) ∈ grp y→b=AV.slice (.id (j+50) 9) (ofP y p):=by
 refine ⟨List.mem_map.2 ⟨(p,j),List.mem_zipIdx_iff_getElem?.2 h,rfl⟩,fun b hb=>?_⟩;obtain ⟨q,h1,h2⟩:=List.mem_map.1 hb;simp only [grpE,Prod.mk.injEq,Value.string.injEq] at h2;have hg:=zip_get h1;rw [h2.1] at hg
 have:=nodup_get (pathsIx_nodup y [] List.nodup_nil) hg h
 rw [← h2.2,h2.1,this]
theorem tok_at {p:ByteArray} {j:Nat} (h:(pathsIx y [])[j]?=some p):tokG y j=.tok 9 (ofP y p).length:=by
 unfold tokG; rw [h]
theorem tok_old (h:(pathsIx y [])[k]?=some r.path) (l:Nat):(bif Nat.beq (l+50) (k+50) then HO.tok 9 ((ofP y r.path).length+1) else tokG y l)=tokG (y++[r]) l:=by
 by_cases he:l=k
 ·subst he;rw [show Nat.beq (l+50) (l+50)=true from Nat.beq_refl _];unfold tokG;rw [paths_old h,h];show HO.tok 9 _=HO.tok 9 (ofP (y++[r]) r.path).length;rw [ofP_snoc,if_pos rfl,List.length_append]; rfl
 ·rw [show Nat.beq (l+50) (k+50)=false by rw [Bool.eq_false_iff]; intro hc; have:=Nat.eq_of_beq_eq_true hc; omega];show tokG y l=_;unfold tokG;rw [paths_old h];cases hq:(pathsIx y [])[l]? with
  | none=>rfl
  | some q =>
   show HO.tok 9 (ofP y q).length=HO.tok 9 (ofP (y++[r]) q).length;rw [ofP_snoc,if_neg];intro e;subst e;exact he (nodup_get (pathsIx_nodup y [] List.nodup_nil) hq h)
theorem tok_new (h:r.path ∉ pathsIx y []) (l:Nat):(bif Nat.beq (l+50) ((pathsIx y []).length+50) then HO.tok 9 1 else tokG y l)=tokG (y++[r]) l:=by
 by_cases he:l=(pathsIx y []).length
 ·subst he;rw [show Nat.beq ((pathsIx y []).length+50) ((pathsIx y []).length+50)=true from Nat.beq_refl _];unfold tokG;rw [paths_new h];simp only [List.getElem?_append_right (Nat.le_refl _),Nat.sub_self,List.getElem?_cons_zero];show HO.tok 9 1=HO.tok 9 (ofP (y++[r]) r.path).length;rw [ofP_snoc,if_pos rfl,ofP_new h]; rfl
 ·rw [show Nat.beq (l+50) ((pathsIx y []).length+50)=false by rw [Bool.eq_false_iff]; intro hc; have:=Nat.eq_of_beq_eq_true hc; omega];show tokG y l=_;unfold tokG;rw [paths_new h]
  by_cases hl:l<(pathsIx y []).length
  ·rw [List.getElem?_append_left hl,Ge hl];show HO.tok 9 (ofP y (pathsIx y [])[l]).length=HO.tok 9 (ofP (y++[r]) (pathsIx y [])[l]).length;rw [ofP_snoc,if_neg];intro e;exact h (by rw [e]; exact List.getElem_mem hl)
  ·rw [List.getElem?_eq_none (by omega),List.getElem?_eq_none (by rw [List.length_append]; simp; omega)]
end
theorem idsKV_all {h:Nat→HO} : ∀ {kvs:List (Value × AV)},(∀ p ∈ kvs,idsB h p.2=true)→idsKV h kvs=true
 | [],_=>rfl
 | p :: r,hk=>by
  unfold idsKV;rw [hk p (List.mem_cons_self ..)];exact idsKV_all (fun q hq=>hk q (List.mem_cons_of_mem _ hq))
theorem grp_ids (y:List Rl) {h:Nat→HO} (hh:∀ l,h (l+50)=tokG y l):idsKV h (grp y)=true:=by
 refine idsKV_all fun p hp=>?_;obtain ⟨q,h1,rfl⟩:=List.mem_map.1 hp;show idIn h (q.2+50)=true;unfold idIn;rw [hh,tok_at (zip_get h1)]
theorem hbG_step {y:List Rl} {h h' : Nat→HO} (hh:∀ l,h (l+50)=tokG y l) (j:Nat):hbG y j=.free∨(h j=hbG y j∧idsH h' (hbG y j)=true):=by
 by_cases hj:j<50
 ·exact .inl (hbG_lt y hj)
 ·obtain ⟨l,rfl⟩ : ∃ l,j=l+50:=⟨j - 50,by omega⟩
  right
  rw [hbG_at];refine ⟨hh l,?_⟩;unfold tokG;cases (pathsIx y [])[l]? <;> rfl
theorem rel_new {x:List Rl} (hx:checkIx x=0) {i:Nat} (hi:i<x.length):mput ((x.take i).map kvR) (keyVl (keyR x[i])) (.agg (encRl x[i]))=(x.take (i+1)).map kvR:=by
 rw [mput_app]
 ·rw [List.take_add_one,Ge hi,List.map_append]; rfl
 intro a ha;obtain ⟨r,hr,he,_⟩:=kvR_mem ha;obtain ⟨j,hj,e2⟩:=List.mem_iff_getElem.1 hr;rw [List.length_take] at hj;rw [List.getElem_take] at e2;have hp:=(checkIx_ok hx).2
 have:=(List.pairwise_iff_getElem.1 hp) j i (by omega) hi (by omega)
 rw [e2] at this;exact ltR_irrefl this he
abbrev pl84:Pol:=⟨[],[],[],[],[8,9],[9],[40],[],[],[],[8,9,10,11]⟩
abbrev zT:List AV:=[.v (.map none),.v (.map none)]
theorem c84_bad (x:List Rl) (ifs:List (List AV)) (h64:PC 59 [ixV x ifs] (vi (checkIx x))) (h0:checkIx x≠0):H84 x ifs:=by
 have ht:tblV x=.tup [.agg [.cmap shK [],.cmap shS []],vi (checkIx x)]:=by unfold tblV; rw [if_neg h0]
 unfold H84;rw [ht];refine Ps pl84 Tryz.func95 rfl (Nz rfl) ?_;refine Xi 0 ?_;refine Xi 0 ?_;refine Yi (Nz rfl) ?_;refine Xi 0 ?_;refine Yi (Nz rfl) ?_;refine Xi .pure (Xi _ (Yi (h64) ?_));refine Xi 0 ?_;refine Yi ?_ ?_
 ·intro _;refine Xi 0 ?_;refine Yi (Nz rfl) ?_;refine Yi (Nz rfl) ?_;refine Yi (Nz rfl) ?_;exact .refl _
 ·intro h;exact absurd h (fun hc=>hc h0)
theorem pathsIx_len:∀ (y:List Rl) (acc:List ByteArray),(pathsIx y acc).length≤acc.length+y.length
 | [],acc=>by simp [pathsIx]
 | r :: y,acc=>by
  rw [pathsIx];refine Nat.le_trans (pathsIx_len y _) ?_;split
  ·simp only [List.length_cons]; omega
  ·simp only [List.length_append,List.length_cons,List.length_nil]; omega
section
attribute [local irreducible] appendK
theorem c84_ok (x:List Rl) (ifs:List (List AV)) (h64:PC 59 [ixV x ifs] (vi (checkIx x))) (h0:checkIx x=0) (hlen:x.length≤256):H84 x ifs:=by
 have ht:tblV x=.tup [.agg [.cmap shK (x.map kvR),.cmap shS ((pathsIx x []).map (kvP x))],vi 0]:=by unfold tblV; rw [if_pos h0]
 unfold H84;rw [ht];rw [h0] at h64;refine Ps pl84 Tryz.func95 rfl (Nz rfl) ?_;refine Xi 0 ?_;refine Xi 0 ?_;refine Yi (Nz rfl) ?_;refine Xi 0 ?_;refine Yi (Nz rfl) ?_;refine Xi .pure (Xi _ (Yi (h64) ?_));refine Xi 0 ?_;refine Yi ?_ ?_
 ·intro hc;exact absurd (show (0:Int)≠0 from hc) (by decide)
 intro _;refine Xi 0 ?_;refine Xi {i:Nat // i≤x.length} (Xi (fun i=>⟨[(2,.ref 2 0),(4,.ref 4 0),(18,sl encRl x),(19,vi (x.map encRl).length),(20,vi i.1)],[(2,.cells zT),(4,.cells [.mref 8,.mref 9]),(8,.map shK ((x.take i.1).map kvR)),(9,.mapU shS (grp (x.take i.1)))],hbG (x.take i.1)⟩) (Xi (fun i=>x.length - i.1) (Yi (Xi ⟨0,Nat.zero_le _⟩ ?_) ?_)))
 ·refine ⟨Z5,Z4,fun j=>.inl ?_,Tv⟩;show hbG [] j=.free;unfold hbG;cases Nat.ble 50 j <;> rfl
 intro ⟨i,i1⟩;have i1:i≤x.length:=i1;refine Xi 0 ?_;refine Yi ?_ ?_
 ·intro h;have h:(i:Int)<(x.map encRl).length:=h;have h:i<x.length:=by simpa using h
  have hg:x[i]?=some x[i]:=Ge h;have htake:x.take (i+1)=x.take i++[x[i]]:=by rw [List.take_add_one,hg]; rfl
  refine Xi 0 ?_;refine Xi (encRl x[i]) (Yi (Yi (Nn i) (by simp [hg])) (Yi rfl ?_));refine Yi (Nz rfl) (Yi (Nz rfl) ?_);refine Xi ⟨[(2,.ref 2 0),(4,.ref 4 0),(7,.ref 7 0),(18,sl encRl x),(19,vi (x.map encRl).length),(20,vi i)],[(2,.cells zT),(4,.cells [.mref 8,.mref 9]),(7,.cells (encRl x[i])),(8,.map shK ((x.take i).map kvR)),(9,.mapU shS (grp (x.take i)))],hbG (x.take i)⟩ (Yi ?_ ?_)
  ·exact ⟨Z6,⟨Zr,Zr,Zr,Zr,⟨rfl,grp_ids _ (hbG_at _)⟩,Tv⟩,hbG_step (hbG_at _),Tv⟩
  refine Xi 0 ?_;refine Yi (Nz rfl) ?_;refine Xi _ (Yi (c108 x[i]) ?_);refine Yi (Nz rfl) ?_;refine Yi (by kernel_rfl) ?_;have e8:mput ((x.take i).map kvR) (keyVl (keyR x[i])) (.agg (encRl x[i]))=(x.take (i+1)).map kvR:=rel_new h0 h;refine Xi ⟨[(2,.ref 2 0),(4,.ref 4 0),(7,.ref 7 0),(18,sl encRl x),(19,vi (x.map encRl).length),(20,vi i)],[(2,.cells zT),(4,.cells [.mref 8,.mref 9]),(7,.cells (encRl x[i])),(8,.map shK ((x.take (i+1)).map kvR)),(9,.mapU shS (grp (x.take i)))],hbG (x.take i)⟩ (Yi ?_ ?_)
  ·exact ⟨Z6,⟨Zr,Zr,Zr,⟨congrArg (HO.map shK) e8,rfl⟩,⟨rfl,grp_ids _ (hbG_at _)⟩,Tv⟩,hbG_step (hbG_at _),Tv⟩
  have hL:((x.take i).filter (fun r=>decide (r.path=x[i].path))).length≤256:=by
   have:=List.length_filter_le (fun r:Rl=>decide (r.path=x[i].path)) (x.take i)
   rw [List.length_take] at this; omega
  have hP:∀ l,hbG (x.take i) (l+50)=tokG (x.take i) l:=hbG_at _;refine Or.elim (Classical.em (x[i].path ∈ pathsIx (x.take i) [])) (fun hp=>?_) (fun hp=>?_)
  ·refine Exists.elim (List.mem_iff_getElem?.1 hp) (fun k hk=>?_);have hu:=grp_uniq hk;refine Xi 0 ?_;refine Or.inl (Xi (.slice (.id (k+50) 9) (ofP (x.take i) x[i].path)) (Yi hu ?_));refine Yi (Nz rfl) ?_;have hr:hbG (x.take i) (k+50)=.tok 9 (ofP (x.take i) x[i].path).length:=by rw [hP,tok_at hk]
   have hl:(ofP (x.take i) x[i].path).length≤256:=by rw [Lm]; exact hL
   refine appendK_tok (e:=67) (m:=8) (es2:=[encRl x[i]]) rfl rfl rfl (fun _ h=>h) hr ⟨rfl,trivial⟩ (by show (_+1)*120≤_; omega) (by show _+1≤_; omega) ?_;have hk256:k<256:=by
    have:=(List.getElem?_eq_some_iff.1 hk).1
    have:=pathsIx_len (x.take i) []
    rw [List.length_take] at this;simp only [List.length_nil] at this;omega
   have hp':=hk;refine Yi (drawOk_small ⟨smallF_none _,smallF_none _,smallF_none _,smallF_none _,smallF_none _,smallF_none _,smallF_none _,smallF_none _,smallF_none _,smallF_none _,smallF_some (show 39<10000000 by decide),smallF_some (by show _+50<10000000; omega),smallF_some (show 9<10000000 by decide),trivial⟩ (by kernel_rfl)) ?_;have e9:mput (grp (x.take i)) (.string x[i].path) (.slice (.id (k+50) 9) (ofP (x.take i) x[i].path++[encRl x[i]]))=grp (x.take (i+1)):=by rw [htake]; exact grp_old hp'
   have hG:∀ l,(bif Nat.beq (l+50) (k+50) then HO.tok 9 ((ofP (x.take i) x[i].path).length+1) else tokG (x.take i) l)=tokG (x.take (i+1)) l:=by rw [htake]; exact tok_old hp'
   refine Xi ⟨[(2,.ref 2 0),(4,.ref 4 0),(18,sl encRl x),(19,vi (x.map encRl).length),(20,vi i)],[(2,.cells zT),(4,.cells [.mref 8,.mref 9]),(8,.map shK ((x.take (i+1)).map kvR)),(9,.mapU shS (grp (x.take (i+1))))],hbG (x.take (i+1))⟩ (Yi ?_ ?_)
   ·refine ⟨Z5,⟨Zr,Zr,Zr,⟨congrArg (HO.mapU shS) e9,grp_ids _ (hbG_at _)⟩,Tv⟩,hbG_step (fun l=>?_),Tv⟩;show (bif Nat.beq (l+50) (k+50) then HO.tok 9 ((ofP (x.take i) x[i].path).length+1) else hbG (x.take i) (l+50))=_;rw [hP]; exact hG l
   refine Xi 0 ?_;refine Yi (Ii i (by omega)) ?_;refine Xi ⟨i+1,by omega⟩ ?_;exact ⟨Dl x.length i (by omega),Z5,⟨Zr,Zr,Zr,⟨rfl,grp_ids _ (hbG_at _)⟩,Tv⟩,hbG_step (hbG_at _),Tv⟩
  ·have hp':=hp;have hlen2:(pathsIx (x.take i) []).length≤256:=by
    have:=pathsIx_len (x.take i) []
    rw [List.length_take] at this;simp only [List.length_nil] at this;omega
   have hn:=grp_none hp;refine Xi ((pathsIx (x.take i) []).length+50) ?_;refine Or.inr (Yi hn ?_);refine Yi (Nz rfl) ?_;have hr:hbG (x.take i) ((pathsIx (x.take i) []).length+50)=.free:=by
    rw [hP]; unfold tokG; rw [List.getElem?_eq_none (Nat.le_refl _)]
   refine appendK_new (e:=67) (m:=8) (es2:=[encRl x[i]]) rfl rfl rfl (fun _ h=>h) hr rfl ⟨rfl,trivial⟩ (by show 1*120≤_; omega) (by show 1≤_; omega) ?_;refine Yi (drawOk_small ⟨smallF_none _,smallF_none _,smallF_none _,smallF_none _,smallF_none _,smallF_none _,smallF_none _,smallF_none _,smallF_none _,smallF_none _,smallF_some (show 39<10000000 by decide),smallF_some (by show _+50<10000000; omega),smallF_some (show 9<10000000 by decide),trivial⟩ (by kernel_rfl)) ?_;have e9:mput (grp (x.take i)) (.string x[i].path) (.slice (.id ((pathsIx (x.take i) []).length+50) 9) [encRl x[i]])=grp (x.take (i+1)):=by rw [htake]; exact grp_new hp'
   have hG:∀ l,(bif Nat.beq (l+50) ((pathsIx (x.take i) []).length+50) then HO.tok 9 1 else tokG (x.take i) l)=tokG (x.take (i+1)) l:=by rw [htake]; exact tok_new hp'
   refine Xi ⟨[(2,.ref 2 0),(4,.ref 4 0),(18,sl encRl x),(19,vi (x.map encRl).length),(20,vi i)],[(2,.cells zT),(4,.cells [.mref 8,.mref 9]),(8,.map shK ((x.take (i+1)).map kvR)),(9,.mapU shS (grp (x.take (i+1))))],hbG (x.take (i+1))⟩ (Yi ?_ ?_)
   ·refine ⟨Z5,⟨Zr,Zr,Zr,⟨congrArg (HO.mapU shS) e9,grp_ids _ (hbG_at _)⟩,Tv⟩,hbG_step (fun l=>?_),Tv⟩;show (bif Nat.beq (l+50) ((pathsIx (x.take i) []).length+50) then HO.tok 9 1 else hbG (x.take i) (l+50))=_;rw [hP]; exact hG l
   refine Xi 0 ?_;refine Yi (Ii i (by omega)) ?_;refine Xi ⟨i+1,by omega⟩ ?_;exact ⟨Dl x.length i (by omega),Z5,⟨Zr,Zr,Zr,⟨rfl,grp_ids _ (hbG_at _)⟩,Tv⟩,hbG_step (hbG_at _),Tv⟩
 ·intro h;have h:¬ (i:Int)<(x.map encRl).length:=h;have h:¬ i<x.length:=by simpa using h
  have et:x.take i=x:=List.take_of_length_le (by omega);refine Xi ⟨[(2,.ref 2 0),(4,.ref 4 0)],[(2,.cells zT),(4,.cells [.mref 8,.mref 9]),(8,.map shK ((x.take i).map kvR)),(9,.mapU shS (grp (x.take i)))],hbG (x.take i)⟩ (Yi ?_ ?_)
  ·exact ⟨Z2,⟨Zr,Zr,Zr,⟨rfl,grp_ids _ (hbG_at _)⟩,Tv⟩,hbG_step (hbG_at _),Tv⟩
  refine Xi 0 ?_;refine Yi (Nz rfl) ?_;refine Yi (Nz rfl) ?_;refine Yi (Nz rfl) ?_;have es:∀ h:Nat→HO,strM h (grp (x.take i))=(pathsIx x []).map (kvP x):=fun h=>by
   rw [et];unfold strM grp;rw [List.map_map];refine List.ext_getElem? fun j=>?_;rw [List.getElem?_map,List.getElem?_map,List.getElem?_zipIdx];cases (pathsIx x [])[j]? <;> rfl
  have e1:(x.take i).map kvR=x.map kvR:=by rw [et]
  exact .of_eq (show AV.tup [.agg [.cmap shK ((x.take i).map kvR),.cmap shS (strM _ (grp (x.take i)))],vi 0]=_ by rw [e1,es])
end
theorem c84 (x:List Rl) (ifs:List (List AV)) (hx:∀ r ∈ x,FewR r):H84 x ifs:=by
 by_cases h0:checkIx x=0
 ·exact c84_ok x ifs (c64 c155 x ifs hx) h0 (ix_few h0).1
 ·exact c84_bad x ifs (c64 c155 x ifs hx) h0
end Go.Eng

namespace Go.Eng
open Go.Proofs
abbrev plT (n:Nat):Pol:=⟨[],[(2,n)],[],[],[],[],[5],[],[],[],[2,3]⟩
theorem c76t (l:List Rq) (hl:Few l):ACall Tryz.prog 25 [sl encRq l] (heapOf [] hfree) fun r h'=>r=.slice (.id 2000 2) (l.map encRq)∧h'=heapOf [(2000,.tok 2 (l.map encRq).length)] hfree:=by
 refine acall_sub (cxe (plT 2)) [(2,2000)] rfl tab_ok hm rfl Tryz.func25 (by kernel_rfl) rfl (Nz rfl) (by kernel_rfl) rfl ?_;have bulk:AllLen 2 (l.map encRq)∧([]:List (List AV)).length=0∧(([]:List (List AV)).length+(l.map encRq).length)*40≤140737488355328∧([]:List (List AV)).length+(l.map encRq).length≤9223372036854775807:=by
  refine ⟨allLen_map (enc:=encRq) (n:=2) (fun _=>rfl) l,rfl,?_,?_⟩ <;> simp only [List.length_nil,Lm] <;> unfold Few at hl <;> omega
 have e2:HO.tok 2 (([]:List (List AV)).length+(l.map encRq).length)=.tok 2 (l.map encRq).length:=by rw [List.length_nil,Nat.zero_add]
 have e3:AV.slice (.id 2000 2) ([]++l.map encRq)=.slice (.id 2000 2) (l.map encRq):=rfl;have full:∀ st:St,(∃ s:LS,St.le (cxe (plT 2)) st s∧True)→True:=fun _ _=>trivial;refine Xi 0 ?_;refine Xi 0 ?_;refine Yi ?_ ?_
 ·intro _;refine Xi ⟨[(0,sl encRq l)],[],hfree⟩ (Yi ⟨Z1,Tv,Fh,ext_dec (by kernel_rfl)⟩ ?_)
  refine Xi 2 ?_;refine Yi bulk ?_;exact Xi _ (Yi (.refl _) (Yi e3 (congrArg (fun o=>heapOf [(2000,o)] hfree) e2)))
 ·intro h;have h:l.map encRq=[]:=h;refine Yi ?_ ?_
  ·refine Xi ⟨[],[],hfree⟩ (Yi ⟨trivial,trivial,fun _=>.inl rfl,ext_dec (by kernel_rfl)⟩ ?_)
   refine Xi 0 ?_;exact Xi _ (Yi (.refl _) (Yi (show AV.slice (.id 2000 2) []=_ by rw [h]) (show heapOf [(2000,HO.tok 2 0)] hfree=_ by rw [h]; rfl)))
  ·refine Xi ⟨[(0,sl encRq l)],[],hfree⟩ (Yi ⟨Z1,Tv,Fh,ext_dec (by kernel_rfl)⟩ ?_)
   refine Xi 2 ?_;refine Yi bulk ?_;exact Xi _ (Yi (.refl _) (Yi e3 (congrArg (fun o=>heapOf [(2000,o)] hfree) e2)))
end Go.Eng

namespace Go.Eng
open Go.Proofs
theorem c32t (l:List Sl) (hl:Few l):ACall Tryz.prog 46 [sl encSl l] (heapOf [] hfree) fun r h'=>r=.slice (.id 2000 4) (l.map encSl)∧h'=heapOf [(2000,.tok 4 (l.map encSl).length)] hfree:=by
 refine acall_sub (cxe (plT 4)) [(2,2000)] rfl tab_ok hm rfl Tryz.func46 (by kernel_rfl) rfl (Nz rfl) (by kernel_rfl) rfl ?_;have bulk:AllLen 4 (l.map encSl)∧([]:List (List AV)).length=0∧(([]:List (List AV)).length+(l.map encSl).length)*40≤140737488355328∧([]:List (List AV)).length+(l.map encSl).length≤9223372036854775807:=by
  refine ⟨allLen_map (enc:=encSl) (n:=4) (fun _=>rfl) l,rfl,?_,?_⟩ <;> simp only [List.length_nil,Lm] <;> unfold Few at hl <;> omega
 have e2:HO.tok 4 (([]:List (List AV)).length+(l.map encSl).length)=.tok 4 (l.map encSl).length:=by rw [List.length_nil,Nat.zero_add]
 have e3:AV.slice (.id 2000 4) ([]++l.map encSl)=.slice (.id 2000 4) (l.map encSl):=rfl;refine Xi 0 ?_;refine Xi 0 ?_;refine Yi ?_ ?_
 ·intro _;refine Xi ⟨[(0,sl encSl l)],[],hfree⟩ (Yi ⟨Z1,Tv,Fh,ext_dec (by kernel_rfl)⟩ ?_)
  refine Xi 2 ?_;refine Yi bulk ?_;exact Xi _ (Yi (.refl _) (Yi e3 (congrArg (fun o=>heapOf [(2000,o)] hfree) e2)))
 ·intro h;have h:l.map encSl=[]:=h;refine Yi ?_ ?_
  ·refine Xi ⟨[],[],hfree⟩ (Yi ⟨trivial,trivial,fun _=>.inl rfl,ext_dec (by kernel_rfl)⟩ ?_)
   refine Xi 0 ?_;exact Xi _ (Yi (.refl _) (Yi (show AV.slice (.id 2000 4) []=_ by rw [h]) (show heapOf [(2000,HO.tok 4 0)] hfree=_ by rw [h]; rfl)))
  ·refine Xi ⟨[(0,sl encSl l)],[],hfree⟩ (Yi ⟨Z1,Tv,Fh,ext_dec (by kernel_rfl)⟩ ?_)
   refine Xi 2 ?_;refine Yi bulk ?_;exact Xi _ (Yi (.refl _) (Yi e3 (congrArg (fun o=>heapOf [(2000,o)] hfree) e2)))
end Go.Eng

namespace Go.Eng
open Go.Proofs
end Go.Eng

namespace Go.Eng
open Go.Proofs
section
variable {S:Type} {x:List Rl} {roots:List Rq} {s:List Sl} {step:S→Vis→S} {st0:S} {before:List Sl} {needs:List Rq} {n:Nat} {st:S}
end
end Go.Eng

namespace Go.Eng
open Go.Proofs
def smallQ (q:Rq):Bool:=decide (q.path.size≤100)&&decide (q.set.length≤8)
def smallQs (l:List Rq):Bool:=l.all smallQ&&decide (l.length≤20)
theorem c35 (l:List Rq) (hl:Few l):PC 27 [sl encRq l] (vb (smallQs l)):=by
 unfold Few at hl;refine Ps pl0 Tryz.func27 rfl (Nz rfl) ?_;refine Xi {i:Nat // i≤l.length∧∀ j (hj:j<l.length),j<i→smallQ l[j]=true} (Xi (fun i=>⟨[(0,sl encRq l),(3,vi i.1)],[],hfree⟩) (Xi (fun i=>l.length - i.1) (Yi (Xi ⟨0,Nat.zero_le _,fun j _ h=>by omega⟩ ?_) ?_)))
 ·exact ⟨Z2,Tv,Fh,Tv⟩
 intro ⟨i,h1,h2⟩;refine Yi ?_ ?_
 ·intro h;have h:(i:Int)<(l.map encRq).length:=h;have h:i<l.length:=by simpa using h
  have hg:l[i]?=some l[i]:=Ge h;have no:smallQ l[i]=false→false=smallQs l:=fun e=>by
   unfold smallQs
   have:l.all smallQ=false:=by
    rw [Bool.eq_false_iff]; intro ha
    have:=List.all_eq_true.1 ha _ (List.getElem_mem h)
    rw [e] at this; cases this
   rw [this]; rfl
  refine Xi (encRq l[i]) (Yi (Yi (Nn i) (by simp [hg])) (Yi rfl ?_));refine Yi ?_ ?_
  ·intro h3;have h3:(100:Int)<((l[i].path.size:Nat):Int):=h3;exact .of_eq (congrArg vb (no (by unfold smallQ; rw [decide_eq_false (by omega)]; rfl)))
  intro h3;have h3:¬ (100:Int)<((l[i].path.size:Nat):Int):=h3;refine Xi (encRq l[i]) (Yi (Yi (Nn i) (by simp [hg])) (Yi rfl ?_));refine Yi ?_ ?_
  ·intro h4;have h4:(8:Int)<((l[i].set.map encSpan).length:Int):=h4;rw [Lm] at h4;exact .of_eq (congrArg vb (no (by unfold smallQ; rw [decide_eq_false (by omega:¬ l[i].set.length≤8),Bool.and_false])))
  intro h4;have h4:¬ (8:Int)<((l[i].set.map encSpan).length:Int):=h4;have h5:l[i].set.length≤8:=by rw [Lm] at h4; omega
  refine Yi (Ii i (by omega)) ?_;refine Xi ⟨i+1,by omega,fun j hj hji=>?_⟩ ?_
  ·rcases Nat.lt_or_ge j i with z | z
   ·exact h2 j hj z
   ·have:j=i:=by omega
    subst this; unfold smallQ; rw [decide_eq_true (by omega),decide_eq_true h5]; rfl
  ·exact ⟨Dl l.length i (by omega),Z2,Tv,Fh,Tv⟩
 ·intro h;have h:¬ (i:Int)<(l.map encRq).length:=h;have h:¬ i<l.length:=by simpa using h
  have ha:l.all smallQ=true:=List.all_eq_true.2 fun q hq=>by
   obtain ⟨j,hj,rfl⟩:=List.getElem_of_mem hq;exact h2 j hj (by omega)
  refine Yi ?_ ?_
  ·intro h3;have h3:((l.map encRq).length:Int)≤20:=h3;rw [Lm] at h3;exact .of_eq (congrArg vb (show true=smallQs l by unfold smallQs; rw [ha,decide_eq_true (by omega)]; rfl))
  ·intro h3;have h3:¬ ((l.map encRq).length:Int)≤20:=h3;rw [Lm] at h3;exact .of_eq (congrArg vb (show false=smallQs l by unfold smallQs; rw [decide_eq_false (by omega),Bool.and_false]))
end Go.Eng

namespace Go.Eng
open Go.Proofs
def smallR (r:Rl):Bool:=decide (r.path.size≤100)&&decide (r.arch.size≤100)&&decide (r.ifc.size≤100)&&decide (r.cert.size≤100)&&smallQs r.reqs
def smallX (x:List Rl) (n:Nat):Bool:=x.all smallR&&decide (x.length≤n)
theorem c34 (x:List Rl) (n:Nat) (hl:Few x) (hr:∀ r ∈ x,Few r.reqs):PC 26 [sl encRl x,vi n] (vb (smallX x n)):=by
 unfold Few at hl;refine Ps pl0 Tryz.func26 rfl (Nz rfl) ?_;refine Xi {i:Nat // i≤x.length∧∀ j (hj:j<x.length),j<i→smallR x[j]=true} (Xi (fun i=>⟨[(0,sl encRl x),(1,vi n),(5,vi i.1)],[],hfree⟩) (Xi (fun i=>x.length - i.1) (Yi (Xi ⟨0,Nat.zero_le _,fun j _ h=>by omega⟩ ?_) ?_)))
 ·exact ⟨Z3,Tv,Fh,Tv⟩
 intro ⟨i,h1,h2⟩;refine Yi ?_ ?_
 ·intro h;have h:(i:Int)<(x.map encRl).length:=h;have h:i<x.length:=by simpa using h
  have hg:x[i]?=some x[i]:=Ge h;have no:smallR x[i]=false→false=smallX x n:=fun e=>by
   unfold smallX
   have:x.all smallR=false:=by
    rw [Bool.eq_false_iff]; intro ha
    have:=List.all_eq_true.1 ha _ (List.getElem_mem h)
    rw [e] at this; cases this
   rw [this]; rfl
  have hc:=c35 x[i].reqs (hr _ (List.getElem_mem h));refine Xi (encRl x[i]) (Yi (Yi (Nn i) (by simp [hg])) (Yi rfl ?_));refine Yi ?_ ?_
  ·intro h3;have h3:(100:Int)<((x[i].path.size:Nat):Int):=h3;exact .of_eq (congrArg vb (no (by unfold smallR; rw [decide_eq_false (by omega:¬ x[i].path.size≤100)]; simp)))
  intro h3;have h3:¬ (100:Int)<((x[i].path.size:Nat):Int):=h3;refine Xi (encRl x[i]) (Yi (Yi (Nn i) (by simp [hg])) (Yi rfl ?_));refine Yi ?_ ?_
  ·intro h4;have h4:(100:Int)<((x[i].arch.size:Nat):Int):=h4;exact .of_eq (congrArg vb (no (by unfold smallR; rw [decide_eq_false (by omega:¬ x[i].arch.size≤100)]; simp)))
  intro h4;have h4:¬ (100:Int)<((x[i].arch.size:Nat):Int):=h4;refine Xi (encRl x[i]) (Yi (Yi (Nn i) (by simp [hg])) (Yi rfl ?_));refine Yi ?_ ?_
  ·intro h5;have h5:(100:Int)<((x[i].ifc.size:Nat):Int):=h5;exact .of_eq (congrArg vb (no (by unfold smallR; rw [decide_eq_false (by omega:¬ x[i].ifc.size≤100)]; simp)))
  intro h5;have h5:¬ (100:Int)<((x[i].ifc.size:Nat):Int):=h5;refine Xi (encRl x[i]) (Yi (Yi (Nn i) (by simp [hg])) (Yi rfl ?_));refine Yi ?_ ?_
  ·intro h6;have h6:(100:Int)<((x[i].cert.size:Nat):Int):=h6;exact .of_eq (congrArg vb (no (by unfold smallR; rw [decide_eq_false (by omega:¬ x[i].cert.size≤100)]; simp)))
  intro h6;have h6:¬ (100:Int)<((x[i].cert.size:Nat):Int):=h6;refine Xi (encRl x[i]) (Yi (Yi (Nn i) (by simp [hg])) (Yi rfl ?_));refine Or.elim (Bt (smallQs x[i].reqs)) (fun e=>?_) (fun e=>?_)
  rotate_left
  ·rw [e] at hc;refine Xi .pure (Xi _ (Yi (hc) ?_));exact .of_eq (congrArg vb (no (by unfold smallR; rw [e,Bool.and_false])))
  rw [e] at hc;refine Xi .pure (Xi _ (Yi (hc) ?_));refine Yi (Ii i (by omega)) ?_;refine Xi ⟨i+1,by omega,fun j hj hji=>?_⟩ ?_
  ·rcases Nat.lt_or_ge j i with z | z
   ·exact h2 j hj z
   ·have:j=i:=by omega
    subst this; unfold smallR;rw [decide_eq_true (by omega:x[j].path.size≤100),decide_eq_true (by omega:x[j].arch.size≤100),decide_eq_true (by omega:x[j].ifc.size≤100),decide_eq_true (by omega:x[j].cert.size≤100),e]; rfl
  ·exact ⟨Dl x.length i (by omega),Z3,Tv,Fh,Tv⟩
 ·intro h;have h:¬ (i:Int)<(x.map encRl).length:=h;have h:¬ i<x.length:=by simpa using h
  have ha:x.all smallR=true:=List.all_eq_true.2 fun q hq=>by
   obtain ⟨j,hj,rfl⟩:=List.getElem_of_mem hq;exact h2 j hj (by omega)
  refine Yi ?_ ?_
  ·intro h3;have h3:((x.map encRl).length:Int)≤n:=h3;rw [Lm] at h3;exact .of_eq (congrArg vb (show true=smallX x n by unfold smallX; rw [ha,decide_eq_true (by omega)]; rfl))
  ·intro h3;have h3:¬ ((x.map encRl).length:Int)≤n:=h3;rw [Lm] at h3;exact .of_eq (congrArg vb (show false=smallX x n by unfold smallX; rw [decide_eq_false (by omega),Bool.and_false]))
theorem c11 (x:List Rl) (ifs:List (List AV)) (roots:List Rq) (hl:Few x) (hr:∀ r ∈ x,Few r.reqs) (hq:Few roots):PC 9 [ixV x ifs,sl encRq roots] (vb (smallX x 16&&smallQs roots)):=by
 have h1:=c34 x 16 hl hr;have h2:=c35 roots hq;cases e:smallX x 16 with
 | true =>
  rw [e] at h1;refine Ps pl0 Tryz.func9 rfl (Nz rfl) ?_;refine Xi .pure (Xi _ (Yi (h1) ?_));refine Xi .pure (Xi _ (Yi (h2) ?_));exact .refl _
 | false =>
  rw [e] at h1;refine Ps pl0 Tryz.func9 rfl (Nz rfl) ?_;refine Xi .pure (Xi _ (Yi (h1) ?_));exact .refl _
end Go.Eng

namespace Go.Eng
open Go.Proofs
abbrev nilA:AV:=.v (.slice none 0 0)
end Go.Eng

namespace Go.Eng
open Go.Proofs
end Go.Eng

namespace Go.Eng
open Go.Proofs
end Go.Eng

namespace Go.Eng
open Go.Proofs
section
variable {l:List Rl} {roots t:List Rq} {d:List ByteArray} {n:Nat}
end
end Go.Eng

namespace Go.Eng
open Go.Proofs
end Go.Eng

namespace Go.Eng
open Go.Proofs
structure Lim (x:List Rl) (roots:List Rq):Prop where
 ix:Few x
 rs:Few roots
 rel:∀ r ∈ x,Few r.reqs∧FewR r
 rq:∀ q ∈ roots,FewQ q
theorem Lim.x {x:List Rl} {roots:List Rq} (h:Lim x roots):∀ r ∈ x,FewR r:=fun r hr=>(h.rel r hr).2
theorem few_roots {x:List Rl} {roots:List Rq} (h:(smallX x 16&&smallQs roots)=true):roots.length≤20:=by
 simp only [Bool.and_eq_true,smallQs,decide_eq_true_eq] at h;exact h.2.2
theorem Lim.c11 {x:List Rl} {roots:List Rq} (h:Lim x roots) (ifs:List (List AV)):PC 9 [ixV x ifs,sl encRq roots] (vb (smallX x 16&&smallQs roots)) :=
 Go.Eng.c11 x ifs roots h.ix (fun r hr=>(h.rel r hr).1) h.rs
end Go.Eng

namespace Go.Proofs.YtkmnnpmneamgoaaGreatDoor.joins
open Go Go.Eng Go.Proofs Go.ChangeShapes Go.WideShapes Go.ChangeAt Go.RowKit

section
variable {H:Type} {enc:TypeId × Value→H} {w:World}
theorem all_le {d:DataW H} {l:List (DataW H)} (h:d ∈ l):Rows.uptoBulk d≤Rows.uptoBulkAll l:=by
 induction l with
 | nil=>cases h
 | cons x r ih =>
  simp only [Rows.uptoBulkAll]
  cases List.mem_cons.1 h with
  | inl e=>subst e; omega
  | inr e=>have:=ih e; omega
theorem one_le (d:DataW H):1≤Rows.uptoBulk d:=by
 cases d with
 | lit l=>cases l <;> simp [Rows.uptoBulk]
 | nil=>simp [Rows.uptoBulk]
 | ptr d=>simp [Rows.uptoBulk]
 | slice elems spare=>simp [Rows.uptoBulk]
 | agg parts=>simp [Rows.uptoBulk]
 | iface t d=>simp [Rows.uptoBulk]
 | map entries=>simp [Rows.uptoBulk]
 | held h=>simp [Rows.uptoBulk]
theorem len_le (l:List (DataW H)):l.length≤Rows.uptoBulkAll l:=by
 induction l with
 | nil=>simp [Rows.uptoBulkAll]
 | cons x r ih=>have:=one_le x; simp only [Rows.uptoBulkAll,List.length_cons]; omega
theorem bulk_ok:BulkOk (H:=H) Rows.uptoBulk where
 slice es sp:=by
  have h1:=len_le es
  refine ⟨by simp only [Rows.uptoBulk]; omega,fun d hd=>?_⟩
  have:=all_le hd
  simp only [Rows.uptoBulk]; omega
 agg ps d hd:=by
  have:=all_le hd
  simp only [Rows.uptoBulk]; omega
 str b:=by simp only [Rows.uptoBulk]; omega
theorem app_all (l r:List (DataW H)):Rows.uptoBulkAll (l++r)=Rows.uptoBulkAll l+Rows.uptoBulkAll r:=by
 induction l with
 | nil=>simp [Rows.uptoBulkAll]
 | cons x l ih=>simp only [List.cons_append,Rows.uptoBulkAll,ih]; omega

abbrev NB:Nat:=1048576
abbrev Op (enc:TypeId × Value→H) (w:World) (t:TypeId) {α:Type} (e:α→List AV) (ok:α→Prop):Prop:=Opens enc Tryz.prog w Rows.uptoBulk NB t e ok
theorem oI:Op enc w 3 (fun n:Int=>[vi n]) (fun _=>True):=(opens_int Tryz.underlying3).to id (fun _ _=>⟨rfl,trivial⟩)
theorem oB:Op enc w 4 (fun b:Bool=>[vb b]) (fun _=>True):=opens_bool Tryz.underlying4
theorem oS:Op enc w 9 (fun s:ByteArray=>[vs s]) (fun s=>s.size≤NB):=opens_string bulk_ok Tryz.underlying9
theorem oVer:Op enc w 49 encVer (fun _=>True) :=
 (opens_struct bulk_ok Tryz.underlying49 (L:=3) (by kernel_rfl) (opensF_cons rfl (n:=1) (by kernel_rfl) oI (opensF_cons rfl (n:=1) (by kernel_rfl) oI (opensF_cons rfl (n:=1) (by kernel_rfl) oI opensF_nil)))).to
  (fun p=>(⟨p.1,p.2.1,p.2.2.1⟩ : Ver)) (fun _ _=>⟨rfl,trivial⟩)
theorem oSpan:Op enc w 65 encSpan (fun _=>True) :=
 (opens_struct bulk_ok Tryz.underlying65 (L:=2) (by kernel_rfl) (opensF_cons rfl (n:=1) (by kernel_rfl) oI (opensF_cons rfl (n:=1) (by kernel_rfl) oI opensF_nil))).to
  (fun p=>(p.1,p.2.1)) (fun _ _=>⟨rfl,trivial⟩)
theorem oSet:Op enc w 43 (fun l:SpanL=>[sl encSpan l]) (fun l=>l.length≤NB) :=
 (opens_slice bulk_ok Tryz.underlying43 (m:=1) (by kernel_rfl) (fun _=>rfl) oSpan).to id (fun _ h=>⟨rfl,h.1⟩)
abbrev OkRq (q:Rq):Prop:=q.path.size≤NB∧q.set.length≤NB
theorem oRq:Op enc w 45 encRq OkRq :=
 (opens_struct bulk_ok Tryz.underlying45 (L:=2) (by kernel_rfl) (opensF_cons rfl (n:=1) (by kernel_rfl) oS (opensF_cons rfl (n:=1) (by kernel_rfl) oSet opensF_nil))).to
  (fun p=>(⟨p.1,p.2.1⟩ : Rq)) (fun _ h=>⟨rfl,h.1,h.2.1⟩)
abbrev OkRqs (l:List Rq):Prop:=l.length≤NB∧∀ q ∈ l,OkRq q
theorem oRqs:Op enc w 26 (fun l:List Rq=>[sl encRq l]) OkRqs :=
 opens_slice bulk_ok Tryz.underlying26 (m:=1) (by kernel_rfl) (fun _=>rfl) oRq
abbrev OkRl (r:Rl):Prop:=r.path.size≤NB∧OkRqs r.reqs
theorem oRl:Op enc w 67 encRl OkRl :=
 (opens_struct bulk_ok Tryz.underlying67 (L:=9) (by kernel_rfl) (opensF_cons rfl (n:=1) (by kernel_rfl) oS (opensF_cons rfl (n:=3) (by kernel_rfl) oVer (opensF_cons rfl (n:=1) (by kernel_rfl) oRqs
  (opensF_cons rfl (n:=1) (by kernel_rfl) oS (opensF_cons rfl (n:=1) (by kernel_rfl) oS (opensF_cons rfl (n:=1) (by kernel_rfl) oS (opensF_cons rfl (n:=1) (by kernel_rfl) oB opensF_nil)))))))).to
  (fun p=>(⟨p.1,p.2.1,p.2.2.1,p.2.2.2.1,p.2.2.2.2.1,p.2.2.2.2.2.1,p.2.2.2.2.2.2.1⟩ : Rl)) (fun _ h=>⟨rfl,h.1,h.2.2.1⟩)
theorem oRls:Op enc w 22 (fun l:List Rl=>[sl encRl l]) (fun l=>l.length≤NB∧∀ r ∈ l,OkRl r) :=
 opens_slice bulk_ok Tryz.underlying22 (m:=8) (by kernel_rfl) (fun _=>rfl) oRl
theorem oIfc:Op enc w 349 (fun s:ByteArray=>[vs s,.junk,.junk,.junk,.junk]) (fun _=>True) :=
 (opens_struct bulk_ok Tryz.underlying349 (L:=5) (by kernel_rfl) (opensF_cons rfl (n:=1) (by kernel_rfl) oS (opensF_cons rfl (n:=1) (by kernel_rfl) (opens_any Tryz.underlying344) (opensF_cons rfl (n:=1) (by kernel_rfl) (opens_any Tryz.underlying345)
  (opensF_cons rfl (n:=1) (by kernel_rfl) (opens_any Tryz.underlying346) (opensF_cons rfl (n:=1) (by kernel_rfl) (opens_any Tryz.underlying347) opensF_nil)))))).to (fun p=>p.1) (fun _ _=>⟨rfl,trivial⟩)
theorem oIfs:Op enc w 23 (fun l:List ByteArray=>[sl (fun s=>[vs s,.junk,.junk,.junk,.junk]) l]) (fun _=>True) :=
 (opens_slice bulk_ok Tryz.underlying23 (m:=4) (by kernel_rfl) (fun _=>rfl) oIfc).to id (fun _ _=>⟨rfl,trivial⟩)
theorem oIx:Op enc w 25 (fun p:List Rl × List (List AV)=>[sl encRl p.1,.slice .none p.2]) (fun p=>p.1.length≤NB∧∀ r ∈ p.1,OkRl r) :=
 (opens_struct bulk_ok Tryz.underlying25 (L:=2) (by kernel_rfl) (opensF_cons rfl (n:=1) (by kernel_rfl) oRls (opensF_cons rfl (n:=1) (by kernel_rfl) oIfs opensF_nil))).to
  (fun p=>(p.1,p.2.1.map (fun s=>[vs s,.junk,.junk,.junk,.junk]))) (fun _ h=>⟨rfl,h.1⟩)
theorem oSl:Op enc w 51 encSl (fun y=>y.path.size≤NB) :=
 (opens_struct bulk_ok Tryz.underlying51 (L:=4) (by kernel_rfl) (opensF_cons rfl (n:=1) (by kernel_rfl) oS (opensF_cons rfl (n:=3) (by kernel_rfl) oVer opensF_nil))).to
  (fun p=>(⟨p.1,p.2.1⟩ : Sl)) (fun _ h=>⟨rfl,h.1⟩)
theorem oSls:Op enc w 39 (fun l:List Sl=>[sl encSl l]) (fun l=>l.length≤NB∧∀ y ∈ l,y.path.size≤NB) :=
 opens_slice bulk_ok Tryz.underlying39 (m:=3) (by kernel_rfl) (fun _=>rfl) oSl
theorem oNf:Op enc w 136 encNf (fun i=>i.path.size≤NB) :=
 (opens_struct bulk_ok Tryz.underlying136 (L:=6) (by kernel_rfl) (opensF_cons rfl (n:=1) (by kernel_rfl) oI (opensF_cons rfl (n:=1) (by kernel_rfl) oS (opensF_cons rfl (n:=1) (by kernel_rfl) oI
  (opensF_cons rfl (n:=1) (by kernel_rfl) oI (opensF_cons rfl (n:=1) (by kernel_rfl) oI (opensF_cons rfl (n:=1) (by kernel_rfl) oI opensF_nil))))))).to
  (fun p=>(⟨p.1,p.2.1,p.2.2.1,p.2.2.2.1,p.2.2.2.2.1,p.2.2.2.2.2.1⟩ : Nf)) (fun _ h=>⟨rfl,h.2.1⟩)
theorem oNfs:Op enc w 56 (fun l:List Nf=>[sl encNf l]) (fun l=>l.length≤NB∧∀ i ∈ l,i.path.size≤NB) :=
 opens_slice bulk_ok Tryz.underlying56 (m:=5) (by kernel_rfl) (fun _=>rfl) oNf
theorem oSk:Op enc w 151 encSk (fun y=>y.path.size≤NB) :=
 (opens_struct bulk_ok Tryz.underlying151 (L:=3) (by kernel_rfl) (opensF_cons rfl (n:=1) (by kernel_rfl) oS (opensF_cons rfl (n:=1) (by kernel_rfl) oI (opensF_cons rfl (n:=1) (by kernel_rfl) oI opensF_nil)))).to
  (fun p=>(⟨p.1,p.2.1,p.2.2.1⟩ : Sk)) (fun _ h=>⟨rfl,h.1⟩)
theorem oSks:Op enc w 57 (fun l:List Sk=>[sl encSk l]) (fun l=>l.length≤NB∧∀ y ∈ l,y.path.size≤NB) :=
 opens_slice bulk_ok Tryz.underlying57 (m:=2) (by kernel_rfl) (fun _=>rfl) oSk
abbrev OkAn (a:An):Prop:=a.sel.length≤NB∧a.infs.length≤NB∧a.skips.length≤NB
theorem oAn:Op enc w 59 encAn OkAn :=
 (opens_struct bulk_ok Tryz.underlying59 (L:=4) (by kernel_rfl) (opensF_cons rfl (n:=1) (by kernel_rfl) oB (opensF_cons rfl (n:=1) (by kernel_rfl) oSls (opensF_cons rfl (n:=1) (by kernel_rfl) oNfs
  (opensF_cons rfl (n:=1) (by kernel_rfl) oSks opensF_nil))))).to
  (fun p=>(⟨p.1,p.2.1,p.2.2.1,p.2.2.2.1⟩ : An)) (fun _ h=>⟨rfl,h.2.1.1,h.2.2.1.1,h.2.2.2.1.1⟩)
theorem few_of {n:Nat} (h:n≤NB):n≤1073741824:=Nat.le_trans h (by decide)
theorem lim_of {x:List Rl} {roots:List Rq} (h:x.length≤NB∧∀ r ∈ x,OkRl r) (k:OkRqs roots):Lim x roots where
 ix:=few_of h.1
 rs:=few_of k.1
 rel r hr:=⟨few_of (h.2 r hr).2.1,few_of (h.2 r hr).1,fun q hq=>⟨few_of ((h.2 r hr).2.2 q hq).2,few_of ((h.2 r hr).2.2 q hq).1⟩⟩
 rq q hq:=⟨few_of (k.2 q hq).2,few_of (k.2 q hq).1⟩
end

theorem ok_agg {P:Program} {W:World} {base:Nat} {t:TypeId} {v:Value} {fs:Array Field} (hu:P.underlying t=some (.struct fs)) (h:Value.okWide P W .any base t v):∃ cs,v=.agg cs:=by
 unfold Value.okWide at h
 rw [hu] at h
 obtain ⟨cs,e,_⟩:=h
 exact ⟨cs,e⟩
theorem ok_slice {P:Program} {W:World} {base:Nat} {t e:TypeId} {v:Value} (hu:P.underlying t=some (.slice e)) (h:Value.okWide P W .any base t v):v.oneCell'=true:=by
 unfold Value.okWide at h
 rw [hu] at h
 unfold Cell.okWide Cell.ok at h
 rw [hu] at h
 cases v <;> first | rfl | simp at h
theorem ok_int {P:Program} {W:World} {base:Nat} {t:TypeId} {k:IntKind} {v:Value} (hu:P.underlying t=some (.int k)) (h:Value.okWide P W .any base t v):v.oneCell'=true:=by
 unfold Value.okWide at h
 rw [hu] at h
 unfold Cell.okWide Cell.ok at h
 rw [hu] at h
 cases v <;> first | rfl | simp at h
theorem int_of_shape {P:Program} {w:World} {g:Nat} {t:TypeId} {k:IntKind} {zero:Array Value} (h:w.ShapedOpen P) (hg:g<P.globals.size)
  (h0:((begin P (fun _ _=>0) default).world.heap[g]?).bind Obj.row?=some (zero,t)) (hz:zero.size=1)
  (hb:P.buildable t=true) (hc:P.cellTypes P.depth t=some [t]) (hu:P.underlying t=some (.int k)):∃ p,w.cell? ⟨g,0,none⟩=some (.int k p):=by
 obtain ⟨cs,hh,hs,hr⟩:=h.1 g zero t hg h0
 obtain ⟨ts,hts,_,hall⟩:=hr hb
 rw [hc] at hts
 cases hts
 have h1:0<cs.size:=by omega
 obtain ⟨u,hu',hok⟩:=hall 0 cs[0] (by simp [h1])
 have:u=t:=by simpa using hu'.symm
 subst this
 have hcell:w.cell? ⟨g,0,none⟩=some cs[0]:=by simp [World.cell?,hh,h1]
 rw [hcell]
 unfold Cell.ok at hok
 rw [hu] at hok
 cases hv:cs[0] <;> rw [hv] at hok <;> simp at hok
 obtain ⟨rfl,_⟩:=hok
 exact ⟨_,rfl⟩
theorem maxLen_cell {W:World} (h:W.ShapedOpen Tryz.prog):∃ m,W.cell? ⟨0,0,none⟩=some (.int .i64 m) :=
 int_of_shape (t:=3) (zero:=#[.int .i64 0]) h (of_decide_eq_true (by kernel_rfl)) (by kernel_rfl) rfl (by kernel_rfl) (by kernel_rfl) Tryz.underlying3

def Still (W W' : World):Prop:=W'.os=W.os∧W'.output=W.output∧W.heap.size≤W'.heap.size∧∀ b,b<W.heap.size→W'.heap[b]?=W.heap[b]?
theorem run_true {f:Nat} {args:List AV} {vals:Array Value} {W:World} (hc:PC f args (vb true)) (hM:∃ m,W.cell? ⟨0,0,none⟩=some (.int .i64 m)) (hs:vals.size=args.length)
  (hr:∀ (i:Nat) (av:AV) (x:Value),args[i]?=some av→vals[i]?=some x→Rep (g00 W) W NoU av x):Calls Tryz.prog f vals W fun e W'=>e=.returned (.bool true)∧Still W W':=by
 refine (hc.2 (g00 W) W vals hs (fun i av x q1 q2=>(hr i av x q1 q2).up _) (inv00 hM (fun _ h=>by cases h))).mono fun e W' ⟨v,r,h',g',e1,e2,e3,e4,_⟩=>?_
 subst e1
 obtain ⟨rfl,rfl⟩:=e2
 obtain rfl:=e3.v_eq
 exact ⟨rfl,e4.os,e4.output,e4.size,fun b hb=>e4.frame b hb (fun r h=>h.elim)⟩
theorem Still.kept {W W' : World} (h:Still W W') (may:MemPlace→Prop):W.keptBut W' may:=by
 refine ⟨h.1,h.2.1,fun i hi=>?_⟩
 rw [h.2.2.2 i hi]
 cases hh:W.heap[i]? with
 | none=>rfl
 | some o=>cases o <;> simp
theorem Still.same {W W' : World} (h:Still W W') {p:MemPlace} (hp:p.block<W.heap.size):W.sameAt W' p:=by
 cases p with
 | cell b off =>
  show W'.cell? ⟨b,off,none⟩=W.cell? ⟨b,off,none⟩
  unfold World.cell?
  rw [h.2.2.2 b hp]
 | map b=>exact h.2.2.2 b hp
theorem kids:Kids Tryz.prog (· < Tryz.prog.types.size):=kids_rows (by kernel_rfl) (by kernel_rfl)
theorem full:∀ t e,t<Tryz.prog.types.size→Tryz.prog.underlying t=some (.slice e)→0<Tryz.prog.cellsOf e:=slices_full_of Tryz.prog (by kernel_rfl)
theorem carry {H:Type} {enc:TypeId × Value→H} {W W' : World} (h:Still W W'):∀ {ts:List TypeId} {vs:List Value} {ds:List (DataW H)} {ps:List MemPlace},DataW.TrodAll enc Tryz.prog W 0 (fun _=>true) true ts vs ds ps→DataW.TrodAll enc Tryz.prog W' 0 (fun _=>true) true ts vs ds ps
 | [],[],[],_,e=>e
 | t :: ts,v :: vs,d :: ds,ps,k=>by
  have hlt:=k.lt
  obtain ⟨p,q,⟨n,h1⟩,h2,rfl⟩:=k
  exact ⟨p,q,⟨n,DataW.trod_carry n _ _ _ h1 (fun x hx=>h.same (hlt x (List.mem_append_left _ hx)))⟩,carry h h2,rfl⟩
 | [],[],_ :: _,_,k=>k.elim
 | [],_ :: _,_,_,k=>k.elim
 | _ :: _,[],_,_,k=>k.elim
 | _ :: _,_ :: _,[],_,k=>k.elim
theorem post_true {H:Type} {enc:TypeId × Value→H} {W W' : World} {f:Func} {s:ChangeSpec} {args:Array Value} {ds:List (DataW H)} {before:List MemPlace} (hst:Still W W') (hv:s.vars=[])
  (hW:DataW.Whole enc Tryz.prog f.params.toList s.vars false W args.toList ds [] before) (hr:f.resultTypes=#[4]) (hT:∀ t ∈ f.params.toList,t<Tryz.prog.types.size) (hs:s.fn H ds={ results:=[.lit (.bool true)],args:=ds }) :
  s.post enc Tryz.prog f false true false false W args (.bool true) W':=by
 have hW0:=hW
 obtain ⟨p,q,hA,hV,rfl,hz,_⟩:=hW
 rw [hv] at hV
 have hq:q=[]:=hV
 subst hq
 have hlt:=hW0.lt
 have hs2:s.fn H (ds++[])={ results:=[.lit (.bool true)],args:=ds }:=by rw [List.append_nil]; exact hs
 refine ⟨ds,[],p++[],[],p,[],hW0,?_,?_,?_,hst.kept _,fun h=>by cases h⟩
 ·rw [hs2,hr]
  exact ⟨[],[],⟨1,by rw [show (Value.bool true).cells.toList=[.bool true] from rfl,DataW.trod_step]; unfold DataW.trodStep; rw [Tryz.underlying4]⟩,rfl,rfl⟩
 ·rw [hs2]
  exact (carry hst hA).respare kids full hT (fun x hx=>by simpa using hlt x (List.mem_append_left _ hx))
 ·rw [hs2,hv]; rfl
end Go.Proofs.YtkmnnpmneamgoaaGreatDoor.joins

namespace Go.Proofs.YtkmnnpmneamgoaaGreatDoor.joins
open Go Go.Eng Go.Proofs Go.ChangeShapes Go.WideShapes Go.ChangeAt Go.RowKit
theorem own:ownKnob Tryz.prog.godebug=none:=by kernel_rfl
def flatD:Nat→DataW Unit→List Value
 | 0,_=>[]
 | n+1,.agg l=>l.flatMap (flatD n)
 | _+1,.lit (.int k i)=>[.int k i]
 | _+1,_=>[]
def layIn (d:DataW Unit):Obj→Obj
 | .cells _ t frozen=>.cells (flatD 4 d).toArray t frozen
 | o=>o
noncomputable def laidWorld (os:Os):World :=
 { World.holding Tryz.prog os ⟨#[],#[],[]⟩ with heap:=((World.holding Tryz.prog os ⟨#[],#[],[]⟩).heap.modify 1 (layIn Rows.laid_unicode_utf8_first)).modify 2 (layIn Rows.laid_unicode_utf8_acceptRanges) }
abbrev nilV:Value:=.slice none 0 0
theorem arr2 {args:Array Value} {a b:Value} (h:args.toList=[a,b]):args=#[a,b]:=by
 cases args; simp_all
theorem arr3 {args:Array Value} {a b c:Value} (h:args.toList=[a,b,c]):args=#[a,b,c]:=by
 cases args; simp_all
theorem arr4 {args:Array Value} {a b c d:Value} (h:args.toList=[a,b,c,d]):args=#[a,b,c,d]:=by
 cases args; simp_all
theorem arr5 {args:Array Value} {a b c d e:Value} (h:args.toList=[a,b,c,d,e]):args=#[a,b,c,d,e]:=by
 cases args; simp_all
theorem looksOff:false=Tryz.pinned.checked.prog.looks []:=by kernel_rfl
theorem noStand:∀ t ∈ ([25,26,3]:List Nat),Tryz.pinned.checked.prog.wantsStandIn t=false:=by
 intro t ht
 simp only [List.mem_cons,List.mem_nil_iff,or_false] at ht
 rcases ht with rfl | rfl | rfl <;> exact (show Tryz.prog.wantsStandIn _=false by kernel_rfl)
end Go.Proofs.YtkmnnpmneamgoaaGreatDoor.joins

namespace Go.Proofs
open Go.Shelf Go.RowKit Go.Lib Go.Sort
abbrev OneC:Type:={v:Value // v.oneCell'=true}
def SlA:Type:=ByteArray × OneC × OneC × OneC
instance:Inhabited SlA:=⟨⟨ByteArray.empty,⟨.bool false,rfl⟩,⟨.bool false,rfl⟩,⟨.bool false,rfl⟩⟩⟩
def encSlA (x:SlA):List Value:=[.string x.1,x.2.1.1,x.2.2.1.1,x.2.2.2.1]
def cfSlA (x y:SlA):Int:=Lib.compareBytes x.1.data.toList y.1.data.toList
abbrev CmpSlA (k:Nat):Prop:=∀ (x y:SlA) (W:World),Calls Tryz.prog k #[.agg #[.string x.1,x.2.1.1,x.2.2.1.1,x.2.2.2.1],.agg #[.string y.1,y.2.1.1,y.2.2.1.1,y.2.2.2.1]] W fun e w'=>e=.returned (.int .i64 (cfSlA x y))∧∃ q os',w'=grow (W.drewN q) os'
set_option maxHeartbeats 1000000 in
theorem Tryz.closure48:CmpSlA 48:=fun x y W=>by
 have hcon:=fun W'=>Any.strings_Compare Tryz.layCompare x.1 y.1 W';obtain ⟨a,⟨b,hb⟩,⟨c,hc⟩,⟨d,hd⟩⟩:=x;obtain ⟨a',⟨b',hb'⟩,⟨c',hc'⟩,⟨d',hd'⟩⟩:=y;dsimp only at hcon
 change ∀ W',Calls Tryz.prog 49 _ _ _ at hcon
 unfold cfSlA;dsimp only;generalize Lib.compareBytes a.data.toList a'.data.toList=r at hcon ⊢
 go_enter Tryz.func48,Tryz.ntmps48
 go_wp2_with (go_at_call 49; refine (hcon _).mono ?_; rintro e w' ⟨rfl,rfl⟩)
 go_ret
 exact ⟨rfl,0,_,by rw [alloc_eq_grow,alloc_eq_grow,grow_grow]; rfl⟩
set_option maxHeartbeats 1000000 in
theorem Tryz.closure65:CmpSlA 65:=fun x y W=>by
 have hcon:=fun W'=>Any.strings_Compare Tryz.layCompare x.1 y.1 W';obtain ⟨a,⟨b,hb⟩,⟨c,hc⟩,⟨d,hd⟩⟩:=x;obtain ⟨a',⟨b',hb'⟩,⟨c',hc'⟩,⟨d',hd'⟩⟩:=y;dsimp only at hcon
 change ∀ W',Calls Tryz.prog 49 _ _ _ at hcon
 unfold cfSlA;dsimp only;generalize Lib.compareBytes a.data.toList a'.data.toList=r at hcon ⊢
 go_enter Tryz.func65,Tryz.ntmps65
 go_wp2_with (go_at_call 49; refine (hcon _).mono ?_; rintro e w' ⟨rfl,rfl⟩)
 go_ret
 exact ⟨rfl,0,_,by rw [alloc_eq_grow,alloc_eq_grow,grow_grow]; rfl⟩
end Go.Proofs
namespace Go.Eng
open Go.Proofs Go.Shelf Go.RowKit Go.Lib Go.Sort
theorem ltSlA (x y:SlA):ltOf cfSlA x y=blt x.1 y.1:=lexB_cmp _ _
theorem swoSlA:SWO (ltOf cfSlA) where
 irrefl x:=by rw [ltSlA]; exact blt_irrefl _
 trans x y z h1 h2:=by rw [ltSlA] at *; exact blt_trans h1 h2
 ntrans x y z h1 h2:=by
  rw [ltSlA] at *
  rw [Bool.eq_false_iff];intro h;cases hyx:blt y.1 x.1 with
  | true=>have:=blt_trans hyx h; rw [h2] at this; cases this
  | false =>
   have e:=blt_tri h1 hyx;rw [e] at h;rw [h2] at h; cases h
theorem s92 (k:Nat) (hc:CmpSlA k) (eg:∀ args w,(callFunc k args).run Tryz.prog w=.ok (.enter k args) w) (l:List Sl) (hl:Few l) (lim:Nat) (hlim:lim<100) :
  ACall Tryz.prog 92 [.msl 1000 l.length,vi 0,vi l.length,vi lim,.v (fnV k)] (heapOf [(1000,.arr 4 (l.map encSl))] hfree) fun r h' =>
   r=.tup []∧∃ l' : List Sl,l'.Perm l∧l'.Pairwise (fun x y=>blt y.path x.path=false)∧h'=heapOf [(1000,.arr 4 (l'.map encSl))] hfree:=by
 have hl:l.length≤1073741824:=hl;have hE:Enters Tryz.prog 92:=ent 92 Tryz.func92 (by kernel_rfl) rfl;have hmain:=acall_sortfunc (P:=Tryz.prog) (f:=92) (α:=SlA) (rest:=[.int .i64 0,.int .i64 l.length,.int .i64 lim,fnV k]) hE encSl encSlA (k:=4) (fun _=>rfl) (fun _=>rfl) (ltOf cfSlA) (fun x a=>a.1=x.path) l (by omega) ?_ ?_ ?_
 ·refine ⟨hE,fun g w vals q1 q2 q3=>(hmain.2 g w vals q1 q2 q3).mono fun _ _ ⟨v,r,h',g',e1,⟨e2,l',p1,⟨al,a1,a2,a3⟩,p2⟩,rest⟩=>⟨v,r,h',g',e1,⟨e2,l',p1,?_,p2⟩,rest⟩⟩;rw [List.pairwise_iff_getElem] at a3 ⊢;intro i j hi hj hij
  have:=a3 i j (by omega) (by omega) hij
  rw [ltSlA] at this;have e1:=a2 i _ _ (Ge hi) (Ge (by omega));have e2:=a2 j _ _ (Ge hj) (Ge (by omega));rw [← e1,← e2];exact this
 ·intro x hx g w vs hr
  match vs,hr with
  | [a,b,c,d],hr =>
   have h1:=(hr.2.2 0 (Go.Eng.vs x.path) a rfl rfl).v_eq;subst h1;exact ⟨⟨x.path,⟨b,hr.2.1 b (by simp)⟩,⟨c,hr.2.1 c (by simp)⟩,⟨d,hr.2.1 d (by simp)⟩⟩,rfl,rfl⟩
  | [],hr=>have:=hr.1; simp at this
  | [_],hr=>have:=hr.1; simp at this
  | [_,_],hr=>have:=hr.1; simp at this
  | [_,_,_],hr=>have:=hr.1; simp at this
  | _ :: _ :: _ :: _ :: _ :: _,hr=>have:=hr.1; simp at this
 ·intro w b cap d hH hb hsz hdl;have hcmp:CmpLays Tryz.prog k #[] encSlA 4 cfSlA b 0 d.size w:=fun _ _ _ _ x y=>hc x y _;have hp:=AnyQ.pdqsortCmpFunc_all Tryz.layPdqSel 4 Tryz.isAgg51 Tryz.sizeOf51 encSlA cfSlA k #[] swoSlA b 0 cap d w eg hcmp ⟨fun _=>rfl,fun x v hv=>by
    simp only [encSlA,List.mem_cons,List.mem_nil_iff,or_false] at hv;rcases hv with rfl | rfl | rfl | rfl
    ·rfl
    ·exact x.2.1.2
    ·exact x.2.2.1.2
    ·exact x.2.2.2.2,hH,hb⟩ (d.size+1) 0 d.size lim d w (by omega) rfl (SWK.start hH) (Nat.zero_le _) (Nat.le_refl _) hsz (by omega) (Or.inl rfl)
  rw [hdl] at hp ⊢;refine hp.mono ?_
  rintro e w' ⟨rfl,n,os,rfl⟩
  have h:=pdq_sorts (ltOf cfSlA) swoSlA d 0 d.size lim true true (Nat.zero_le _) (Nat.le_refl _) (Or.inl rfl);rw [hdl] at h;exact ⟨rfl,_,n,os,h.1,h.2,rfl⟩
 ·intro e w;subst e;exact AnyF.pdqsortCmpFunc_none Tryz.layPdqSel none 0 lim (fnV k) w
theorem sorted_unique {l l' : List Sl} (h1:IncS l) (h2:IncS l') (hm:∀ y,y ∈ l↔y ∈ l'):l=l':=by
 induction l generalizing l' with
 | nil =>
  cases l' with
  | nil=>rfl
  | cons y l'=>have:=(hm y).2 (List.mem_cons_self ..); cases this
 | cons x l ih =>
  cases l' with
  | nil=>have:=(hm x).1 (List.mem_cons_self ..); cases this
  | cons y l' =>
   obtain ⟨a1,a2⟩:=List.pairwise_cons.1 h1;obtain ⟨b1,b2⟩:=List.pairwise_cons.1 h2;have e:x=y:=by
    rcases List.mem_cons.1 ((hm x).1 (List.mem_cons_self ..)) with e | e
    ·exact e
    ·rcases List.mem_cons.1 ((hm y).2 (List.mem_cons_self ..)) with e2 | e2
     ·exact e2.symm
     ·have c1:=b1 x e;have c2:=a1 y e2
      have:=blt_trans c1 c2
      rw [blt_irrefl] at this; cases this
   subst e
   congr 1
   refine ih a2 b2 fun z=>⟨fun hz=>?_,fun hz=>?_⟩
   ·rcases List.mem_cons.1 ((hm z).1 (List.mem_cons_of_mem _ hz)) with e | e
    ·subst e
     have:=a1 z hz
     rw [blt_irrefl] at this; cases this
    ·exact e
   ·rcases List.mem_cons.1 ((hm z).2 (List.mem_cons_of_mem _ hz)) with e | e
    ·subst e
     have:=b1 z hz
     rw [blt_irrefl] at this; cases this
    ·exact e
theorem sortP_of {l l' : List Sl} (hn:(l.map (·.path)).Nodup) (hp:l'.Perm l) (hs:l'.Pairwise fun x y=>blt y.path x.path=false):l'=sortP l:=by
 refine sorted_unique ?_ (sortP_inc hn) fun y=>by rw [hp.mem_iff,sortP_mem]
 have hn' : (l'.map (·.path)).Nodup:=(hp.map (·.path)).nodup_iff.2 hn;show l'.Pairwise _;rw [List.pairwise_iff_getElem] at hs ⊢;intro i j hi hj hij;cases hb:blt l'[i].path l'[j].path with
 | true=>rfl
 | false =>
  have e:=blt_tri hb (hs i j hi hj hij)
  have:=(List.pairwise_iff_getElem.1 hn') i j (by simpa using hi) (by simpa using hj) hij
  simp at this;exact absurd e this
theorem s47 (k:Nat) (hc:CmpSlA k) (eg:∀ args w,(callFunc k args).run Tryz.prog w=.ok (.enter k args) w) (l:List Sl) (hl:Few l) (hn:(l.map (·.path)).Nodup) :
  ACall Tryz.prog 47 [.msl 1000 l.length,.v (fnV k)] (heapOf [(1000,.arr 4 (l.map encSl))] hfree) fun r h' =>
   r=.tup []∧h'=heapOf [(1000,.arr 4 ((sortP l).map encSl))] hfree:=by
 obtain ⟨lim,hlim,hb⟩:=c105 l.length hl;refine acall_sub (cxe pl0) [(1000,1000)] rfl tab_ok hm rfl Tryz.func47 (by kernel_rfl) rfl (Nz rfl) (by kernel_rfl) rfl ?_;refine Xi .pure (Xi _ (Yi (hb) ?_));refine Xi (.gen [(1000,1000)] 0) (Yi rfl ((s92 k hc eg l hl lim hlim).imp ?_));intro r h' hq;refine Exists.elim hq.2 (fun l' hl'=>?_);have e:=sortP_of hn hl'.1 hl'.2.1;refine Xi (.tup []) (Yi ?_ (Yi rfl ?_))
 ·exact .refl _
 ·rw [hl'.2.2,e]; rfl
end Go.Eng

namespace Go.Eng
open Go.Proofs
abbrev plTa (n:Nat):Pol:=⟨[],[],[(2,n),(5,n)],[],[],[],[5],[],[],[],[2,3]⟩
theorem s46a (l:List Sl) (hl:Few l):ACall Tryz.prog 46 [sl encSl l] (heapOf [] hfree) fun r h'=>r=.msl 2000 l.length∧h'=heapOf [(2000,.arr 4 (l.map encSl))] hfree:=by
 refine acall_sub (cxe (plTa 4)) [(2,2000)] rfl tab_ok hm rfl Tryz.func46 (by kernel_rfl) rfl (Nz rfl) (by kernel_rfl) rfl ?_;have bulk:AllLen 4 (l.map encSl)∧([]:List (List AV)).length=0∧(([]:List (List AV)).length+(l.map encSl).length)*40≤140737488355328∧([]:List (List AV)).length+(l.map encSl).length≤9223372036854775807:=by
  refine ⟨allLen_map (enc:=encSl) (n:=4) (fun _=>rfl) l,rfl,?_,?_⟩ <;> simp only [List.length_nil,Lm] <;> unfold Few at hl <;> omega
 have e1:AV.msl 2000 (([]:List (List AV)).length+(l.map encSl).length)=.msl 2000 l.length:=by simp
 refine Xi 0 ?_;refine Xi 0 ?_;refine Yi ?_ ?_
 ·intro _;refine Xi ⟨[(0,sl encSl l)],[],hfree⟩ (Yi ⟨Z1,Tv,Fh,ext_dec (by kernel_rfl)⟩ ?_)
  refine Xi 2 ?_;refine Yi bulk ?_;exact Xi _ (Yi (.refl _) (Yi e1 rfl))
 ·intro h;have h:l.map encSl=[]:=h;refine Yi ?_ ?_
  ·refine Xi ⟨[],[],hfree⟩ (Yi ⟨trivial,trivial,fun _=>.inl rfl,ext_dec (by kernel_rfl)⟩ ?_)
   refine Xi 2 ?_;exact Xi _ (Yi (.refl _) (Yi (show AV.msl 2000 0=_ by rw [List.map_eq_nil_iff.1 h]; rfl) (show heapOf [(2000,HO.arr 4 [])] hfree=_ by rw [h])))
  ·refine Xi ⟨[(0,sl encSl l)],[],hfree⟩ (Yi ⟨Z1,Tv,Fh,ext_dec (by kernel_rfl)⟩ ?_)
   refine Xi 2 ?_;refine Yi bulk ?_;exact Xi _ (Yi (.refl _) (Yi e1 rfl))
end Go.Eng
