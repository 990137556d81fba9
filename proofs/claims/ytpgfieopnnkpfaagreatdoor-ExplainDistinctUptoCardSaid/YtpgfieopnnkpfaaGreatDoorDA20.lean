/- Lemmas for the claims of this seat, without a condition: part 20 (C65, C66, C67, C68, C69, C56, C57, C58, C59, C70, C71, C72, C73, J1, LayItoa, E1, E2). -/
import Derived.Test.YtpgfieopnnkpfaaGreatDoorDA19
import Derived.Test.YtpgfieopnnkpfaaGreatDoorCards
import Derived.Test.YtpgfieopnnkpfaaGreatDoorTie
import Derived.ProofKit
import Derived.OpenShut
import Derived.Deep.DeepHandedRow
import Derived.Lib.LaidTab
import Derived.Stop.LaidErr
import Derived.Shelf.Strconv.Itoa3
import Derived.Room.Shelf.Join48
import Derived.Shelf.Strings.Prefix
import Derived.Ground.NamesProg
import Derived.Lib.AppendIntMem
namespace Go.Eng
open Go.Proofs
theorem pathsIx_snoc:∀ (y:List Rl) (acc:List ByteArray) (r:Rl),pathsIx (y++[r]) acc=if (pathsIx y acc).any (fun p=>decide (p=r.path)) then pathsIx y acc else pathsIx y acc++[r.path]
 | [],acc,r=>rfl
 | s :: y,acc,r=>by rw [List.cons_append,pathsIx,pathsIx,pathsIx_snoc y]
theorem pathsIx_nodup:∀ (y:List Rl) (acc:List ByteArray),acc.Nodup→(pathsIx y acc).Nodup
 | [],_,h=>h
 | s :: y,acc,h=>by
  rw [pathsIx];refine pathsIx_nodup y _ ?_;split
  ·exact h
  ·rename_i hn;rw [List.nodup_append];refine ⟨h,by simp,fun a ha b hb e=>?_⟩;rw [List.mem_singleton] at hb;exact hn (any_path.2 (by rw [← hb,← e]; exact ha))
abbrev ofP (y:List Rl) (p:ByteArray):List (List AV):=(y.filter fun r=>decide (r.path=p)).map encRl
abbrev grpE (y:List Rl) (q:ByteArray × Nat):Value × AV:=(.string q.1,.slice (.id (q.2+50) 9) (ofP y q.1))
abbrev grp (y:List Rl):List (Value × AV):=(pathsIx y []).zipIdx.map (grpE y)
def tokG (y:List Rl) (l:Nat):HO:=match (pathsIx y [])[l]? with
 | some q=>.tok 9 (ofP y q).length
 | none=>.free
def hbG (y:List Rl) (j:Nat):HO:=bif Nat.ble 50 j then tokG y (j - 50) else .free
theorem hbG_at (y:List Rl) (l:Nat):hbG y (l+50)=tokG y l:=by
 unfold hbG;rw [show Nat.ble 50 (l+50)=true by rw [Nat.ble_eq]; omega,Nat.add_sub_cancel]; rfl
theorem hbG_lt (y:List Rl) {j:Nat} (h:j<50):hbG y j=.free:=by
 unfold hbG;rw [show Nat.ble 50 j=false by rw [Bool.eq_false_iff]; intro hc; rw [Nat.ble_eq] at hc; omega]; rfl
theorem ofP_snoc (y:List Rl) (r:Rl) (q:ByteArray):ofP (y++[r]) q=if r.path=q then ofP y q++[encRl r] else ofP y q:=by
 unfold ofP;rw [List.filter_append]
 by_cases h:r.path=q
 ·rw [if_pos h,List.filter_cons_of_pos (by simpa using h)]; simp
 ·rw [if_neg h,List.filter_cons_of_neg (by simpa using h)]; simp
theorem zip_get {l:List ByteArray} {q:ByteArray × Nat} (h:q ∈ l.zipIdx):l[q.2]?=some q.1:=by
 obtain ⟨a,b⟩:=q;exact List.mem_zipIdx_iff_getElem?.1 h
open Classical in
theorem mput_app {kvs:List (Value × AV)} {k:Value} {a:AV} (h:∀ a',(k,a') ∉ kvs):mput kvs k a=kvs++[(k,a)]:=by
 unfold mput;rw [if_neg (fun ⟨a',h'⟩=>h a' h')]
open Classical in
theorem mput_map {kvs:List (Value × AV)} {k:Value} {a a' : AV} (h:(k,a') ∈ kvs):mput kvs k a=kvs.map fun p=>if p.1=k then (k,a) else p:=by
 unfold mput;rw [if_pos ⟨a',h⟩]
section
variable {y:List Rl} {r:Rl} {k:Nat}
theorem paths_old (h:(pathsIx y [])[k]?=some r.path):pathsIx (y++[r]) []=pathsIx y []:=by
 rw [pathsIx_snoc,if_pos (any_path.2 (List.mem_of_getElem? h))]
theorem paths_new (h:r.path ∉ pathsIx y []):pathsIx (y++[r]) []=pathsIx y []++[r.path]:=by
 rw [pathsIx_snoc,if_neg (fun hc=>h (any_path.1 hc))]
theorem nodup_get {l:List ByteArray} (hd:l.Nodup) {i j:Nat} {p:ByteArray} (h1:l[i]?=some p) (h2:l[j]?=some p):i=j:=by
 obtain ⟨a1,a2⟩:=List.getElem?_eq_some_iff.1 h1;obtain ⟨b1,b2⟩:=List.getElem?_eq_some_iff.1 h2;exact (List.getElem_inj hd).1 (a2.trans b2.symm)
open Classical in
theorem grp_old (h:(pathsIx y [])[k]?=some r.path):mput (grp y) (.string r.path) (.slice (.id (k+50) 9) (ofP y r.path++[encRl r]))=grp (y++[r]):=by
 have hd:=pathsIx_nodup y [] List.nodup_nil;have hm:grpE y (r.path,k) ∈ grp y:=List.mem_map.2 ⟨_,List.mem_zipIdx_iff_getElem?.2 h,rfl⟩;rw [mput_map (a':=.slice (.id (k+50) 9) (ofP y r.path)) hm];unfold grp;rw [paths_old h,List.map_map];refine List.map_congr_left fun q hq=>?_;have hg:=zip_get hq;obtain ⟨q,j⟩:=q;show (if Value.string q=Value.string r.path then _ else _)=grpE (y++[r]) (q,j);have hg:(pathsIx y [])[j]?=some q:=hg
 by_cases he:q=r.path
 ·subst he
  have:j=k:=nodup_get hd hg h
  subst this;rw [if_pos rfl];show _=(Value.string r.path,AV.slice (.id (j+50) 9) (ofP (y++[r]) r.path));rw [ofP_snoc,if_pos rfl]
 ·rw [if_neg (fun e=>he (by simpa using e))];show (Value.string q,AV.slice (.id (j+50) 9) (ofP y q))=(Value.string q,AV.slice (.id (j+50) 9) (ofP (y++[r]) q));rw [ofP_snoc,if_neg (fun e=>he e.symm)]
theorem ofP_new (h:r.path ∉ pathsIx y []):ofP y r.path=[]:=by
 have:y.filter (fun s=>decide (s.path=r.path))=[]:=by
  rw [List.filter_eq_nil_iff];intro s hs he;exact h ((pathsIx_mem y [] r.path).2 (.inr ⟨s,hs,of_decide_eq_true he⟩))
 unfold ofP;rw [this]; rfl
theorem grp_none (h:r.path ∉ pathsIx y []) (a:AV):(Value.string r.path,a) ∉ grp y:=by
 intro hc;obtain ⟨q,h1,h2⟩:=List.mem_map.1 hc;simp only [grpE,Prod.mk.injEq,Value.string.injEq] at h2;exact h (by rw [← h2.1]; exact List.mem_of_getElem? (zip_get h1))
theorem grp_new (h:r.path ∉ pathsIx y []):mput (grp y) (.string r.path) (.slice (.id ((pathsIx y []).length+50) 9) [encRl r])=grp (y++[r]):=by
 rw [mput_app (fun a=>grp_none h a)];unfold grp;rw [paths_new h,List.zipIdx_append,List.map_append]
 congr 1
 ·refine List.map_congr_left fun q hq=>?_;have hg:=zip_get hq
  have:q.1≠r.path:=fun e=>h (by rw [← e]; exact List.mem_of_getElem? hg)
  show (Value.string q.1,AV.slice (.id (q.2+50) 9) (ofP y q.1))=(Value.string q.1,AV.slice (.id (q.2+50) 9) (ofP (y++[r]) q.1));rw [ofP_snoc,if_neg (fun e=>this e.symm)]
 ·show [_]=[(Value.string r.path,AV.slice (.id (0+(pathsIx y []).length+50) 9) (ofP (y++[r]) r.path))];rw [ofP_snoc,if_pos rfl,ofP_new h,Nat.zero_add]; rfl
theorem grp_uniq {p:ByteArray} {j:Nat} (h:(pathsIx y [])[j]?=some p):(Value.string p,AV.slice (.id (j+50) 9) (ofP y p)) ∈ grp y∧∀ b,(Value.string p,b) ∈ grp y→b=AV.slice (.id (j+50) 9) (ofP y p):=by
 refine ⟨List.mem_map.2 ⟨(p,j),List.mem_zipIdx_iff_getElem?.2 h,rfl⟩,fun b hb=>?_⟩;obtain ⟨q,h1,h2⟩:=List.mem_map.1 hb;simp only [grpE,Prod.mk.injEq,Value.string.injEq] at h2;have hg:=zip_get h1;rw [h2.1] at hg
 have:=nodup_get (pathsIx_nodup y [] List.nodup_nil) hg h
 rw [← h2.2,h2.1,this]
theorem tok_at {p:ByteArray} {j:Nat} (h:(pathsIx y [])[j]?=some p):tokG y j=.tok 9 (ofP y p).length:=by
 unfold tokG; rw [h]
theorem tok_old (h:(pathsIx y [])[k]?=some r.path) (l:Nat):(bif Nat.beq (l+50) (k+50) then HO.tok 9 ((ofP y r.path).length+1) else tokG y l)=tokG (y++[r]) l:=by
 by_cases he:l=k
 ·subst he;rw [show Nat.beq (l+50) (l+50)=true from Nat.beq_refl _];unfold tokG;rw [paths_old h,h];show HO.tok 9 _=HO.tok 9 (ofP (y++[r]) r.path).length;rw [ofP_snoc,if_pos rfl,List.length_append]; rfl
 ·rw [show Nat.beq (l+50) (k+50)=false by rw [Bool.eq_false_iff]; intro hc; have:=Nat.eq_of_beq_eq_true hc; omega];show tokG y l=_;unfold tokG;rw [paths_old h];cases hq:(pathsIx y [])[l]? with
  | none=>rfl
  | some q =>
   show HO.tok 9 (ofP y q).length=HO.tok 9 (ofP (y++[r]) q).length;rw [ofP_snoc,if_neg];intro e;subst e;exact he (nodup_get (pathsIx_nodup y [] List.nodup_nil) hq h)
theorem tok_new (h:r.path ∉ pathsIx y []) (l:Nat):(bif Nat.beq (l+50) ((pathsIx y []).length+50) then HO.tok 9 1 else tokG y l)=tokG (y++[r]) l:=by
 by_cases he:l=(pathsIx y []).length
 ·subst he;rw [show Nat.beq ((pathsIx y []).length+50) ((pathsIx y []).length+50)=true from Nat.beq_refl _];unfold tokG;rw [paths_new h];simp only [List.getElem?_append_right (Nat.le_refl _),Nat.sub_self,List.getElem?_cons_zero];show HO.tok 9 1=HO.tok 9 (ofP (y++[r]) r.path).length;rw [ofP_snoc,if_pos rfl,ofP_new h]; rfl
 ·rw [show Nat.beq (l+50) ((pathsIx y []).length+50)=false by rw [Bool.eq_false_iff]; intro hc; have:=Nat.eq_of_beq_eq_true hc; omega];show tokG y l=_;unfold tokG;rw [paths_new h]
  by_cases hl:l<(pathsIx y []).length
  ·rw [List.getElem?_append_left hl,Ge hl];show HO.tok 9 (ofP y (pathsIx y [])[l]).length=HO.tok 9 (ofP (y++[r]) (pathsIx y [])[l]).length;rw [ofP_snoc,if_neg];intro e;exact h (by rw [e]; exact List.getElem_mem hl)
  ·rw [List.getElem?_eq_none (by omega),List.getElem?_eq_none (by rw [List.length_append]; simp; omega)]
end
theorem idsKV_all {h:Nat→HO} : ∀ {kvs:List (Value × AV)},(∀ p ∈ kvs,idsB h p.2=true)→idsKV h kvs=true
 | [],_=>rfl
 | p :: r,hk=>by
  unfold idsKV;rw [hk p (List.mem_cons_self ..)];exact idsKV_all (fun q hq=>hk q (List.mem_cons_of_mem _ hq))
theorem grp_ids (y:List Rl) {h:Nat→HO} (hh:∀ l,h (l+50)=tokG y l):idsKV h (grp y)=true:=by
 refine idsKV_all fun p hp=>?_;obtain ⟨q,h1,rfl⟩:=List.mem_map.1 hp;show idIn h (q.2+50)=true;unfold idIn;rw [hh,tok_at (zip_get h1)]
theorem hbG_step {y:List Rl} {h h' : Nat→HO} (hh:∀ l,h (l+50)=tokG y l) (j:Nat):hbG y j=.free∨(h j=hbG y j∧idsH h' (hbG y j)=true):=by
 by_cases hj:j<50
 ·exact .inl (hbG_lt y hj)
 ·obtain ⟨l,rfl⟩ : ∃ l,j=l+50:=⟨j - 50,by omega⟩
  right
  rw [hbG_at];refine ⟨hh l,?_⟩;unfold tokG;cases (pathsIx y [])[l]? <;> rfl
theorem rel_new {x:List Rl} (hx:checkIx x=0) {i:Nat} (hi:i<x.length):mput ((x.take i).map kvR) (keyVl (keyR x[i])) (.agg (encRl x[i]))=(x.take (i+1)).map kvR:=by
 rw [mput_app]
 ·rw [List.take_add_one,Ge hi,List.map_append]; rfl
 intro a ha;obtain ⟨r,hr,he,_⟩:=kvR_mem ha;obtain ⟨j,hj,e2⟩:=List.mem_iff_getElem.1 hr;rw [List.length_take] at hj;rw [List.getElem_take] at e2;have hp:=(checkIx_ok hx).2
 have:=(List.pairwise_iff_getElem.1 hp) j i (by omega) hi (by omega)
 rw [e2] at this;exact ltR_irrefl this he
abbrev pl84:Pol:=⟨[],[],[],[],[8,9],[9],[40],[],[],[],[8,9,10,11]⟩
abbrev zT:List AV:=[.v (.map none),.v (.map none)]
theorem c84_bad (x:List Rl) (ifs:List (List AV)) (h64:PC 115 [ixV x ifs] (vi (checkIx x))) (h0:checkIx x≠0):H84 x ifs:=by
 have ht:tblV x=.tup [.agg [.cmap shK [],.cmap shS []],vi (checkIx x)]:=by unfold tblV; rw [if_neg h0]
 unfold H84;rw [ht];refine Ps pl84 Tryz.func138 rfl (Nz rfl) ?_;refine Xi 0 ?_;refine Xi 0 ?_;refine Yi (Nz rfl) ?_;refine Xi 0 ?_;refine Yi (Nz rfl) ?_;refine Xi .pure (Xi _ (Yi (h64) ?_));refine Xi 0 ?_;refine Yi ?_ ?_
 ·intro _;refine Xi 0 ?_;refine Yi (Nz rfl) ?_;refine Yi (Nz rfl) ?_;refine Yi (Nz rfl) ?_;exact .refl _
 ·intro h;exact absurd h (fun hc=>hc h0)
theorem pathsIx_len:∀ (y:List Rl) (acc:List ByteArray),(pathsIx y acc).length≤acc.length+y.length
 | [],acc=>by simp [pathsIx]
 | r :: y,acc=>by
  rw [pathsIx];refine Nat.le_trans (pathsIx_len y _) ?_;split
  ·simp only [List.length_cons]; omega
  ·simp only [List.length_append,List.length_cons,List.length_nil]; omega
section
attribute [local irreducible] appendK
theorem c84_ok (x:List Rl) (ifs:List (List AV)) (h64:PC 115 [ixV x ifs] (vi (checkIx x))) (h0:checkIx x=0) (hlen:x.length≤256):H84 x ifs:=by
 have ht:tblV x=.tup [.agg [.cmap shK (x.map kvR),.cmap shS ((pathsIx x []).map (kvP x))],vi 0]:=by unfold tblV; rw [if_pos h0]
 unfold H84;rw [ht];rw [h0] at h64;refine Ps pl84 Tryz.func138 rfl (Nz rfl) ?_;refine Xi 0 ?_;refine Xi 0 ?_;refine Yi (Nz rfl) ?_;refine Xi 0 ?_;refine Yi (Nz rfl) ?_;refine Xi .pure (Xi _ (Yi (h64) ?_));refine Xi 0 ?_;refine Yi ?_ ?_
 ·intro hc;exact absurd (show (0:Int)≠0 from hc) (by decide)
 intro _;refine Xi 0 ?_;refine Xi {i:Nat // i≤x.length} (Xi (fun i=>⟨[(2,.ref 2 0),(4,.ref 4 0),(18,sl encRl x),(19,vi (x.map encRl).length),(20,vi i.1)],[(2,.cells zT),(4,.cells [.mref 8,.mref 9]),(8,.map shK ((x.take i.1).map kvR)),(9,.mapU shS (grp (x.take i.1)))],hbG (x.take i.1)⟩) (Xi (fun i=>x.length - i.1) (Yi (Xi ⟨0,Nat.zero_le _⟩ ?_) ?_)))
 ·refine ⟨Z5,Z4,fun j=>.inl ?_,Tv⟩;show hbG [] j=.free;unfold hbG;cases Nat.ble 50 j <;> rfl
 intro ⟨i,i1⟩;have i1:i≤x.length:=i1;refine Xi 0 ?_;refine Yi ?_ ?_
 ·intro h;have h:(i:Int)<(x.map encRl).length:=h;have h:i<x.length:=by simpa using h
  have hg:x[i]?=some x[i]:=Ge h;have htake:x.take (i+1)=x.take i++[x[i]]:=by rw [List.take_add_one,hg]; rfl
  refine Xi 0 ?_;refine Xi (encRl x[i]) (Yi (Yi (Nn i) (by simp [hg])) (Yi rfl ?_));refine Yi (Nz rfl) (Yi (Nz rfl) ?_);refine Xi ⟨[(2,.ref 2 0),(4,.ref 4 0),(7,.ref 7 0),(18,sl encRl x),(19,vi (x.map encRl).length),(20,vi i)],[(2,.cells zT),(4,.cells [.mref 8,.mref 9]),(7,.cells (encRl x[i])),(8,.map shK ((x.take i).map kvR)),(9,.mapU shS (grp (x.take i)))],hbG (x.take i)⟩ (Yi ?_ ?_)
  ·exact ⟨Z6,⟨Zr,Zr,Zr,Zr,⟨rfl,grp_ids _ (hbG_at _)⟩,Tv⟩,hbG_step (hbG_at _),Tv⟩
  refine Xi 0 ?_;refine Yi (Nz rfl) ?_;refine Xi _ (Yi (c108 x[i]) ?_);refine Yi (Nz rfl) ?_;refine Yi (by kernel_rfl) ?_;have e8:mput ((x.take i).map kvR) (keyVl (keyR x[i])) (.agg (encRl x[i]))=(x.take (i+1)).map kvR:=rel_new h0 h;refine Xi ⟨[(2,.ref 2 0),(4,.ref 4 0),(7,.ref 7 0),(18,sl encRl x),(19,vi (x.map encRl).length),(20,vi i)],[(2,.cells zT),(4,.cells [.mref 8,.mref 9]),(7,.cells (encRl x[i])),(8,.map shK ((x.take (i+1)).map kvR)),(9,.mapU shS (grp (x.take i)))],hbG (x.take i)⟩ (Yi ?_ ?_)
  ·exact ⟨Z6,⟨Zr,Zr,Zr,⟨congrArg (HO.map shK) e8,rfl⟩,⟨rfl,grp_ids _ (hbG_at _)⟩,Tv⟩,hbG_step (hbG_at _),Tv⟩
  have hL:((x.take i).filter (fun r=>decide (r.path=x[i].path))).length≤256:=by
   have:=List.length_filter_le (fun r:Rl=>decide (r.path=x[i].path)) (x.take i)
   rw [List.length_take] at this; omega
  have hP:∀ l,hbG (x.take i) (l+50)=tokG (x.take i) l:=hbG_at _;refine Or.elim (Classical.em (x[i].path ∈ pathsIx (x.take i) [])) (fun hp=>?_) (fun hp=>?_)
  ·refine Exists.elim (List.mem_iff_getElem?.1 hp) (fun k hk=>?_);have hu:=grp_uniq hk;refine Xi 0 ?_;refine Or.inl (Xi (.slice (.id (k+50) 9) (ofP (x.take i) x[i].path)) (Yi hu ?_));refine Yi (Nz rfl) ?_;have hr:hbG (x.take i) (k+50)=.tok 9 (ofP (x.take i) x[i].path).length:=by rw [hP,tok_at hk]
   have hl:(ofP (x.take i) x[i].path).length≤256:=by rw [Lm]; exact hL
   refine appendK_tok (e:=89) (m:=8) (es2:=[encRl x[i]]) rfl rfl rfl (fun _ h=>h) hr ⟨rfl,trivial⟩ (by show (_+1)*120≤_; omega) (by show _+1≤_; omega) ?_;have hk256:k<256:=by
    have:=(List.getElem?_eq_some_iff.1 hk).1
    have:=pathsIx_len (x.take i) []
    rw [List.length_take] at this;simp only [List.length_nil] at this;omega
   have hp':=hk;refine Yi (drawOk_small ⟨smallF_none _,smallF_none _,smallF_none _,smallF_none _,smallF_none _,smallF_none _,smallF_none _,smallF_none _,smallF_none _,smallF_none _,smallF_some (show 39<10000000 by decide),smallF_some (by show _+50<10000000; omega),smallF_some (show 9<10000000 by decide),trivial⟩ (by kernel_rfl)) ?_;have e9:mput (grp (x.take i)) (.string x[i].path) (.slice (.id (k+50) 9) (ofP (x.take i) x[i].path++[encRl x[i]]))=grp (x.take (i+1)):=by rw [htake]; exact grp_old hp'
   have hG:∀ l,(bif Nat.beq (l+50) (k+50) then HO.tok 9 ((ofP (x.take i) x[i].path).length+1) else tokG (x.take i) l)=tokG (x.take (i+1)) l:=by rw [htake]; exact tok_old hp'
   refine Xi ⟨[(2,.ref 2 0),(4,.ref 4 0),(18,sl encRl x),(19,vi (x.map encRl).length),(20,vi i)],[(2,.cells zT),(4,.cells [.mref 8,.mref 9]),(8,.map shK ((x.take (i+1)).map kvR)),(9,.mapU shS (grp (x.take (i+1))))],hbG (x.take (i+1))⟩ (Yi ?_ ?_)
   ·refine ⟨Z5,⟨Zr,Zr,Zr,⟨congrArg (HO.mapU shS) e9,grp_ids _ (hbG_at _)⟩,Tv⟩,hbG_step (fun l=>?_),Tv⟩;show (bif Nat.beq (l+50) (k+50) then HO.tok 9 ((ofP (x.take i) x[i].path).length+1) else hbG (x.take i) (l+50))=_;rw [hP]; exact hG l
   refine Xi 0 ?_;refine Yi (Ii i (by omega)) ?_;refine Xi ⟨i+1,by omega⟩ ?_;exact ⟨Dl x.length i (by omega),Z5,⟨Zr,Zr,Zr,⟨rfl,grp_ids _ (hbG_at _)⟩,Tv⟩,hbG_step (hbG_at _),Tv⟩
  ·have hp':=hp;have hlen2:(pathsIx (x.take i) []).length≤256:=by
    have:=pathsIx_len (x.take i) []
    rw [List.length_take] at this;simp only [List.length_nil] at this;omega
   have hn:=grp_none hp;refine Xi ((pathsIx (x.take i) []).length+50) ?_;refine Or.inr (Yi hn ?_);refine Yi (Nz rfl) ?_;have hr:hbG (x.take i) ((pathsIx (x.take i) []).length+50)=.free:=by
    rw [hP]; unfold tokG; rw [List.getElem?_eq_none (Nat.le_refl _)]
   refine appendK_new (e:=89) (m:=8) (es2:=[encRl x[i]]) rfl rfl rfl (fun _ h=>h) hr rfl ⟨rfl,trivial⟩ (by show 1*120≤_; omega) (by show 1≤_; omega) ?_;refine Yi (drawOk_small ⟨smallF_none _,smallF_none _,smallF_none _,smallF_none _,smallF_none _,smallF_none _,smallF_none _,smallF_none _,smallF_none _,smallF_none _,smallF_some (show 39<10000000 by decide),smallF_some (by show _+50<10000000; omega),smallF_some (show 9<10000000 by decide),trivial⟩ (by kernel_rfl)) ?_;have e9:mput (grp (x.take i)) (.string x[i].path) (.slice (.id ((pathsIx (x.take i) []).length+50) 9) [encRl x[i]])=grp (x.take (i+1)):=by rw [htake]; exact grp_new hp'
   have hG:∀ l,(bif Nat.beq (l+50) ((pathsIx (x.take i) []).length+50) then HO.tok 9 1 else tokG (x.take i) l)=tokG (x.take (i+1)) l:=by rw [htake]; exact tok_new hp'
   refine Xi ⟨[(2,.ref 2 0),(4,.ref 4 0),(18,sl encRl x),(19,vi (x.map encRl).length),(20,vi i)],[(2,.cells zT),(4,.cells [.mref 8,.mref 9]),(8,.map shK ((x.take (i+1)).map kvR)),(9,.mapU shS (grp (x.take (i+1))))],hbG (x.take (i+1))⟩ (Yi ?_ ?_)
   ·refine ⟨Z5,⟨Zr,Zr,Zr,⟨congrArg (HO.mapU shS) e9,grp_ids _ (hbG_at _)⟩,Tv⟩,hbG_step (fun l=>?_),Tv⟩;show (bif Nat.beq (l+50) ((pathsIx (x.take i) []).length+50) then HO.tok 9 1 else hbG (x.take i) (l+50))=_;rw [hP]; exact hG l
   refine Xi 0 ?_;refine Yi (Ii i (by omega)) ?_;refine Xi ⟨i+1,by omega⟩ ?_;exact ⟨Dl x.length i (by omega),Z5,⟨Zr,Zr,Zr,⟨rfl,grp_ids _ (hbG_at _)⟩,Tv⟩,hbG_step (hbG_at _),Tv⟩
 ·intro h;have h:¬ (i:Int)<(x.map encRl).length:=h;have h:¬ i<x.length:=by simpa using h
  have et:x.take i=x:=List.take_of_length_le (by omega);refine Xi ⟨[(2,.ref 2 0),(4,.ref 4 0)],[(2,.cells zT),(4,.cells [.mref 8,.mref 9]),(8,.map shK ((x.take i).map kvR)),(9,.mapU shS (grp (x.take i)))],hbG (x.take i)⟩ (Yi ?_ ?_)
  ·exact ⟨Z2,⟨Zr,Zr,Zr,⟨rfl,grp_ids _ (hbG_at _)⟩,Tv⟩,hbG_step (hbG_at _),Tv⟩
  refine Xi 0 ?_;refine Yi (Nz rfl) ?_;refine Yi (Nz rfl) ?_;refine Yi (Nz rfl) ?_;have es:∀ h:Nat→HO,strM h (grp (x.take i))=(pathsIx x []).map (kvP x):=fun h=>by
   rw [et];unfold strM grp;rw [List.map_map];refine List.ext_getElem? fun j=>?_;rw [List.getElem?_map,List.getElem?_map,List.getElem?_zipIdx];cases (pathsIx x [])[j]? <;> rfl
  have e1:(x.take i).map kvR=x.map kvR:=by rw [et]
  exact .of_eq (show AV.tup [.agg [.cmap shK ((x.take i).map kvR),.cmap shS (strM _ (grp (x.take i)))],vi 0]=_ by rw [e1,es])
end
theorem c84 (x:List Rl) (ifs:List (List AV)) (hx:∀ r ∈ x,FewR r):H84 x ifs:=by
 by_cases h0:checkIx x=0
 ·exact c84_ok x ifs (c64 c155 x ifs hx) h0 (ix_few h0).1
 ·exact c84_bad x ifs (c64 c155 x ifs hx) h0
end Go.Eng

namespace Go.Eng
open Go.Proofs
end Go.Eng

namespace Go.Eng
open Go.Proofs
end Go.Eng

namespace Go.Eng
open Go.Proofs
end Go.Eng

namespace Go.Eng
open Go.Proofs
section
variable {S:Type} {x:List Rl} {roots:List Rq} {s:List Sl} {step:S→Vis→S} {st0:S} {before:List Sl} {needs:List Rq} {n:Nat} {st:S}
end
end Go.Eng

namespace Go.Eng
open Go.Proofs
end Go.Eng

namespace Go.Eng
open Go.Proofs
end Go.Eng

namespace Go.Eng
open Go.Proofs
abbrev nilA:AV:=.v (.slice none 0 0)
end Go.Eng

namespace Go.Eng
open Go.Proofs
end Go.Eng

namespace Go.Eng
open Go.Proofs
theorem deriveGo_in {x:List Rl} {roots:List Rq} {l0:List Nf} : ∀ (l:List Nf) (d d' : List (List Tm)),(∀ i ∈ l,i ∈ l0)→(∀ t ∈ d,InU (pathsU x roots l0) t)→deriveGo x roots l d=some d'→∀ t ∈ d',InU (pathsU x roots l0) t
 | [],d,d',_,hd,h=>by
  have:d=d':=Option.some.inj h
  exact this▸hd
 | i :: l,d,d',hi,hd,h=>by
  unfold deriveGo at h;cases e:inferP x roots d i with
  | none=>rw [e] at h; cases h
  | some t =>
   rw [e] at h;refine deriveGo_in l (d++[t]) d' (fun j hj=>hi j (List.mem_cons_of_mem _ hj)) (fun u hu=>?_) h;rcases List.mem_append.1 hu with hu | hu
   ·exact hd u hu
   ·rw [List.mem_singleton.1 hu]; exact inferP_in (hi i (List.mem_cons_self ..)) hd e
end Go.Eng

namespace Go.Eng
open Go.Proofs
section
variable {l:List Rl} {roots t:List Rq} {d:List ByteArray} {n:Nat}
end
end Go.Eng

namespace Go.Eng
open Go.Proofs
theorem few_mt (s:ByteArray) (h:s.size≤10):FewS s:=by unfold FewS; omega
theorem ex_few:(∀ r ∈ exIx,FewR r)∧∀ q ∈ exRoots,FewQ q:=by
 have hq:∀ q ∈ exRoots,FewQ q:=fun q hq=>by
  obtain rfl:=List.mem_singleton.1 hq;exact ⟨by decide,few_mt _ (by decide)⟩
 refine ⟨fun r hr=>?_,hq⟩;unfold exIx at hr;simp only [List.mem_cons,List.mem_nil_iff,or_false] at hr;rcases hr with rfl | rfl | rfl
 ·refine ⟨few_mt _ (by decide),fun q hq=>?_⟩;obtain rfl:=List.mem_singleton.1 hq;exact ⟨by decide,few_mt _ (by decide)⟩
 ·exact ⟨few_mt _ (by decide),fun q hq=>by cases hq⟩
 ·exact ⟨few_mt _ (by decide),fun q hq=>by cases hq⟩
theorem ex_ck:Ck exIx [] exRoots:=⟨ex_few.1,ex_few.2,fun _=>c165 _ _ _ (c84 _ _ ex_few.1)⟩
end Go.Eng

namespace Go.Eng
open Go.Proofs
structure Lim (x:List Rl) (roots:List Rq):Prop where
 ix:Few x
 rs:Few roots
 rel:∀ r ∈ x,Few r.reqs∧FewR r
 rq:∀ q ∈ roots,FewQ q
end Go.Eng

namespace Go.Proofs.YtpgfieopnnkpfaaGreatDoor.joins
open Go Go.Eng Go.Proofs Go.ChangeShapes Go.WideShapes Go.ChangeAt Go.RowKit

section
variable {H:Type} {enc:TypeId × Value→H} {w:World}
theorem all_le {d:DataW H} {l:List (DataW H)} (h:d ∈ l):Rows.uptoBulk d≤Rows.uptoBulkAll l:=by
 induction l with
 | nil=>cases h
 | cons x r ih =>
  simp only [Rows.uptoBulkAll]
  cases List.mem_cons.1 h with
  | inl e=>subst e; omega
  | inr e=>have:=ih e; omega
theorem one_le (d:DataW H):1≤Rows.uptoBulk d:=by
 cases d with
 | lit l=>cases l <;> simp [Rows.uptoBulk]
 | nil=>simp [Rows.uptoBulk]
 | ptr d=>simp [Rows.uptoBulk]
 | slice elems spare=>simp [Rows.uptoBulk]
 | agg parts=>simp [Rows.uptoBulk]
 | iface t d=>simp [Rows.uptoBulk]
 | map entries=>simp [Rows.uptoBulk]
 | held h=>simp [Rows.uptoBulk]
theorem len_le (l:List (DataW H)):l.length≤Rows.uptoBulkAll l:=by
 induction l with
 | nil=>simp [Rows.uptoBulkAll]
 | cons x r ih=>have:=one_le x; simp only [Rows.uptoBulkAll,List.length_cons]; omega
theorem bulk_ok:BulkOk (H:=H) Rows.uptoBulk where
 slice es sp:=by
  have h1:=len_le es
  refine ⟨by simp only [Rows.uptoBulk]; omega,fun d hd=>?_⟩
  have:=all_le hd
  simp only [Rows.uptoBulk]; omega
 agg ps d hd:=by
  have:=all_le hd
  simp only [Rows.uptoBulk]; omega
 str b:=by simp only [Rows.uptoBulk]; omega
theorem app_all (l r:List (DataW H)):Rows.uptoBulkAll (l++r)=Rows.uptoBulkAll l+Rows.uptoBulkAll r:=by
 induction l with
 | nil=>simp [Rows.uptoBulkAll]
 | cons x l ih=>simp only [List.cons_append,Rows.uptoBulkAll,ih]; omega

abbrev NB:Nat:=1048576
abbrev Op (enc:TypeId × Value→H) (w:World) (t:TypeId) {α:Type} (e:α→List AV) (ok:α→Prop):Prop:=Opens enc Tryz.prog w Rows.uptoBulk NB t e ok
theorem oI:Op enc w 3 (fun n:Int=>[vi n]) (fun _=>True):=(opens_int Tryz.underlying3).to id (fun _ _=>⟨rfl,trivial⟩)
theorem oB:Op enc w 4 (fun b:Bool=>[vb b]) (fun _=>True):=opens_bool Tryz.underlying4
theorem oS:Op enc w 9 (fun s:ByteArray=>[vs s]) (fun s=>s.size≤NB):=opens_string bulk_ok Tryz.underlying9
theorem oVer:Op enc w 83 encVer (fun _=>True) :=
 (opens_struct bulk_ok Tryz.underlying83 (L:=3) (by kernel_rfl) (opensF_cons rfl (n:=1) (by kernel_rfl) oI (opensF_cons rfl (n:=1) (by kernel_rfl) oI (opensF_cons rfl (n:=1) (by kernel_rfl) oI opensF_nil)))).to
  (fun p=>(⟨p.1,p.2.1,p.2.2.1⟩ : Ver)) (fun _ _=>⟨rfl,trivial⟩)
theorem oSpan:Op enc w 85 encSpan (fun _=>True) :=
 (opens_struct bulk_ok Tryz.underlying85 (L:=2) (by kernel_rfl) (opensF_cons rfl (n:=1) (by kernel_rfl) oI (opensF_cons rfl (n:=1) (by kernel_rfl) oI opensF_nil))).to
  (fun p=>(p.1,p.2.1)) (fun _ _=>⟨rfl,trivial⟩)
theorem oSet:Op enc w 27 (fun l:SpanL=>[sl encSpan l]) (fun l=>l.length≤NB) :=
 (opens_slice bulk_ok Tryz.underlying27 (m:=1) (by kernel_rfl) (fun _=>rfl) oSpan).to id (fun _ h=>⟨rfl,h.1⟩)
abbrev OkRq (q:Rq):Prop:=q.path.size≤NB∧q.set.length≤NB
theorem oRq:Op enc w 87 encRq OkRq :=
 (opens_struct bulk_ok Tryz.underlying87 (L:=2) (by kernel_rfl) (opensF_cons rfl (n:=1) (by kernel_rfl) oS (opensF_cons rfl (n:=1) (by kernel_rfl) oSet opensF_nil))).to
  (fun p=>(⟨p.1,p.2.1⟩ : Rq)) (fun _ h=>⟨rfl,h.1,h.2.1⟩)
abbrev OkRqs (l:List Rq):Prop:=l.length≤NB∧∀ q ∈ l,OkRq q
theorem oRqs:Op enc w 43 (fun l:List Rq=>[sl encRq l]) OkRqs :=
 opens_slice bulk_ok Tryz.underlying43 (m:=1) (by kernel_rfl) (fun _=>rfl) oRq
abbrev OkRl (r:Rl):Prop:=r.path.size≤NB∧OkRqs r.reqs
theorem oRl:Op enc w 89 encRl OkRl :=
 (opens_struct bulk_ok Tryz.underlying89 (L:=9) (by kernel_rfl) (opensF_cons rfl (n:=1) (by kernel_rfl) oS (opensF_cons rfl (n:=3) (by kernel_rfl) oVer (opensF_cons rfl (n:=1) (by kernel_rfl) oRqs
  (opensF_cons rfl (n:=1) (by kernel_rfl) oS (opensF_cons rfl (n:=1) (by kernel_rfl) oS (opensF_cons rfl (n:=1) (by kernel_rfl) oS (opensF_cons rfl (n:=1) (by kernel_rfl) oB opensF_nil)))))))).to
  (fun p=>(⟨p.1,p.2.1,p.2.2.1,p.2.2.2.1,p.2.2.2.2.1,p.2.2.2.2.2.1,p.2.2.2.2.2.2.1⟩ : Rl)) (fun _ h=>⟨rfl,h.1,h.2.2.1⟩)
theorem oRls:Op enc w 39 (fun l:List Rl=>[sl encRl l]) (fun l=>l.length≤NB∧∀ r ∈ l,OkRl r) :=
 opens_slice bulk_ok Tryz.underlying39 (m:=8) (by kernel_rfl) (fun _=>rfl) oRl
theorem oIfc:Op enc w 357 (fun s:ByteArray=>[vs s,.junk,.junk,.junk,.junk]) (fun _=>True) :=
 (opens_struct bulk_ok Tryz.underlying357 (L:=5) (by kernel_rfl) (opensF_cons rfl (n:=1) (by kernel_rfl) oS (opensF_cons rfl (n:=1) (by kernel_rfl) (opens_any Tryz.underlying352) (opensF_cons rfl (n:=1) (by kernel_rfl) (opens_any Tryz.underlying353)
  (opensF_cons rfl (n:=1) (by kernel_rfl) (opens_any Tryz.underlying354) (opensF_cons rfl (n:=1) (by kernel_rfl) (opens_any Tryz.underlying355) opensF_nil)))))).to (fun p=>p.1) (fun _ _=>⟨rfl,trivial⟩)
theorem oIfs:Op enc w 40 (fun l:List ByteArray=>[sl (fun s=>[vs s,.junk,.junk,.junk,.junk]) l]) (fun _=>True) :=
 (opens_slice bulk_ok Tryz.underlying40 (m:=4) (by kernel_rfl) (fun _=>rfl) oIfc).to id (fun _ _=>⟨rfl,trivial⟩)
theorem oIx:Op enc w 42 (fun p:List Rl × List (List AV)=>[sl encRl p.1,.slice .none p.2]) (fun p=>p.1.length≤NB∧∀ r ∈ p.1,OkRl r) :=
 (opens_struct bulk_ok Tryz.underlying42 (L:=2) (by kernel_rfl) (opensF_cons rfl (n:=1) (by kernel_rfl) oRls (opensF_cons rfl (n:=1) (by kernel_rfl) oIfs opensF_nil))).to
  (fun p=>(p.1,p.2.1.map (fun s=>[vs s,.junk,.junk,.junk,.junk]))) (fun _ h=>⟨rfl,h.1⟩)
theorem oSl:Op enc w 126 encSl (fun y=>y.path.size≤NB) :=
 (opens_struct bulk_ok Tryz.underlying126 (L:=4) (by kernel_rfl) (opensF_cons rfl (n:=1) (by kernel_rfl) oS (opensF_cons rfl (n:=3) (by kernel_rfl) oVer opensF_nil))).to
  (fun p=>(⟨p.1,p.2.1⟩ : Sl)) (fun _ h=>⟨rfl,h.1⟩)
theorem oSls:Op enc w 63 (fun l:List Sl=>[sl encSl l]) (fun l=>l.length≤NB∧∀ y ∈ l,y.path.size≤NB) :=
 opens_slice bulk_ok Tryz.underlying63 (m:=3) (by kernel_rfl) (fun _=>rfl) oSl
theorem oNf:Op enc w 73 encNf (fun i=>i.path.size≤NB) :=
 (opens_struct bulk_ok Tryz.underlying73 (L:=6) (by kernel_rfl) (opensF_cons rfl (n:=1) (by kernel_rfl) oI (opensF_cons rfl (n:=1) (by kernel_rfl) oS (opensF_cons rfl (n:=1) (by kernel_rfl) oI
  (opensF_cons rfl (n:=1) (by kernel_rfl) oI (opensF_cons rfl (n:=1) (by kernel_rfl) oI (opensF_cons rfl (n:=1) (by kernel_rfl) oI opensF_nil))))))).to
  (fun p=>(⟨p.1,p.2.1,p.2.2.1,p.2.2.2.1,p.2.2.2.2.1,p.2.2.2.2.2.1⟩ : Nf)) (fun _ h=>⟨rfl,h.2.1⟩)
theorem oNfs:Op enc w 32 (fun l:List Nf=>[sl encNf l]) (fun l=>l.length≤NB∧∀ i ∈ l,i.path.size≤NB) :=
 opens_slice bulk_ok Tryz.underlying32 (m:=5) (by kernel_rfl) (fun _=>rfl) oNf
theorem oSk:Op enc w 122 encSk (fun y=>y.path.size≤NB) :=
 (opens_struct bulk_ok Tryz.underlying122 (L:=3) (by kernel_rfl) (opensF_cons rfl (n:=1) (by kernel_rfl) oS (opensF_cons rfl (n:=1) (by kernel_rfl) oI (opensF_cons rfl (n:=1) (by kernel_rfl) oI opensF_nil)))).to
  (fun p=>(⟨p.1,p.2.1,p.2.2.1⟩ : Sk)) (fun _ h=>⟨rfl,h.1⟩)
theorem oSks:Op enc w 64 (fun l:List Sk=>[sl encSk l]) (fun l=>l.length≤NB∧∀ y ∈ l,y.path.size≤NB) :=
 opens_slice bulk_ok Tryz.underlying64 (m:=2) (by kernel_rfl) (fun _=>rfl) oSk
abbrev OkTm (t:Tm):Prop:=t.path.size≤NB∧t.set.length≤NB
theorem oTm:Op enc w 29 encTm OkTm :=
 (opens_struct bulk_ok Tryz.underlying29 (L:=3) (by kernel_rfl) (opensF_cons rfl (n:=1) (by kernel_rfl) oS (opensF_cons rfl (n:=1) (by kernel_rfl) oB (opensF_cons rfl (n:=1) (by kernel_rfl) oSet opensF_nil)))).to
  (fun p=>(⟨p.1,p.2.1,p.2.2.1⟩ : Tm)) (fun _ h=>⟨rfl,h.1,h.2.2.1⟩)
theorem oTms:Op enc w 23 (fun l:List Tm=>[sl encTm l]) (fun l=>l.length≤NB∧∀ t ∈ l,OkTm t) :=
 opens_slice bulk_ok Tryz.underlying23 (m:=2) (by kernel_rfl) (fun _=>rfl) oTm
abbrev OkAn (a:An):Prop:=a.sel.length≤NB∧a.infs.length≤NB∧a.skips.length≤NB
theorem oAn:Op enc w 66 encAn OkAn :=
 (opens_struct bulk_ok Tryz.underlying66 (L:=4) (by kernel_rfl) (opensF_cons rfl (n:=1) (by kernel_rfl) oB (opensF_cons rfl (n:=1) (by kernel_rfl) oSls (opensF_cons rfl (n:=1) (by kernel_rfl) oNfs
  (opensF_cons rfl (n:=1) (by kernel_rfl) oSks opensF_nil))))).to
  (fun p=>(⟨p.1,p.2.1,p.2.2.1,p.2.2.2.1⟩ : An)) (fun _ h=>⟨rfl,h.2.1.1,h.2.2.1.1,h.2.2.2.1.1⟩)
theorem few_of {n:Nat} (h:n≤NB):n≤1073741824:=Nat.le_trans h (by decide)
theorem lim_of {x:List Rl} {roots:List Rq} (h:x.length≤NB∧∀ r ∈ x,OkRl r) (k:OkRqs roots):Lim x roots where
 ix:=few_of h.1
 rs:=few_of k.1
 rel r hr:=⟨few_of (h.2 r hr).2.1,few_of (h.2 r hr).1,fun q hq=>⟨few_of ((h.2 r hr).2.2 q hq).2,few_of ((h.2 r hr).2.2 q hq).1⟩⟩
 rq q hq:=⟨few_of (k.2 q hq).2,few_of (k.2 q hq).1⟩
end

theorem ok_agg {P:Program} {W:World} {base:Nat} {t:TypeId} {v:Value} {fs:Array Field} (hu:P.underlying t=some (.struct fs)) (h:Value.okWide P W .any base t v):∃ cs,v=.agg cs:=by
 unfold Value.okWide at h
 rw [hu] at h
 obtain ⟨cs,e,_⟩:=h
 exact ⟨cs,e⟩
theorem ok_slice {P:Program} {W:World} {base:Nat} {t e:TypeId} {v:Value} (hu:P.underlying t=some (.slice e)) (h:Value.okWide P W .any base t v):v.oneCell'=true:=by
 unfold Value.okWide at h
 rw [hu] at h
 unfold Cell.okWide Cell.ok at h
 rw [hu] at h
 cases v <;> first | rfl | simp at h
theorem ok_int {P:Program} {W:World} {base:Nat} {t:TypeId} {k:IntKind} {v:Value} (hu:P.underlying t=some (.int k)) (h:Value.okWide P W .any base t v):v.oneCell'=true:=by
 unfold Value.okWide at h
 rw [hu] at h
 unfold Cell.okWide Cell.ok at h
 rw [hu] at h
 cases v <;> first | rfl | simp at h
theorem int_of_shape {P:Program} {w:World} {g:Nat} {t:TypeId} {k:IntKind} {zero:Array Value} (h:w.ShapedOpen P) (hg:g<P.globals.size)
  (h0:((begin P (fun _ _=>0) default).world.heap[g]?).bind Obj.row?=some (zero,t)) (hz:zero.size=1)
  (hb:P.buildable t=true) (hc:P.cellTypes P.depth t=some [t]) (hu:P.underlying t=some (.int k)):∃ p,w.cell? ⟨g,0,none⟩=some (.int k p):=by
 obtain ⟨cs,hh,hs,hr⟩:=h.1 g zero t hg h0
 obtain ⟨ts,hts,_,hall⟩:=hr hb
 rw [hc] at hts
 cases hts
 have h1:0<cs.size:=by omega
 obtain ⟨u,hu',hok⟩:=hall 0 cs[0] (by simp [h1])
 have:u=t:=by simpa using hu'.symm
 subst this
 have hcell:w.cell? ⟨g,0,none⟩=some cs[0]:=by simp [World.cell?,hh,h1]
 rw [hcell]
 unfold Cell.ok at hok
 rw [hu] at hok
 cases hv:cs[0] <;> rw [hv] at hok <;> simp at hok
 obtain ⟨rfl,_⟩:=hok
 exact ⟨_,rfl⟩
theorem maxLen_cell {W:World} (h:W.ShapedOpen Tryz.prog):∃ m,W.cell? ⟨0,0,none⟩=some (.int .i64 m) :=
 int_of_shape (t:=3) (zero:=#[.int .i64 0]) h (of_decide_eq_true (by kernel_rfl)) (by kernel_rfl) rfl (by kernel_rfl) (by kernel_rfl) Tryz.underlying3

def Start (W:World):Prop:=(∃ m,W.cell? ⟨0,0,none⟩=some (.int .i64 m))∧∀ x ∈ gTab,x.1<W.heap.size∧W.cell? ⟨x.1,x.2.1,none⟩=x.2.2
theorem start_of {W : World} {r : List (String × DataW Unit)} {a b : String × DataW Unit} (h : W.ShapedOpen Tryz.prog) (hl : laidMet Tryz.prog (a :: b :: ("internal/strconv.uint64pow10", Rows.laid_internal_strconv_uint64pow10) :: r) W) : Start W := by
 refine ⟨maxLen_cell h,?_⟩
 have ht : Go.Lib.TabIs Tryz.prog W "internal/strconv.uint64pow10" .u64 ((List.range 20).map fun i => ((10 ^ i : Nat) : Int)) :=
  Go.Lib.tabIs_of_head (g:=3) (t:=296) (e:=239) (n:=20) (by kernel_rfl) (by kernel_rfl) (by kernel_rfl) (by kernel_rfl) (by kernel_rfl) (by kernel_rfl) hl.tail.tail
 have hc := fun i => World.var?_cell (P := Tryz.prog) (n := "internal/strconv.uint64pow10") (g := 3) (by kernel_rfl) ht i
 have h0:3<W.heap.size:=cell_lt (v:=.int .u64 1) ((hc 0).trans rfl)
 intro x hx
 rcases List.mem_cons.1 hx with rfl | hx
 ·exact ⟨h0,(hc 20).trans rfl⟩
 ·obtain ⟨i,hi,rfl⟩:=List.mem_map.1 hx
  have hi:=List.mem_range.1 hi
  refine ⟨h0,(hc i).trans ?_⟩
  simp [hi]

def Still (W W' : World):Prop:=W'.os=W.os∧W'.output=W.output∧W.heap.size≤W'.heap.size∧∀ b,b<W.heap.size→W'.heap[b]?=W.heap[b]?
theorem run_true {f:Nat} {args:List AV} {vals:Array Value} {W:World} (hc:PC f args (vb true)) (hM:Start W) (hs:vals.size=args.length)
  (hr:∀ (i:Nat) (av:AV) (x:Value),args[i]?=some av→vals[i]?=some x→Rep (g00 W) W NoU av x):Calls Tryz.prog f vals W fun e W'=>e=.returned (.bool true)∧Still W W':=by
 refine (hc.2 (g00 W) W vals hs (fun i av x q1 q2=>(hr i av x q1 q2).up _) (inv00 hM.1 hM.2)).mono fun e W' ⟨v,r,h',g',e1,e2,e3,e4,_⟩=>?_
 subst e1
 obtain ⟨rfl,rfl⟩:=e2
 obtain rfl:=e3.v_eq
 exact ⟨rfl,e4.os,e4.output,e4.size,fun b hb=>e4.frame b hb (fun r h=>h.elim)⟩
theorem Still.kept {W W' : World} (h:Still W W') (may:MemPlace→Prop):W.keptBut W' may:=by
 refine ⟨h.1,h.2.1,fun i hi=>?_⟩
 rw [h.2.2.2 i hi]
 cases hh:W.heap[i]? with
 | none=>rfl
 | some o=>cases o <;> simp
theorem Still.same {W W' : World} (h:Still W W') {p:MemPlace} (hp:p.block<W.heap.size):W.sameAt W' p:=by
 cases p with
 | cell b off =>
  show W'.cell? ⟨b,off,none⟩=W.cell? ⟨b,off,none⟩
  unfold World.cell?
  rw [h.2.2.2 b hp]
 | map b=>exact h.2.2.2 b hp
theorem kids:Kids Tryz.prog (· < Tryz.prog.types.size):=kids_rows (by kernel_rfl) (by kernel_rfl)
theorem full:∀ t e,t<Tryz.prog.types.size→Tryz.prog.underlying t=some (.slice e)→0<Tryz.prog.cellsOf e:=slices_full_of Tryz.prog (by kernel_rfl)
theorem carry {H:Type} {enc:TypeId × Value→H} {W W' : World} (h:Still W W'):∀ {ts:List TypeId} {vs:List Value} {ds:List (DataW H)} {ps:List MemPlace},DataW.TrodAll enc Tryz.prog W 0 (fun _=>true) true ts vs ds ps→DataW.TrodAll enc Tryz.prog W' 0 (fun _=>true) true ts vs ds ps
 | [],[],[],_,e=>e
 | t :: ts,v :: vs,d :: ds,ps,k=>by
  have hlt:=k.lt
  obtain ⟨p,q,⟨n,h1⟩,h2,rfl⟩:=k
  exact ⟨p,q,⟨n,DataW.trod_carry n _ _ _ h1 (fun x hx=>h.same (hlt x (List.mem_append_left _ hx)))⟩,carry h h2,rfl⟩
 | [],[],_ :: _,_,k=>k.elim
 | [],_ :: _,_,_,k=>k.elim
 | _ :: _,[],_,_,k=>k.elim
 | _ :: _,_ :: _,[],_,k=>k.elim
theorem post_true {H:Type} {enc:TypeId × Value→H} {W W' : World} {f:Func} {s:ChangeSpec} {args:Array Value} {ds:List (DataW H)} {before:List MemPlace} (hst:Still W W') (hv:s.vars=[])
  (hW:DataW.Whole enc Tryz.prog f.params.toList s.vars false W args.toList ds [] before) (hr:f.resultTypes=#[4]) (hT:∀ t ∈ f.params.toList,t<Tryz.prog.types.size) (hs:s.fn H ds={ results:=[.lit (.bool true)],args:=ds }) :
  s.post enc Tryz.prog f false true false false W args (.bool true) W':=by
 have hW0:=hW
 obtain ⟨p,q,hA,hV,rfl,hz,_⟩:=hW
 rw [hv] at hV
 have hq:q=[]:=hV
 subst hq
 have hlt:=hW0.lt
 have hs2:s.fn H (ds++[])={ results:=[.lit (.bool true)],args:=ds }:=by rw [List.append_nil]; exact hs
 refine ⟨ds,[],p++[],[],p,[],hW0,?_,?_,?_,hst.kept _,fun h=>by cases h⟩
 ·rw [hs2,hr]
  exact ⟨[],[],⟨1,by rw [show (Value.bool true).cells.toList=[.bool true] from rfl,DataW.trod_step]; unfold DataW.trodStep; rw [Tryz.underlying4]⟩,rfl,rfl⟩
 ·rw [hs2]
  exact (carry hst hA).respare kids full hT (fun x hx=>by simpa using hlt x (List.mem_append_left _ hx))
 ·rw [hs2,hv]; rfl
end Go.Proofs.YtpgfieopnnkpfaaGreatDoor.joins

namespace Go.Proofs
open Go.Shelf
def Tryz.layItoa_ren:Go.Shelf.Ren:=⟨fun | 171=>39 | 243=>91 | 246=>154 | 283=>222 | 284=>223 | 285=>224 | 286=>225 | 129=>195 | 317=>279 | 318=>280 | 319=>281 | 320=>282 | 337=>324 | 338=>325 | n=>n,fun | 3=>3 | 9=>9 | 2=>2 | 4=>4 | 171=>255 | 0=>0 | 53=>239 | 37=>144 | 5=>5 | 173=>257 | 212=>296 | 51=>196 | 20=>20 | 213=>297 | 46=>159 | 232=>330 | 233=>331 | n=>n,fun | 17=>3 | 18=>4 | 19=>5 | n=>n⟩
theorem Tryz.layItoa:Go.Proofs.LaysM.n171 Tryz.prog Tryz.layItoa_ren:={
 mixed:=by kernel_rfl
 f129:=Tryz.func195.trans (congrArg some (by kernel_rfl))
 f171:=Tryz.func39.trans (congrArg some (by kernel_rfl))
 f243:=Tryz.func91.trans (congrArg some (by kernel_rfl))
 f246:=Tryz.func154.trans (congrArg some (by kernel_rfl))
 f283:=Tryz.func222.trans (congrArg some (by kernel_rfl))
 f284:=Tryz.func223.trans (congrArg some (by kernel_rfl))
 f285:=Tryz.func224.trans (congrArg some (by kernel_rfl))
 f286:=Tryz.func225.trans (congrArg some (by kernel_rfl))
 f317:=Tryz.func279.trans (congrArg some (by kernel_rfl))
 f318:=Tryz.func280.trans (congrArg some (by kernel_rfl))
 f319:=Tryz.func281.trans (congrArg some (by kernel_rfl))
 f320:=Tryz.func282.trans (congrArg some (by kernel_rfl))
 f337:=Tryz.func324.trans (congrArg some (by kernel_rfl))
 f338:=Tryz.func325.trans (congrArg some (by kernel_rfl))
 t0:=Tryz.underlying0
 a0:=Tryz.isAgg0
 z0:=Tryz.sizeOf0
 v0:=Tryz.zeroValue0
 t2:=Tryz.underlying2
 a2:=Tryz.isAgg2
 z2:=Tryz.sizeOf2
 v2:=Tryz.zeroValue2
 t3:=Tryz.underlying3
 a3:=Tryz.isAgg3
 z3:=Tryz.sizeOf3
 v3:=Tryz.zeroValue3
 t4:=Tryz.underlying4
 a4:=Tryz.isAgg4
 z4:=Tryz.sizeOf4
 v4:=Tryz.zeroValue4
 t5:=Tryz.underlying5
 a5:=Tryz.isAgg5
 z5:=Tryz.sizeOf5
 v5:=Tryz.zeroValue5
 t9:=Tryz.underlying9
 a9:=Tryz.isAgg9
 z9:=Tryz.sizeOf9
 v9:=Tryz.zeroValue9
 t20:=Tryz.underlying20
 a20:=Tryz.isAgg20
 z20:=Tryz.sizeOf20
 v20:=Tryz.zeroValue20
 t37:=Tryz.underlying144
 a37:=Tryz.isAgg144
 z37:=Tryz.sizeOf144
 v37:=Tryz.zeroValue144
 t46:=Tryz.underlying159
 a46:=Tryz.isAgg159
 z46:=Tryz.sizeOf159
 v46:=Tryz.zeroValue159
 t51:=Tryz.underlying196
 a51:=Tryz.isAgg196
 z51:=Tryz.sizeOf196
 v51:=Tryz.zeroValue196
 t53:=Tryz.underlying239
 a53:=Tryz.isAgg239
 z53:=Tryz.sizeOf239
 v53:=Tryz.zeroValue239
 t171:=Tryz.underlying255
 a171:=Tryz.isAgg255
 z171:=Tryz.sizeOf255
 v171:=Tryz.zeroValue255
 t173:=Tryz.underlying257
 a173:=Tryz.isAgg257
 z173:=Tryz.sizeOf257
 v173:=Tryz.zeroValue257
 t212:=Tryz.underlying296
 a212:=Tryz.isAgg296
 z212:=Tryz.sizeOf296
 v212:=Tryz.zeroValue296
 t213:=Tryz.underlying297
 a213:=Tryz.isAgg297
 z213:=Tryz.sizeOf297
 t232:=Tryz.underlying330
 a232:=Tryz.isAgg330
 z232:=Tryz.sizeOf330
 v232:=Tryz.zeroValue330
 t233:=Tryz.underlying331
 a233:=Tryz.isAgg331
 z233:=Tryz.sizeOf331
 v233:=Tryz.zeroValue331
 g17:=by kernel_rfl
 g18:=by kernel_rfl
 g19:=by kernel_rfl
 i0:=by kernel_rfl
 i2:=by kernel_rfl
 i3:=by kernel_rfl
 i4:=by kernel_rfl
 i5:=by kernel_rfl
 i9:=by kernel_rfl
 i20:=by kernel_rfl
 i37:=by kernel_rfl
 i46:=by kernel_rfl
 i51:=by kernel_rfl
 i53:=by kernel_rfl
 i171:=by kernel_rfl
 i173:=by kernel_rfl
 i212:=by kernel_rfl
 i232:=by kernel_rfl
 i233:=by kernel_rfl
 m17:=by kernel_rfl
 m18:=by kernel_rfl
 m19:=by kernel_rfl }
def Tryz.layJoin_ren:Go.Shelf.Ren:=⟨fun | 156=>49 | 165=>105 | 166=>106 | 169=>107 | 240=>166 | 241=>167 | 276=>234 | 277=>235 | n=>n,fun | 31=>45 | 9=>9 | 3=>3 | 4=>4 | 0=>0 | 20=>20 | 72=>146 | 76=>80 | 70=>143 | 37=>144 | 75=>79 | 127=>208 | 164=>268 | 5=>5 | 80=>148 | n=>n,fun | n=>n⟩
theorem Tryz.layJoin:Go.Proofs.Lays.n156 Tryz.prog Tryz.layJoin_ren:={
 mixed:=by kernel_rfl
 f156:=Tryz.func49.trans (congrArg some (by kernel_rfl))
 f165:=Tryz.func105.trans (congrArg some (by kernel_rfl))
 f166:=Tryz.func106.trans (congrArg some (by kernel_rfl))
 f169:=Tryz.func107.trans (congrArg some (by kernel_rfl))
 f240:=Tryz.func166.trans (congrArg some (by kernel_rfl))
 f241:=Tryz.func167.trans (congrArg some (by kernel_rfl))
 f276:=Tryz.func234.trans (congrArg some (by kernel_rfl))
 f277:=Tryz.func235.trans (congrArg some (by kernel_rfl))
 t0:=Tryz.underlying0
 a0:=Tryz.isAgg0
 z0:=Tryz.sizeOf0
 v0:=Tryz.zeroValue0
 t3:=Tryz.underlying3
 a3:=Tryz.isAgg3
 z3:=Tryz.sizeOf3
 v3:=Tryz.zeroValue3
 t4:=Tryz.underlying4
 a4:=Tryz.isAgg4
 z4:=Tryz.sizeOf4
 v4:=Tryz.zeroValue4
 t9:=Tryz.underlying9
 a9:=Tryz.isAgg9
 z9:=Tryz.sizeOf9
 v9:=Tryz.zeroValue9
 t20:=Tryz.underlying20
 a20:=Tryz.isAgg20
 z20:=Tryz.sizeOf20
 v20:=Tryz.zeroValue20
 t31:=Tryz.underlying45
 a31:=Tryz.isAgg45
 z31:=Tryz.sizeOf45
 v31:=Tryz.zeroValue45
 t37:=Tryz.underlying144
 a37:=Tryz.isAgg144
 z37:=Tryz.sizeOf144
 v37:=Tryz.zeroValue144
 t70:=Tryz.underlying143
 a70:=Tryz.isAgg143
 z70:=Tryz.sizeOf143
 v70:=Tryz.zeroValue143
 t72:=Tryz.underlying146
 a72:=Tryz.isAgg146
 z72:=Tryz.sizeOf146
 v72:=Tryz.zeroValue146
 t75:=Tryz.underlying79
 a75:=Tryz.isAgg79
 z75:=Tryz.sizeOf79
 v75:=Tryz.zeroValue79
 t76:=Tryz.underlying80
 a76:=Tryz.isAgg80
 z76:=Tryz.sizeOf80
 v76:=Tryz.zeroValue80
 t127:=Tryz.underlying208
 a127:=Tryz.isAgg208
 z127:=Tryz.sizeOf208
 v127:=Tryz.zeroValue208
 t164:=Tryz.underlying268
 a164:=Tryz.isAgg268
 z164:=Tryz.sizeOf268
 v164:=Tryz.zeroValue268 }
theorem Tryz.layJoinX:Builder.Extra Tryz.prog Tryz.layJoin_ren:={
 sizeBuilder:=by kernel_rfl
 liesBuilder:=by kernel_rfl
 t5:=Tryz.underlying5
 a5:=Tryz.isAgg5
 z5:=Tryz.sizeOf5
 v5:=Tryz.zeroValue5
 infoByte:=by kernel_rfl
 cellsByte:=by kernel_rfl
 sizeByte:=by kernel_rfl
 neB5:=by decide }
end Go.Proofs

namespace Go.Eng
open Go.Proofs Go.RowKit
theorem below_fin {g:Gh} {w w' : World} {x:Value} (hI:Inv w g hfree hfree g w) (q:Below w.heap.size w w') :
  ∃ v r h' g',Ending.returned x=.returned v∧(r=.v x∧h'=hfree)∧Rep g' w' (used h') r v∧Inv w g hfree h' g' w'∧Le hfree g w h' g' w':=by
 have hK:Keeps g w g w':=fun b o hb=>by
  have hlt:=hI.slt b o hb;exact ⟨hb,by simp only [World.cell?,q.block b hlt],fun es ck he=>(q.block b hlt).trans he⟩
 exact ⟨x,.v x,hfree,g,rfl,Zr,.v _ _,⟨q.os,q.tape,q.output,q.size,fun b hb _=>q.block b hb,fun b o hs=>Nat.lt_of_lt_of_le (hI.slt b o hs) q.size,fun _=>Tv,fun _ _ _ h=>h.elim,fun _ _ h=>h.elim,fun b o hs=>.inl hs,hI.glob.keep hK⟩,⟨.refl _ _,fun _ h=>h,hK⟩⟩
theorem pow_named : Tryz.prog.globalNamed "internal/strconv.uint64pow10" = some 3 := by decide +kernel
theorem tab_is {w : World} (h : ∀ x ∈ gTab, w.cell? ⟨x.1, x.2.1, none⟩ = x.2.2) : Go.Lib.TabIs Tryz.prog w "internal/strconv.uint64pow10" .u64 Go.Lib.pow10Tab := by
 unfold Go.Lib.TabIs World.var?;rw [pow_named];simp only [Option.bind_some];have h20:=h (3,20,none) (List.mem_cons_self ..);have hi:∀ i,i<20→w.cell? ⟨3,i,none⟩=some (.int .u64 ((10 ^ i:Nat):Int)):=fun i hi=>h (3,i,some (.int .u64 ((10 ^ i:Nat):Int))) (List.mem_cons_of_mem _ (List.mem_map.2 ⟨i,List.mem_range.2 hi,rfl⟩));have h0:=hi 0 (by decide);unfold World.cell? at h0 h20 hi;cases e:w.heap[3]? with
 | none=>rw [e] at h0; cases h0
 | some o =>
  cases o with
  | cells cs E fr =>
   simp only [e,Option.isSome_none,Bool.false_eq_true,if_false] at h20 hi;have hs:cs.size=20:=by
    have h19:=hi 19 (by decide)
    have:=(Array.getElem?_eq_some_iff.1 h19).1
    have:=Array.getElem?_eq_none_iff.1 h20
    omega
   show some cs=_
   congr 1
   apply Array.ext
   ·simp [hs,Go.Lib.pow10Tab]
   ·intro i h1 h2
    have:=hi i (by omega)
    rw [Array.getElem?_eq_getElem h1] at this;rw [Option.some.inj this];simp [Go.Lib.pow10Tab]
  | _=>rw [e] at h0; simp at h0
theorem e39 (n:Int) (h:InI64 n):PC 39 [vi n] (vs (itB n)):=by
 unfold InI64 at h;refine pcall_below [.int .i64 n] (.string (itB n)) (ent 39 Tryz.func39 (by kernel_rfl) rfl) rfl (fun g w=>.v _ _) fun w _ ht=>?_;refine (Any.strconv_Itoa Tryz.layItoa n h.1 (by omega) w (tab_is ht)).mono ?_
 rintro e w' ⟨rfl,k,os,rfl⟩
 exact ⟨rfl,Go.Lib.below_grow _ _ (Nat.le_refl _) _ _⟩
abbrev joinN (sep:ByteArray) (l:List ByteArray):Nat:=(joinB sep l).data.toList.length
theorem e49 (l:List ByteArray) (sep:ByteArray) (hl:l.length≤1073741824) (hj:joinN sep l≤281474976710656):PC 49 [sl encStr l,vs sep] (vs (joinB sep l)):=by
 refine ⟨ent 49 Tryz.func49 (by kernel_rfl) rfl,fun g w us hs hv hI=>?_⟩
 match us,hs,hv with
 | ⟨[v0,v1]⟩,_,hv =>
  have r0:Rep g w (used hfree) (.slice .none (l.map encStr)) v0:=hv 0 _ v0 rfl rfl;have r1:=(hv 1 _ v1 rfl rfl).v_eq;subst r1;have hj:(Go.Lib.join (l.map (·.data.toList)) sep.data.toList).length≤281474976710656:=by simpa [joinN,joinB] using hj
  generalize hes:l.map encStr=es at r0;have fin:∀ {e:Ending} {w' : World},e=.returned (.string (joinB sep l))∧Below w.heap.size w w'→∃ v r h' g',e=.returned v∧(r=vs (joinB sep l)∧h'=hfree)∧Rep g' w' (used h') r v∧Inv w g hfree h' g' w'∧Le hfree g w h' g' w':=by
   rintro e w' ⟨rfl,q⟩
   exact below_fin hI q
  cases r0 with
  | snil _ a cap =>
   have:l=[]:=by simpa using hes
   subst this;refine (Any.strings_Join_none Tryz.layJoin Tryz.layJoinX a cap sep w).mono fun e w' ⟨h1,h2⟩=>fin ⟨h1,?_⟩;subst h2; exact .refl _ _
  | slice _ _ b off sz cap val hc hsz hcell hrep =>
   subst hes;cases l with
   | nil=>exact (Any.strings_Join_none Tryz.layJoin Tryz.layJoinX (some ⟨b,off,none⟩) cap sep w).mono fun e w' ⟨h1,h2⟩=>fin ⟨h1,h2▸.refl _ _⟩
   | cons x r =>
    have h1:sz=1:=(hsz 0 (encStr x) rfl).symm;subst h1;have hcells:∀ (j:Nat) y,(x :: r)[j]?=some y→g.S b (off+j)∧w.cell? ⟨b,off+j,none⟩=some (.string y):=fun j y hy=>by
     have e1:((x :: r).map encStr)[j]?=some (encStr y):=by rw [List.getElem?_map,hy]; rfl
     obtain ⟨q1,q2,_⟩:=hcell j _ 0 (vs y) e1 rfl
     have:=(hrep j _ 0 (vs y) e1 rfl).v_eq
     rw [this] at q2;simp only [Nat.mul_one,Nat.add_zero] at q1 q2;exact ⟨q1,q2⟩
    have hb:b<w.heap.size:=hI.slt b _ (hcells 0 x rfl).1
    have:=Any.strings_Join_48 Tryz.layJoin Tryz.layJoinX b off cap (x :: r) sep w (fun j y hy=>(hcells j y hy).2) hb (by omega) (by simpa using hc) hj
    rw [Lm];exact this.mono fun e w' h=>fin h
end Go.Eng

namespace Go.Eng
open Go.Proofs
abbrev wv (v:Ver) (i:Nat):List ByteArray:=(List.range i).map fun j=>itB (part v j)
theorem valid_part {v:Ver} (h:validB v=true):∀ i,i<3→0≤part v i∧part v i≤999
 | 0,_=>by have:=valid_place h; exact ⟨this.1,this.2.1⟩
 | 1,_=>by have:=valid_place h; exact ⟨this.2.2.1,this.2.2.2.1⟩
 | 2,_=>by have:=valid_place h; exact ⟨this.2.2.2.2.1,this.2.2.2.2.2⟩
 | _+3,h=>by omega
theorem head_part (v:Ver) (i:Nat) (h:i<3) (K:AV→Prop):headK (([vi v.a,vi v.b,vi v.c]).drop ((i:Int).toNat*1)) K=K (vi (part v i)):=by
 match i,h with
 | 0,_=>rfl
 | 1,_=>rfl
 | 2,_=>rfl
 | _+3,h=>omega
theorem wv_succ (v:Ver) (i:Nat):wv v (i+1)=wv v i++[itB (part v i)]:=by unfold wv; rw [List.range_succ,List.map_append]; rfl
theorem wv_join (v:Ver):joinB bDot (wv v 3)=verT v.a v.b v.c:=verT_join v.a v.b v.c
theorem wv_bound (v:Ver) (h:validB v=true):joinN bDot (wv v 3)≤281474976710656:=by
 unfold joinN;rw [wv_join]
 have:=valid_place h
 have:=verT_size (a:=v.a) (b:=v.b) (c:=v.c) (by omega) (by omega) (by omega)
 have e:(verT v.a v.b v.c).data.toList.length=(verT v.a v.b v.c).size:=rfl;omega
def verE (v:Ver):Int:=if validB v then 0 else 2
abbrev verR (v:Ver):AV:=.tup [vs (verF v),vi (verE v)]
def atV (m p:Int):Ver:=if 0≤p∧p<1000000∧validB ⟨m,p / 1000,p % 1000⟩=true then ⟨m,p / 1000,p % 1000⟩ else ⟨0,0,0⟩
def atE (m p:Int):Int:=if 0≤p∧p<1000000∧validB ⟨m,p / 1000,p % 1000⟩=true then 0 else 2
theorem e78 (v:Ver):PC 78 [.agg (encVer v)] (verR v):=by
 refine Ps ⟨[],[(4,1)],[],[],[],[],[],[],[],[],[]⟩ Tryz.func78 rfl (Nz rfl) ?_;refine Yi (Nz rfl) ?_;refine Or.elim (Bt (validB v)) (fun h1=>?_) (fun h1=>?_)
 ·have h1:(validB v)=true:=h1;have hc2:=(c100 v);rw [show (validB v)=true from h1] at hc2;refine Xi .pure (Xi _ (Yi hc2 ?_));refine Yi (Nz rfl) ?_;refine Xi .pure (Xi _ (Yi (c138 v) ?_));refine Xi {i:Nat // i≤3} (Xi (fun q=>⟨[(4,.slice (.id 4 1) ((wv v q.1).map encStr)),(11,.agg [vi v.a,vi v.b,vi v.c]),(12,vi q.1)],[(4,.tok 1 q.1)],hfree⟩) (Xi (fun q=>3 - q.1) (Yi (Xi ⟨0,by decide⟩ ?_) ?_)))
  ·exact ⟨Z3,Z1,Fh,Tv⟩
  intro ⟨i,i1⟩;have i1:i≤3:=i1;have hrl:(List.range i).length=i:=List.length_range;refine Yi (fun h3=>?_) (fun h3=>?_)
  ·have h3:(i:Int)<(3:Int):=h3;have hi3:i<3:=by omega
   refine Yi ⟨by show (0:Int)≤i; omega,by show (i:Int)<3; omega⟩ ?_;refine (head_part v i hi3 _).mpr ?_;refine Xi .pure (Xi _ (Yi (e39 (part v i) (by have q:=valid_part h1 i hi3; unfold InI64; omega)) ?_));have b4:AllLen 1 [[vs (itB (part v i))]]∧((wv v i).map encStr).length=i∧(((wv v i).map encStr).length+([[vs (itB (part v i))]]:List (List AV)).length)*16≤140737488355328∧((wv v i).map encStr).length+([[vs (itB (part v i))]]:List (List AV)).length≤9223372036854775807:=⟨⟨rfl,trivial⟩,(by simp),(by simp only [Lm,List.length_cons,List.length_nil]; omega),(by simp only [Lm,List.length_cons,List.length_nil]; omega)⟩;refine Yi b4 ?_;refine Yi (Ii i (by omega)) ?_;refine Xi ⟨i+1,by omega⟩ ?_;exact ⟨Dl 3 i (by omega),⟨⟨(show AV.slice (.id 4 1) ((wv v i).map encStr++[[vs (itB (part v i))]])=.slice (.id 4 1) ((wv v (i+1)).map encStr) by rw [wv_succ,List.map_append]; rfl),rfl⟩,Zr,Zr,Tv⟩,⟨⟨(show HO.tok 1 (((wv v i).map encStr).length+([[vs (itB (part v i))]]:List (List AV)).length)=.tok 1 (i+1) by simp),rfl⟩,Tv⟩,Fh,Tv⟩
  have h3:¬ ((i:Int)<(3:Int)):=h3;have hi3:i=3:=by omega
  have e49v:=e49 (wv v 3) bDot (by show (3:Nat)≤_; decide) (wv_bound v h1);rw [← hi3] at e49v;refine Xi .pure (Xi _ (Yi e49v ?_));exact .of_eq (show AV.tup [vs (joinB bDot (wv v i)),vi 0]=.tup [vs (verF v),vi (verE v)] by rw [hi3,wv_join]; unfold verF verE; rw [h1]; rfl)
 have h1:(validB v)=false:=h1;have hc7:=(c100 v);rw [show (validB v)=false from h1] at hc7;refine Xi .pure (Xi _ (Yi hc7 ?_));exact .of_eq (show AV.tup [vs ⟨#[]⟩,vi 2]=.tup [vs (verF v),vi (verE v)] by unfold verF verE; rw [h1]; rfl)
theorem e130 (m p:Int) (hp:InI64 p):PC 130 [vi m,vi p] (.tup [.agg (encVer (atV m p)),vi (atE m p)]):=by
 have hp : -9223372036854775808≤p∧p<9223372036854775808:=hp;refine Ps ⟨[],[],[],[],[],[],[],[],[],[],[]⟩ Tryz.func130 rfl (Nz rfl) ?_;refine Yi (fun h1=>?_) (fun h1=>?_)
 ·have h1:(p:Int)<(0:Int):=h1;refine Yi (Nz rfl) ?_;refine Yi (Nz rfl) ?_;exact .of_eq (show AV.tup [.agg [vi 0,vi 0,vi 0],vi 2]=.tup [.agg (encVer (atV m p)),vi (atE m p)] by unfold atV atE; rw [if_neg (fun h=>by omega),if_neg (fun h=>by omega)])
 have h1:¬ ((p:Int)<(0:Int)):=h1;refine Yi (fun h3=>?_) (fun h3=>?_)
 ·have h3:(1000000:Int)≤(p:Int):=h3;refine Yi (Nz rfl) ?_;refine Yi (Nz rfl) ?_;exact .of_eq (show AV.tup [.agg [vi 0,vi 0,vi 0],vi 2]=.tup [.agg (encVer (atV m p)),vi (atE m p)] by unfold atV atE; rw [if_neg (fun h=>by omega),if_neg (fun h=>by omega)])
 have h3:¬ ((1000000:Int)≤(p:Int)):=h3;refine Yi ⟨by omega,by omega,(by show InI64 (p); unfold InI64; omega)⟩ ?_;refine Yi ⟨by omega,by omega⟩ ?_;refine Yi (Nz rfl) ?_;refine Yi (Nz rfl) ?_;refine Or.elim (Bt (validB ⟨m,p / 1000,p % 1000⟩)) (fun h5=>?_) (fun h5=>?_)
 ·have h5:(validB ⟨m,p / 1000,p % 1000⟩)=true:=h5;have hc6:=(c100 ⟨m,p / 1000,p % 1000⟩);rw [show (validB ⟨m,p / 1000,p % 1000⟩)=true from h5] at hc6;refine Xi .pure (Xi _ (Yi hc6 ?_));refine Yi (Nz rfl) ?_;refine Yi (Nz rfl) ?_;refine Yi (Nz rfl) ?_;exact .of_eq (show AV.tup [.agg [vi m,vi (p / 1000),vi (p % 1000)],vi 0]=.tup [.agg (encVer (atV m p)),vi (atE m p)] by unfold atV atE; rw [if_pos ⟨by omega,by omega,h5⟩,if_pos ⟨by omega,by omega,h5⟩])
 have h5:(validB ⟨m,p / 1000,p % 1000⟩)=false:=h5;have hc8:=(c100 ⟨m,p / 1000,p % 1000⟩);rw [show (validB ⟨m,p / 1000,p % 1000⟩)=false from h5] at hc8;refine Xi .pure (Xi _ (Yi hc8 ?_));refine Yi (Nz rfl) ?_;refine Yi (Nz rfl) ?_;exact .of_eq (show AV.tup [.agg [vi 0,vi 0,vi 0],vi 2]=.tup [.agg (encVer (atV m p)),vi (atE m p)] by unfold atV atE; rw [if_neg (fun h=>by rw [h5] at h; exact absurd h.2.2 (by decide)),if_neg (fun h=>by rw [h5] at h; exact absurd h.2.2 (by decide))])
theorem e161 (m p:Int) (hp:InI64 p):PC 161 [vi p,.cptr [vi m]] (vs (verF (atV m p))):=by
 refine Ps ⟨[],[],[],[],[],[],[],[],[],[],[]⟩ Tryz.func161 rfl (Nz rfl) ?_;refine Xi .pure (Xi _ (Yi (e130 m p hp) ?_));refine Yi (Nz rfl) ?_;refine Yi (Nz rfl) ?_;refine Xi .pure (Xi _ (Yi (e78 (atV m p)) ?_));exact .refl _
end Go.Eng
