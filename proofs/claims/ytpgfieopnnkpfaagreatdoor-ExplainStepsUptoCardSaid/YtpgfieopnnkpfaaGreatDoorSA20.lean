/- Lemmas for the claims of this seat, without a condition: part 20 (C53, C54, C55, C65, C66, C67, C68). -/
import Derived.Test.YtpgfieopnnkpfaaGreatDoorSA19
namespace Go.Eng
open Go.Proofs
abbrev selV (x:List Rl) (s:List Sl):AV:=if increasing s=false then .tup [sl encRl [],vi 1] else match selP x s with
 | none=>.tup [sl encRl [],vi 6]
 | some l=>.tup [sl encRl l,vi 0]
abbrev pl85:Pol:=⟨[],[(7,9)],[],[],[],[],[],[],[],[],[7,11,13]⟩
theorem nilE (e:Int):Sub (.tup [.v (.slice none 0 0),vi e]) (.tup [.slice .none [],vi e]):=Sub.tup ⟨.nil,.refl _,trivial⟩
theorem c85 (x:List Rl) (s:List Sl) (P:List (Value × AV)) (h0:checkIx x=0) (hs:Few s):PC 139 [.agg [.cmap shK (x.map kvR),.cmap shS P],sl encSl s] (selV x s):=by
 unfold Few at hs;refine Ps pl85 Tryz.func139 rfl (Nz rfl) ?_;refine Xi {i:Nat // 1≤i∧(s=[]∨i≤s.length)∧increasing s=(match s[i - 1]? with | none=>true | some y=>incGo (some y.path) (s.drop i))} (Xi (fun i=>⟨[(1,sl encSl s),(2,.ref 2 0),(6,vi i.1)],[(2,.cells [.cmap shK (x.map kvR),.cmap shS P])],hfree⟩) (Xi (fun i=>s.length - i.1) (Yi (Xi ⟨1,Nat.le_refl _,by cases s with | nil=>exact .inl rfl | cons _ _=>exact .inr (by simp),by cases s <;> rfl⟩ ?_) ?_)))
 ·exact ⟨Z3,Z1,Fh,Tv⟩
 intro ⟨i,h1,h2,h3⟩;refine Yi ?_ ?_
 ·intro h;have h:(i:Int)<(s.map encSl).length:=h;have h:i<s.length:=by simpa using h
  have hg:s[i]?=some s[i]:=Ge h;have h' : i - 1<s.length:=by omega
  have hg' : s[i - 1]?=some s[i - 1]:=Ge h';have e1:((i:Int) - 1).toNat=i - 1:=by omega
  have hstep:increasing s=(blt s[i - 1].path s[i].path&&incGo (some s[i].path) (s.drop (i+1))):=by
   rw [h3,hg']
   have:=incGo_at s (i - 1) (by omega)
   simp only [show i - 1+1=i by omega,show i - 1+2=i+1 by omega] at this;exact this
  refine Yi (by show InI64 ((i:Int) - 1); unfold InI64; omega) ?_;refine Xi (encSl s[i - 1]) (Yi (Yi (by show (0:Int)≤(i:Int) - 1; omega) (by show (s.map encSl)[((i:Int) - 1).toNat]?=_; rw [e1]; simp [hg'])) (Yi rfl ?_));refine Xi (encSl s[i]) (Yi (Yi (Nn i) (by simp [hg])) (Yi rfl ?_));refine Yi ?_ ?_
  ·intro h4;have h4:Op.bytesLess s[i - 1].path.toList s[i].path.toList=false:=h4;rw [← blt_eq] at h4;refine Yi (by kernel_rfl) ?_;have e:AV.tup [.slice .none [],vi 1]=selV x s:=by unfold selV; rw [if_pos (by rw [hstep,h4]; rfl)]; rfl
   exact (nilE 1).trans (.of_eq e)
  ·intro h4;have h4:¬ Op.bytesLess s[i - 1].path.toList s[i].path.toList=false:=h4;rw [← blt_eq,Bool.not_eq_false] at h4;refine Yi (by kernel_rfl) ?_;refine Yi (Ii i (by omega)) ?_;refine Xi ⟨i+1,by omega,.inr (by omega),by rw [hstep,h4,show i+1 - 1=i by omega,hg]; rfl⟩ ?_;exact ⟨Dl s.length i (by omega),Z3,Z1,Fh,Tv⟩
 intro h;have h:¬ (i:Int)<(s.map encSl).length:=h;have h:¬ i<s.length:=by simpa using h
 have hinc:increasing s=true:=by
  rcases h2 with h2 | h2
  ·rw [h2]; rfl
  ·have e:i=s.length:=by omega
   rw [h3,e,List.drop_length];cases s[s.length - 1]? <;> rfl
 have es:selV x s=match selP x s with
  | none=>.tup [sl encRl [],vi 6]
  | some l=>.tup [sl encRl l,vi 0]:=by unfold selV; rw [if_neg (by rw [hinc]; decide)]
 refine Xi ⟨[(1,sl encSl s),(2,.ref 2 0),(7,.slice (.id 7 9) [])],[(2,.cells [.cmap shK (x.map kvR),.cmap shS P]),(7,.tok 9 0)],hfree⟩ (Yi ⟨Z3,Z2,Fh,Tv⟩ ?_)
 refine Xi {p:Nat × List Rl // p.1≤s.length∧p.2.length=p.1∧selP x s=(selP x (s.drop p.1)).map (p.2++·)} (Xi (fun p=>⟨[(2,.ref 2 0),(7,.slice (.id 7 9) (p.1.2.map encRl)),(30,sl encSl s),(31,vi (s.map encSl).length),(32,vi p.1.1)],[(2,.cells [.cmap shK (x.map kvR),.cmap shS P]),(7,.tok 9 (p.1.2.map encRl).length)],hfree⟩) (Xi (fun p=>s.length - p.1.1) (Yi (Xi ⟨(0,[]),Nat.zero_le _,rfl,by show selP x s=(selP x s).map _; cases selP x s <;> rfl⟩ ?_) ?_)))
 ·exact ⟨Z5,Z2,Fh,Tv⟩
 intro ⟨⟨j,l⟩,j1,j2,j3⟩;have j1:j≤s.length:=j1;have j2:l.length=j:=j2;have j3:selP x s=(selP x (s.drop j)).map (l++·):=j3;refine Yi ?_ ?_
 ·intro hj;have hj:(j:Int)<(s.map encSl).length:=hj;have hj:j<s.length:=by simpa using hj
  have hg:s[j]?=some s[j]:=Ge hj;have hd:s.drop j=s[j] :: s.drop (j+1):=List.drop_eq_getElem_cons hj;refine Xi (encSl s[j]) (Yi (Yi (Nn j) (by simp [hg])) (Yi rfl ?_));refine Yi (Nz rfl) (Yi (Nz rfl) ?_);refine Yi (Nz rfl) ?_;refine Yi ?_ ?_
  ·intro a ha;refine Exists.elim (kvR_mem (y:=s[j]) ha) (fun r hr=>?_);have e:=hr.2.2;subst e;have hf:findRl x s[j]=some r:=by rw [← hr.2.1]; exact find_key h0 hr.1
   have j4:selP x s=(selP x (s.drop (j+1))).map ((l++[r])++·):=by
    rw [j3,hd,selP,hf];cases selP x (s.drop (j+1)) with
    | none=>rfl
    | some m=>simp
   refine Yi (Nz rfl) ?_;refine Xi ⟨[(2,.ref 2 0),(7,.slice (.id 7 9) (l.map encRl)),(10,.ref 10 0),(11,vb true),(30,sl encSl s),(31,vi (s.map encSl).length),(32,vi j)],[(2,.cells [.cmap shK (x.map kvR),.cmap shS P]),(7,.tok 9 (l.map encRl).length),(10,.cells (encRl r))],hfree⟩ (Yi ⟨Z7,Z3,Fh,Tv⟩ ?_)
   refine Xi ⟨[(2,.ref 2 0),(7,.slice (.id 7 9) (l.map encRl)),(10,.ref 10 0),(30,sl encSl s),(31,vi (s.map encSl).length),(32,vi j)],[(2,.cells [.cmap shK (x.map kvR),.cmap shS P]),(7,.tok 9 (l.map encRl).length),(10,.cells (encRl r))],hfree⟩ (Yi ⟨Z6,Z3,Fh,Tv⟩ ?_)
   refine Yi (Nz rfl) ?_;have bulk:AllLen 9 [encRl r]∧(l.map encRl).length=(l.map encRl).length∧((l.map encRl).length+[encRl r].length)*120≤140737488355328∧(l.map encRl).length+[encRl r].length≤9223372036854775807 :=
    ⟨⟨rfl,trivial⟩,rfl,by rw [Lm,List.length_singleton]; omega,by rw [Lm,List.length_singleton]; omega⟩
   refine Yi bulk ?_;refine Yi (Ii j (by omega)) ?_;have e1:AV.slice (.id 7 9) (l.map encRl++[encRl r])=.slice (.id 7 9) ((l++[r]).map encRl):=by rw [List.map_append]; rfl
   have e2:HO.tok 9 ((l.map encRl).length+[encRl r].length)=.tok 9 ((l++[r]).map encRl).length:=by rw [List.map_append,List.length_append]; rfl
   refine Xi ⟨(j+1,l++[r]),by show j+1≤_; omega,by show (l++[r]).length=j+1; rw [List.length_append,List.length_singleton,j2],j4⟩ ?_;exact ⟨Dl s.length j (by omega),⟨Zr,⟨e1,rfl⟩,Zr,Zr,Zr,Tv⟩,⟨Zr,⟨e2,rfl⟩,Tv⟩,Fh,Tv⟩
  ·intro hn;have hf:findRl x s[j]=none:=by
    cases h:findRl x s[j] with
    | none=>rfl
    | some r =>
     obtain ⟨_,h2,h3⟩:=findRl_ok h;exact absurd (List.mem_map.2 ⟨r,h2,by rw [show kvR r=(keyVl (keyR r),AV.agg (encRl r)) from rfl,h3]⟩) (hn (.agg (encRl r)))
   have j4:selP x s=none:=by rw [j3,hd,selP,hf]; rfl
   refine Yi (Nz rfl) ?_;refine Xi ⟨[(11,vb false)],[],hfree⟩ (Yi ⟨Z1,Tv,Fh,Tv⟩ ?_)
   have e:AV.tup [.slice .none [],vi 6]=selV x s:=by rw [es,j4]; rfl
   exact (nilE 6).trans (.of_eq e)
 ·intro hj;have hj:¬ (j:Int)<(s.map encSl).length:=hj;have hj:¬ j<s.length:=by simpa using hj
  have j4:selP x s=some l:=by rw [j3,List.drop_eq_nil_of_le (by omega)]; simp [selP]
  have e:AV.tup [sl encRl l,vi 0]=selV x s:=by rw [es,j4]
  exact .of_eq e
end Go.Eng

namespace Go.Eng
open Go.Proofs
abbrev kvN (r:Rl):Value × AV:=(.string r.path,.agg (encRl r))
theorem kvN_mem {m:List Rl} {p:ByteArray} {a:AV} (h:(Value.string p,a) ∈ m.map kvN):∃ r ∈ m,r.path=p∧a=.agg (encRl r):=by
 obtain ⟨r,h1,h2⟩:=List.mem_map.1 h;simp only [kvN,Prod.mk.injEq,Value.string.injEq] at h2;exact ⟨r,h1,h2.1,h2.2.symm⟩
theorem find_path:∀ {m:List Rl},(m.map (·.path)).Nodup→∀ {r:Rl},r ∈ m→m.find? (fun s=>decide (s.path=r.path))=some r
 | a :: m,hn,r,hr=>by
  rw [List.map_cons,List.nodup_cons] at hn;rw [List.find?_cons];rcases List.mem_cons.1 hr with rfl | hr
  ·simp
  ·have:¬ a.path=r.path:=fun e=>hn.1 (List.mem_map.2 ⟨r,hr,e.symm⟩)
   rw [decide_eq_false this];exact find_path hn.2 hr
theorem c86 (m:List Rl) (hn:(m.map (·.path)).Nodup) (q:Rq) (hq:Few q.set):PC 140 [.agg (encRq q),.cptr [.cmap shS (m.map kvN)]] (vb (brokenP m q)):=by
 refine Ps (plcut [2]) Tryz.func140 rfl (Nz rfl) ?_;refine Yi ?_ ?_
 ·intro a ha;refine Exists.elim (kvN_mem ha) (fun r hr=>?_);have e:=hr.2.2;subst e;have hf:m.find? (fun s=>decide (s.path=q.path))=some r:=by rw [← hr.2.1]; exact find_path hn hr.1
  have hb:brokenP m q=!has q.set (plc r.ver):=by unfold brokenP; rw [hf]
  have hc:=c87 q.set (plc r.ver) hq;refine Yi (Nz rfl) ?_;refine Xi ⟨[(2,.ref 2 0),(4,.ref 4 0),(5,vb true)],[(2,.cells (encRq q)),(4,.cells (encRl r))],hfree⟩ (Yi ⟨Z3,Z2,Fh,Tv⟩ ?_)
  refine Yi (Nz rfl) ?_;refine Xi _ (Yi (c88 r) ?_);refine Or.elim (Bt (has q.set (plc r.ver))) (fun e=>?_) (fun e=>?_)
  ·rw [e] at hc;refine Xi _ (Yi (hc) ?_);refine Yi (by kernel_rfl) ?_;exact .of_eq (congrArg vb (show false=brokenP m q by rw [hb,e]; rfl))
  ·rw [e] at hc;refine Xi _ (Yi (hc) ?_);refine Yi (by kernel_rfl) ?_;exact .of_eq (congrArg vb (show true=brokenP m q by rw [hb,e]; rfl))
 ·intro hno;have hf:m.find? (fun s=>decide (s.path=q.path))=none:=by
   rw [List.find?_eq_none];intro r hr he;have he:=of_decide_eq_true he;exact hno _ (List.mem_map.2 ⟨r,hr,by rw [← he]⟩)
  have hb:brokenP m q=true:=by unfold brokenP; rw [hf]
  refine Yi (Nz rfl) ?_;refine Xi ⟨[(2,.ref 2 0),(4,.ref 4 0),(5,vb false)],[(2,.cells (encRq q)),(4,.cells zRl)],hfree⟩ (Yi ⟨Z3,Z2,Fh,Tv⟩ ?_)
  refine Yi (by kernel_rfl) ?_;exact .of_eq (congrArg vb hb.symm)
end Go.Eng

namespace Go.Eng
open Go.Proofs
end Go.Eng

namespace Go.Eng
open Go.Proofs
theorem pathsIx_snoc:∀ (y:List Rl) (acc:List ByteArray) (r:Rl),pathsIx (y++[r]) acc=if (pathsIx y acc).any (fun p=>decide (p=r.path)) then pathsIx y acc else pathsIx y acc++[r.path]
 | [],acc,r=>rfl
 | s :: y,acc,r=>by rw [List.cons_append,pathsIx,pathsIx,pathsIx_snoc y]
theorem pathsIx_nodup:∀ (y:List Rl) (acc:List ByteArray),acc.Nodup→(pathsIx y acc).Nodup
 | [],_,h=>h
 | s :: y,acc,h=>by
  rw [pathsIx];refine pathsIx_nodup y _ ?_;split
  ·exact h
  ·rename_i hn;rw [List.nodup_append];refine ⟨h,by simp,fun a ha b hb e=>?_⟩;rw [List.mem_singleton] at hb;exact hn (any_path.2 (by rw [← hb,← e]; exact ha))
abbrev ofP (y:List Rl) (p:ByteArray):List (List AV):=(y.filter fun r=>decide (r.path=p)).map encRl
abbrev grpE (y:List Rl) (q:ByteArray × Nat):Value × AV:=(.string q.1,.slice (.id (q.2+50) 9) (ofP y q.1))
abbrev grp (y:List Rl):List (Value × AV):=(pathsIx y []).zipIdx.map (grpE y)
def tokG (y:List Rl) (l:Nat):HO:=match (pathsIx y [])[l]? with
 | some q=>.tok 9 (ofP y q).length
 | none=>.free
def hbG (y:List Rl) (j:Nat):HO:=bif Nat.ble 50 j then tokG y (j - 50) else .free
theorem hbG_at (y:List Rl) (l:Nat):hbG y (l+50)=tokG y l:=by
 unfold hbG;rw [show Nat.ble 50 (l+50)=true by rw [Nat.ble_eq]; omega,Nat.add_sub_cancel]; rfl
theorem hbG_lt (y:List Rl) {j:Nat} (h:j<50):hbG y j=.free:=by
 unfold hbG;rw [show Nat.ble 50 j=false by rw [Bool.eq_false_iff]; intro hc; rw [Nat.ble_eq] at hc; omega]; rfl
theorem ofP_snoc (y:List Rl) (r:Rl) (q:ByteArray):ofP (y++[r]) q=if r.path=q then ofP y q++[encRl r] else ofP y q:=by
 unfold ofP;rw [List.filter_append]
 by_cases h:r.path=q
 ·rw [if_pos h,List.filter_cons_of_pos (by simpa using h)]; simp
 ·rw [if_neg h,List.filter_cons_of_neg (by simpa using h)]; simp
theorem zip_get {l:List ByteArray} {q:ByteArray × Nat} (h:q ∈ l.zipIdx):l[q.2]?=some q.1:=by
 obtain ⟨a,b⟩:=q;exact List.mem_zipIdx_iff_getElem?.1 h
open Classical in
theorem mput_app {kvs:List (Value × AV)} {k:Value} {a:AV} (h:∀ a',(k,a') ∉ kvs):mput kvs k a=kvs++[(k,a)]:=by
 unfold mput;rw [if_neg (fun ⟨a',h'⟩=>h a' h')]
open Classical in
theorem mput_map {kvs:List (Value × AV)} {k:Value} {a a' : AV} (h:(k,a') ∈ kvs):mput kvs k a=kvs.map fun p=>if p.1=k then (k,a) else p:=by
 unfold mput;rw [if_pos ⟨a',h⟩]
section
variable {y:List Rl} {r:Rl} {k:Nat}
theorem paths_old (h:(pathsIx y [])[k]?=some r.path):pathsIx (y++[r]) []=pathsIx y []:=by
 rw [pathsIx_snoc,if_pos (any_path.2 (List.mem_of_getElem? h))]
theorem paths_new (h:r.path ∉ pathsIx y []):pathsIx (y++[r]) []=pathsIx y []++[r.path]:=by
 rw [pathsIx_snoc,if_neg (fun hc=>h (any_path.1 hc))]
theorem nodup_get {l:List ByteArray} (hd:l.Nodup) {i j:Nat} {p:ByteArray} (h1:l[i]?=some p) (h2:l[j]?=some p):i=j:=by
 obtain ⟨a1,a2⟩:=List.getElem?_eq_some_iff.1 h1;obtain ⟨b1,b2⟩:=List.getElem?_eq_some_iff.1 h2;exact (List.getElem_inj hd).1 (a2.trans b2.symm)
open Classical in
theorem grp_old (h:(pathsIx y [])[k]?=some r.path):mput (grp y) (.string r.path) (.slice (.id (k+50) 9) (ofP y r.path++[encRl r]))=grp (y++[r]):=by
 have hd:=pathsIx_nodup y [] List.nodup_nil;have hm:grpE y (r.path,k) ∈ grp y:=List.mem_map.2 ⟨_,List.mem_zipIdx_iff_getElem?.2 h,rfl⟩;rw [mput_map (a':=.slice (.id (k+50) 9) (ofP y r.path)) hm];unfold grp;rw [paths_old h,List.map_map];refine List.map_congr_left fun q hq=>?_;have hg:=zip_get hq;obtain ⟨q,j⟩:=q;show (if Value.string q=Value.string r.path then _ else _)=grpE (y++[r]) (q,j);have hg:(pathsIx y [])[j]?=some q:=hg
 by_cases he:q=r.path
 ·subst he
  have:j=k:=nodup_get hd hg h
  subst this;rw [if_pos rfl];show _=(Value.string r.path,AV.slice (.id (j+50) 9) (ofP (y++[r]) r.path));rw [ofP_snoc,if_pos rfl]
 ·rw [if_neg (fun e=>he (by simpa using e))];show (Value.string q,AV.slice (.id (j+50) 9) (ofP y q))=(Value.string q,AV.slice (.id (j+50) 9) (ofP (y++[r]) q));rw [ofP_snoc,if_neg (fun e=>he e.symm)]
theorem ofP_new (h:r.path ∉ pathsIx y []):ofP y r.path=[]:=by
 have:y.filter (fun s=>decide (s.path=r.path))=[]:=by
  rw [List.filter_eq_nil_iff];intro s hs he;exact h ((pathsIx_mem y [] r.path).2 (.inr ⟨s,hs,of_decide_eq_true he⟩))
 unfold ofP;rw [this]; rfl
theorem grp_none (h:r.path ∉ pathsIx y []) (a:AV):(Value.string r.path,a) ∉ grp y:=by
 intro hc;obtain ⟨q,h1,h2⟩:=List.mem_map.1 hc;simp only [grpE,Prod.mk.injEq,Value.string.injEq] at h2;exact h (by rw [← h2.1]; exact List.mem_of_getElem? (zip_get h1))
theorem grp_new (h:r.path ∉ pathsIx y []):mput (grp y) (.string r.path) (.slice (.id ((pathsIx y []).length+50) 9) [encRl r])=grp (y++[r]):=by
 rw [mput_app (fun a=>grp_none h a)];unfold grp;rw [paths_new h,List.zipIdx_append,List.map_append]
 congr 1
 ·refine List.map_congr_left fun q hq=>?_;have hg:=zip_get hq
  have:q.1≠r.path:=fun e=>h (by rw [← e]; exact List.mem_of_getElem? hg)
  show (Value.string q.1,AV.slice (.id (q.2+50) 9) (ofP y q.1))=(Value.string q.1,AV.slice (.id (q.2+50) 9) (ofP (y++[r]) q.1));rw [ofP_snoc,if_neg (fun e=>this e.symm)]
 ·show [_]=[(Value.string r.path,AV.slice (.id (0+(pathsIx y []).length+50) 9) (ofP (y++[r]) r.path))];rw [ofP_snoc,if_pos rfl,ofP_new h,Nat.zero_add]; rfl
theorem grp_uniq {p:ByteArray} {j:Nat} (h:(pathsIx y [])[j]?=some p):(Value.string p,AV.slice (.id (j+50) 9) (ofP y p)) ∈ grp y∧∀ b,(Value.string p,b) ∈ grp y→b=AV.slice (.id (j+50) 9) (ofP y p):=by
 refine ⟨List.mem_map.2 ⟨(p,j),List.mem_zipIdx_iff_getElem?.2 h,rfl⟩,fun b hb=>?_⟩;obtain ⟨q,h1,h2⟩:=List.mem_map.1 hb;simp only [grpE,Prod.mk.injEq,Value.string.injEq] at h2;have hg:=zip_get h1;rw [h2.1] at hg
 have:=nodup_get (pathsIx_nodup y [] List.nodup_nil) hg h
 rw [← h2.2,h2.1,this]
theorem tok_at {p:ByteArray} {j:Nat} (h:(pathsIx y [])[j]?=some p):tokG y j=.tok 9 (ofP y p).length:=by
 unfold tokG; rw [h]
theorem tok_old (h:(pathsIx y [])[k]?=some r.path) (l:Nat):(bif Nat.beq (l+50) (k+50) then HO.tok 9 ((ofP y r.path).length+1) else tokG y l)=tokG (y++[r]) l:=by
 by_cases he:l=k
 ·subst he;rw [show Nat.beq (l+50) (l+50)=true from Nat.beq_refl _];unfold tokG;rw [paths_old h,h];show HO.tok 9 _=HO.tok 9 (ofP (y++[r]) r.path).length;rw [ofP_snoc,if_pos rfl,List.length_append]; rfl
 ·rw [show Nat.beq (l+50) (k+50)=false by rw [Bool.eq_false_iff]; intro hc; have:=Nat.eq_of_beq_eq_true hc; omega];show tokG y l=_;unfold tokG;rw [paths_old h];cases hq:(pathsIx y [])[l]? with
  | none=>rfl
  | some q =>
   show HO.tok 9 (ofP y q).length=HO.tok 9 (ofP (y++[r]) q).length;rw [ofP_snoc,if_neg];intro e;subst e;exact he (nodup_get (pathsIx_nodup y [] List.nodup_nil) hq h)
theorem tok_new (h:r.path ∉ pathsIx y []) (l:Nat):(bif Nat.beq (l+50) ((pathsIx y []).length+50) then HO.tok 9 1 else tokG y l)=tokG (y++[r]) l:=by
 by_cases he:l=(pathsIx y []).length
 ·subst he;rw [show Nat.beq ((pathsIx y []).length+50) ((pathsIx y []).length+50)=true from Nat.beq_refl _];unfold tokG;rw [paths_new h];simp only [List.getElem?_append_right (Nat.le_refl _),Nat.sub_self,List.getElem?_cons_zero];show HO.tok 9 1=HO.tok 9 (ofP (y++[r]) r.path).length;rw [ofP_snoc,if_pos rfl,ofP_new h]; rfl
 ·rw [show Nat.beq (l+50) ((pathsIx y []).length+50)=false by rw [Bool.eq_false_iff]; intro hc; have:=Nat.eq_of_beq_eq_true hc; omega];show tokG y l=_;unfold tokG;rw [paths_new h]
  by_cases hl:l<(pathsIx y []).length
  ·rw [List.getElem?_append_left hl,Ge hl];show HO.tok 9 (ofP y (pathsIx y [])[l]).length=HO.tok 9 (ofP (y++[r]) (pathsIx y [])[l]).length;rw [ofP_snoc,if_neg];intro e;exact h (by rw [e]; exact List.getElem_mem hl)
  ·rw [List.getElem?_eq_none (by omega),List.getElem?_eq_none (by rw [List.length_append]; simp; omega)]
end
theorem idsKV_all {h:Nat→HO} : ∀ {kvs:List (Value × AV)},(∀ p ∈ kvs,idsB h p.2=true)→idsKV h kvs=true
 | [],_=>rfl
 | p :: r,hk=>by
  unfold idsKV;rw [hk p (List.mem_cons_self ..)];exact idsKV_all (fun q hq=>hk q (List.mem_cons_of_mem _ hq))
theorem grp_ids (y:List Rl) {h:Nat→HO} (hh:∀ l,h (l+50)=tokG y l):idsKV h (grp y)=true:=by
 refine idsKV_all fun p hp=>?_;obtain ⟨q,h1,rfl⟩:=List.mem_map.1 hp;show idIn h (q.2+50)=true;unfold idIn;rw [hh,tok_at (zip_get h1)]
theorem hbG_step {y:List Rl} {h h' : Nat→HO} (hh:∀ l,h (l+50)=tokG y l) (j:Nat):hbG y j=.free∨(h j=hbG y j∧idsH h' (hbG y j)=true):=by
 by_cases hj:j<50
 ·exact .inl (hbG_lt y hj)
 ·obtain ⟨l,rfl⟩ : ∃ l,j=l+50:=⟨j - 50,by omega⟩
  right
  rw [hbG_at];refine ⟨hh l,?_⟩;unfold tokG;cases (pathsIx y [])[l]? <;> rfl
theorem rel_new {x:List Rl} (hx:checkIx x=0) {i:Nat} (hi:i<x.length):mput ((x.take i).map kvR) (keyVl (keyR x[i])) (.agg (encRl x[i]))=(x.take (i+1)).map kvR:=by
 rw [mput_app]
 ·rw [List.take_add_one,Ge hi,List.map_append]; rfl
 intro a ha;obtain ⟨r,hr,he,_⟩:=kvR_mem ha;obtain ⟨j,hj,e2⟩:=List.mem_iff_getElem.1 hr;rw [List.length_take] at hj;rw [List.getElem_take] at e2;have hp:=(checkIx_ok hx).2
 have:=(List.pairwise_iff_getElem.1 hp) j i (by omega) hi (by omega)
 rw [e2] at this;exact ltR_irrefl this he
abbrev pl84:Pol:=⟨[],[],[],[],[8,9],[9],[40],[],[],[],[8,9,10,11]⟩
abbrev zT:List AV:=[.v (.map none),.v (.map none)]
theorem c84_bad (x:List Rl) (ifs:List (List AV)) (h64:PC 115 [ixV x ifs] (vi (checkIx x))) (h0:checkIx x≠0):H84 x ifs:=by
 have ht:tblV x=.tup [.agg [.cmap shK [],.cmap shS []],vi (checkIx x)]:=by unfold tblV; rw [if_neg h0]
 unfold H84;rw [ht];refine Ps pl84 Tryz.func138 rfl (Nz rfl) ?_;refine Xi 0 ?_;refine Xi 0 ?_;refine Yi (Nz rfl) ?_;refine Xi 0 ?_;refine Yi (Nz rfl) ?_;refine Xi .pure (Xi _ (Yi (h64) ?_));refine Xi 0 ?_;refine Yi ?_ ?_
 ·intro _;refine Xi 0 ?_;refine Yi (Nz rfl) ?_;refine Yi (Nz rfl) ?_;refine Yi (Nz rfl) ?_;exact .refl _
 ·intro h;exact absurd h (fun hc=>hc h0)
theorem pathsIx_len:∀ (y:List Rl) (acc:List ByteArray),(pathsIx y acc).length≤acc.length+y.length
 | [],acc=>by simp [pathsIx]
 | r :: y,acc=>by
  rw [pathsIx];refine Nat.le_trans (pathsIx_len y _) ?_;split
  ·simp only [List.length_cons]; omega
  ·simp only [List.length_append,List.length_cons,List.length_nil]; omega
section
attribute [local irreducible] appendK
theorem c84_ok (x:List Rl) (ifs:List (List AV)) (h64:PC 115 [ixV x ifs] (vi (checkIx x))) (h0:checkIx x=0) (hlen:x.length≤256):H84 x ifs:=by
 have ht:tblV x=.tup [.agg [.cmap shK (x.map kvR),.cmap shS ((pathsIx x []).map (kvP x))],vi 0]:=by unfold tblV; rw [if_pos h0]
 unfold H84;rw [ht];rw [h0] at h64;refine Ps pl84 Tryz.func138 rfl (Nz rfl) ?_;refine Xi 0 ?_;refine Xi 0 ?_;refine Yi (Nz rfl) ?_;refine Xi 0 ?_;refine Yi (Nz rfl) ?_;refine Xi .pure (Xi _ (Yi (h64) ?_));refine Xi 0 ?_;refine Yi ?_ ?_
 ·intro hc;exact absurd (show (0:Int)≠0 from hc) (by decide)
 intro _;refine Xi 0 ?_;refine Xi {i:Nat // i≤x.length} (Xi (fun i=>⟨[(2,.ref 2 0),(4,.ref 4 0),(18,sl encRl x),(19,vi (x.map encRl).length),(20,vi i.1)],[(2,.cells zT),(4,.cells [.mref 8,.mref 9]),(8,.map shK ((x.take i.1).map kvR)),(9,.mapU shS (grp (x.take i.1)))],hbG (x.take i.1)⟩) (Xi (fun i=>x.length - i.1) (Yi (Xi ⟨0,Nat.zero_le _⟩ ?_) ?_)))
 ·refine ⟨Z5,Z4,fun j=>.inl ?_,Tv⟩;show hbG [] j=.free;unfold hbG;cases Nat.ble 50 j <;> rfl
 intro ⟨i,i1⟩;have i1:i≤x.length:=i1;refine Xi 0 ?_;refine Yi ?_ ?_
 ·intro h;have h:(i:Int)<(x.map encRl).length:=h;have h:i<x.length:=by simpa using h
  have hg:x[i]?=some x[i]:=Ge h;have htake:x.take (i+1)=x.take i++[x[i]]:=by rw [List.take_add_one,hg]; rfl
  refine Xi 0 ?_;refine Xi (encRl x[i]) (Yi (Yi (Nn i) (by simp [hg])) (Yi rfl ?_));refine Yi (Nz rfl) (Yi (Nz rfl) ?_);refine Xi ⟨[(2,.ref 2 0),(4,.ref 4 0),(7,.ref 7 0),(18,sl encRl x),(19,vi (x.map encRl).length),(20,vi i)],[(2,.cells zT),(4,.cells [.mref 8,.mref 9]),(7,.cells (encRl x[i])),(8,.map shK ((x.take i).map kvR)),(9,.mapU shS (grp (x.take i)))],hbG (x.take i)⟩ (Yi ?_ ?_)
  ·exact ⟨Z6,⟨Zr,Zr,Zr,Zr,⟨rfl,grp_ids _ (hbG_at _)⟩,Tv⟩,hbG_step (hbG_at _),Tv⟩
  refine Xi 0 ?_;refine Yi (Nz rfl) ?_;refine Xi _ (Yi (c108 x[i]) ?_);refine Yi (Nz rfl) ?_;refine Yi (by kernel_rfl) ?_;have e8:mput ((x.take i).map kvR) (keyVl (keyR x[i])) (.agg (encRl x[i]))=(x.take (i+1)).map kvR:=rel_new h0 h;refine Xi ⟨[(2,.ref 2 0),(4,.ref 4 0),(7,.ref 7 0),(18,sl encRl x),(19,vi (x.map encRl).length),(20,vi i)],[(2,.cells zT),(4,.cells [.mref 8,.mref 9]),(7,.cells (encRl x[i])),(8,.map shK ((x.take (i+1)).map kvR)),(9,.mapU shS (grp (x.take i)))],hbG (x.take i)⟩ (Yi ?_ ?_)
  ·exact ⟨Z6,⟨Zr,Zr,Zr,⟨congrArg (HO.map shK) e8,rfl⟩,⟨rfl,grp_ids _ (hbG_at _)⟩,Tv⟩,hbG_step (hbG_at _),Tv⟩
  have hL:((x.take i).filter (fun r=>decide (r.path=x[i].path))).length≤256:=by
   have:=List.length_filter_le (fun r:Rl=>decide (r.path=x[i].path)) (x.take i)
   rw [List.length_take] at this; omega
  have hP:∀ l,hbG (x.take i) (l+50)=tokG (x.take i) l:=hbG_at _;refine Or.elim (Classical.em (x[i].path ∈ pathsIx (x.take i) [])) (fun hp=>?_) (fun hp=>?_)
  ·refine Exists.elim (List.mem_iff_getElem?.1 hp) (fun k hk=>?_);have hu:=grp_uniq hk;refine Xi 0 ?_;refine Or.inl (Xi (.slice (.id (k+50) 9) (ofP (x.take i) x[i].path)) (Yi hu ?_));refine Yi (Nz rfl) ?_;have hr:hbG (x.take i) (k+50)=.tok 9 (ofP (x.take i) x[i].path).length:=by rw [hP,tok_at hk]
   have hl:(ofP (x.take i) x[i].path).length≤256:=by rw [Lm]; exact hL
   refine appendK_tok (e:=89) (m:=8) (es2:=[encRl x[i]]) rfl rfl rfl (fun _ h=>h) hr ⟨rfl,trivial⟩ (by show (_+1)*120≤_; omega) (by show _+1≤_; omega) ?_;have hk256:k<256:=by
    have:=(List.getElem?_eq_some_iff.1 hk).1
    have:=pathsIx_len (x.take i) []
    rw [List.length_take] at this;simp only [List.length_nil] at this;omega
   have hp':=hk;refine Yi (drawOk_small ⟨smallF_none _,smallF_none _,smallF_none _,smallF_none _,smallF_none _,smallF_none _,smallF_none _,smallF_none _,smallF_none _,smallF_none _,smallF_some (show 39<10000000 by decide),smallF_some (by show _+50<10000000; omega),smallF_some (show 9<10000000 by decide),trivial⟩ (by kernel_rfl)) ?_;have e9:mput (grp (x.take i)) (.string x[i].path) (.slice (.id (k+50) 9) (ofP (x.take i) x[i].path++[encRl x[i]]))=grp (x.take (i+1)):=by rw [htake]; exact grp_old hp'
   have hG:∀ l,(bif Nat.beq (l+50) (k+50) then HO.tok 9 ((ofP (x.take i) x[i].path).length+1) else tokG (x.take i) l)=tokG (x.take (i+1)) l:=by rw [htake]; exact tok_old hp'
   refine Xi ⟨[(2,.ref 2 0),(4,.ref 4 0),(18,sl encRl x),(19,vi (x.map encRl).length),(20,vi i)],[(2,.cells zT),(4,.cells [.mref 8,.mref 9]),(8,.map shK ((x.take (i+1)).map kvR)),(9,.mapU shS (grp (x.take (i+1))))],hbG (x.take (i+1))⟩ (Yi ?_ ?_)
   ·refine ⟨Z5,⟨Zr,Zr,Zr,⟨congrArg (HO.mapU shS) e9,grp_ids _ (hbG_at _)⟩,Tv⟩,hbG_step (fun l=>?_),Tv⟩;show (bif Nat.beq (l+50) (k+50) then HO.tok 9 ((ofP (x.take i) x[i].path).length+1) else hbG (x.take i) (l+50))=_;rw [hP]; exact hG l
   refine Xi 0 ?_;refine Yi (Ii i (by omega)) ?_;refine Xi ⟨i+1,by omega⟩ ?_;exact ⟨Dl x.length i (by omega),Z5,⟨Zr,Zr,Zr,⟨rfl,grp_ids _ (hbG_at _)⟩,Tv⟩,hbG_step (hbG_at _),Tv⟩
  ·have hp':=hp;have hlen2:(pathsIx (x.take i) []).length≤256:=by
    have:=pathsIx_len (x.take i) []
    rw [List.length_take] at this;simp only [List.length_nil] at this;omega
   have hn:=grp_none hp;refine Xi ((pathsIx (x.take i) []).length+50) ?_;refine Or.inr (Yi hn ?_);refine Yi (Nz rfl) ?_;have hr:hbG (x.take i) ((pathsIx (x.take i) []).length+50)=.free:=by
    rw [hP]; unfold tokG; rw [List.getElem?_eq_none (Nat.le_refl _)]
   refine appendK_new (e:=89) (m:=8) (es2:=[encRl x[i]]) rfl rfl rfl (fun _ h=>h) hr rfl ⟨rfl,trivial⟩ (by show 1*120≤_; omega) (by show 1≤_; omega) ?_;refine Yi (drawOk_small ⟨smallF_none _,smallF_none _,smallF_none _,smallF_none _,smallF_none _,smallF_none _,smallF_none _,smallF_none _,smallF_none _,smallF_none _,smallF_some (show 39<10000000 by decide),smallF_some (by show _+50<10000000; omega),smallF_some (show 9<10000000 by decide),trivial⟩ (by kernel_rfl)) ?_;have e9:mput (grp (x.take i)) (.string x[i].path) (.slice (.id ((pathsIx (x.take i) []).length+50) 9) [encRl x[i]])=grp (x.take (i+1)):=by rw [htake]; exact grp_new hp'
   have hG:∀ l,(bif Nat.beq (l+50) ((pathsIx (x.take i) []).length+50) then HO.tok 9 1 else tokG (x.take i) l)=tokG (x.take (i+1)) l:=by rw [htake]; exact tok_new hp'
   refine Xi ⟨[(2,.ref 2 0),(4,.ref 4 0),(18,sl encRl x),(19,vi (x.map encRl).length),(20,vi i)],[(2,.cells zT),(4,.cells [.mref 8,.mref 9]),(8,.map shK ((x.take (i+1)).map kvR)),(9,.mapU shS (grp (x.take (i+1))))],hbG (x.take (i+1))⟩ (Yi ?_ ?_)
   ·refine ⟨Z5,⟨Zr,Zr,Zr,⟨congrArg (HO.mapU shS) e9,grp_ids _ (hbG_at _)⟩,Tv⟩,hbG_step (fun l=>?_),Tv⟩;show (bif Nat.beq (l+50) ((pathsIx (x.take i) []).length+50) then HO.tok 9 1 else hbG (x.take i) (l+50))=_;rw [hP]; exact hG l
   refine Xi 0 ?_;refine Yi (Ii i (by omega)) ?_;refine Xi ⟨i+1,by omega⟩ ?_;exact ⟨Dl x.length i (by omega),Z5,⟨Zr,Zr,Zr,⟨rfl,grp_ids _ (hbG_at _)⟩,Tv⟩,hbG_step (hbG_at _),Tv⟩
 ·intro h;have h:¬ (i:Int)<(x.map encRl).length:=h;have h:¬ i<x.length:=by simpa using h
  have et:x.take i=x:=List.take_of_length_le (by omega);refine Xi ⟨[(2,.ref 2 0),(4,.ref 4 0)],[(2,.cells zT),(4,.cells [.mref 8,.mref 9]),(8,.map shK ((x.take i).map kvR)),(9,.mapU shS (grp (x.take i)))],hbG (x.take i)⟩ (Yi ?_ ?_)
  ·exact ⟨Z2,⟨Zr,Zr,Zr,⟨rfl,grp_ids _ (hbG_at _)⟩,Tv⟩,hbG_step (hbG_at _),Tv⟩
  refine Xi 0 ?_;refine Yi (Nz rfl) ?_;refine Yi (Nz rfl) ?_;refine Yi (Nz rfl) ?_;have es:∀ h:Nat→HO,strM h (grp (x.take i))=(pathsIx x []).map (kvP x):=fun h=>by
   rw [et];unfold strM grp;rw [List.map_map];refine List.ext_getElem? fun j=>?_;rw [List.getElem?_map,List.getElem?_map,List.getElem?_zipIdx];cases (pathsIx x [])[j]? <;> rfl
  have e1:(x.take i).map kvR=x.map kvR:=by rw [et]
  exact .of_eq (show AV.tup [.agg [.cmap shK ((x.take i).map kvR),.cmap shS (strM _ (grp (x.take i)))],vi 0]=_ by rw [e1,es])
end
theorem c84 (x:List Rl) (ifs:List (List AV)) (hx:∀ r ∈ x,FewR r):H84 x ifs:=by
 by_cases h0:checkIx x=0
 ·exact c84_ok x ifs (c64 c155 x ifs hx) h0 (ix_few h0).1
 ·exact c84_bad x ifs (c64 c155 x ifs hx) h0
end Go.Eng

namespace Go.Eng
open Go.Proofs
abbrev plT (n:Nat):Pol:=⟨[],[(2,n)],[],[],[],[],[5],[],[],[],[2,3]⟩
theorem c76t (l:List Rq) (hl:Few l):ACall Tryz.prog 144 [sl encRq l] (heapOf [] hfree) fun r h'=>r=.slice (.id 2000 2) (l.map encRq)∧h'=heapOf [(2000,.tok 2 (l.map encRq).length)] hfree:=by
 refine acall_sub (cxe (plT 2)) [(2,2000)] rfl tab_ok hm rfl Tryz.func144 (by kernel_rfl) rfl (Nz rfl) (by kernel_rfl) rfl ?_;have bulk:AllLen 2 (l.map encRq)∧([]:List (List AV)).length=0∧(([]:List (List AV)).length+(l.map encRq).length)*40≤140737488355328∧([]:List (List AV)).length+(l.map encRq).length≤9223372036854775807:=by
  refine ⟨allLen_map (enc:=encRq) (n:=2) (fun _=>rfl) l,rfl,?_,?_⟩ <;> simp only [List.length_nil,Lm] <;> unfold Few at hl <;> omega
 have e2:HO.tok 2 (([]:List (List AV)).length+(l.map encRq).length)=.tok 2 (l.map encRq).length:=by rw [List.length_nil,Nat.zero_add]
 have e3:AV.slice (.id 2000 2) ([]++l.map encRq)=.slice (.id 2000 2) (l.map encRq):=rfl;have full:∀ st:St,(∃ s:LS,St.le (cxe (plT 2)) st s∧True)→True:=fun _ _=>trivial;refine Xi 0 ?_;refine Xi 0 ?_;refine Yi ?_ ?_
 ·intro _;refine Xi ⟨[(0,sl encRq l)],[],hfree⟩ (Yi ⟨Z1,Tv,Fh,ext_dec (by kernel_rfl)⟩ ?_)
  refine Xi 2 ?_;refine Yi bulk ?_;exact Xi _ (Yi (.refl _) (Yi e3 (congrArg (fun o=>heapOf [(2000,o)] hfree) e2)))
 ·intro h;have h:l.map encRq=[]:=h;refine Yi ?_ ?_
  ·refine Xi ⟨[],[],hfree⟩ (Yi ⟨trivial,trivial,fun _=>.inl rfl,ext_dec (by kernel_rfl)⟩ ?_)
   refine Xi 0 ?_;exact Xi _ (Yi (.refl _) (Yi (show AV.slice (.id 2000 2) []=_ by rw [h]) (show heapOf [(2000,HO.tok 2 0)] hfree=_ by rw [h]; rfl)))
  ·refine Xi ⟨[(0,sl encRq l)],[],hfree⟩ (Yi ⟨Z1,Tv,Fh,ext_dec (by kernel_rfl)⟩ ?_)
   refine Xi 2 ?_;refine Yi bulk ?_;exact Xi _ (Yi (.refl _) (Yi e3 (congrArg (fun o=>heapOf [(2000,o)] hfree) e2)))
end Go.Eng

namespace Go.Eng
open Go.Proofs
theorem c32t (l:List Sl) (hl:Few l):ACall Tryz.prog 151 [sl encSl l] (heapOf [] hfree) fun r h'=>r=.slice (.id 2000 4) (l.map encSl)∧h'=heapOf [(2000,.tok 4 (l.map encSl).length)] hfree:=by
 refine acall_sub (cxe (plT 4)) [(2,2000)] rfl tab_ok hm rfl Tryz.func151 (by kernel_rfl) rfl (Nz rfl) (by kernel_rfl) rfl ?_;have bulk:AllLen 4 (l.map encSl)∧([]:List (List AV)).length=0∧(([]:List (List AV)).length+(l.map encSl).length)*40≤140737488355328∧([]:List (List AV)).length+(l.map encSl).length≤9223372036854775807:=by
  refine ⟨allLen_map (enc:=encSl) (n:=4) (fun _=>rfl) l,rfl,?_,?_⟩ <;> simp only [List.length_nil,Lm] <;> unfold Few at hl <;> omega
 have e2:HO.tok 4 (([]:List (List AV)).length+(l.map encSl).length)=.tok 4 (l.map encSl).length:=by rw [List.length_nil,Nat.zero_add]
 have e3:AV.slice (.id 2000 4) ([]++l.map encSl)=.slice (.id 2000 4) (l.map encSl):=rfl;refine Xi 0 ?_;refine Xi 0 ?_;refine Yi ?_ ?_
 ·intro _;refine Xi ⟨[(0,sl encSl l)],[],hfree⟩ (Yi ⟨Z1,Tv,Fh,ext_dec (by kernel_rfl)⟩ ?_)
  refine Xi 2 ?_;refine Yi bulk ?_;exact Xi _ (Yi (.refl _) (Yi e3 (congrArg (fun o=>heapOf [(2000,o)] hfree) e2)))
 ·intro h;have h:l.map encSl=[]:=h;refine Yi ?_ ?_
  ·refine Xi ⟨[],[],hfree⟩ (Yi ⟨trivial,trivial,fun _=>.inl rfl,ext_dec (by kernel_rfl)⟩ ?_)
   refine Xi 0 ?_;exact Xi _ (Yi (.refl _) (Yi (show AV.slice (.id 2000 4) []=_ by rw [h]) (show heapOf [(2000,HO.tok 4 0)] hfree=_ by rw [h]; rfl)))
  ·refine Xi ⟨[(0,sl encSl l)],[],hfree⟩ (Yi ⟨Z1,Tv,Fh,ext_dec (by kernel_rfl)⟩ ?_)
   refine Xi 2 ?_;refine Yi bulk ?_;exact Xi _ (Yi (.refl _) (Yi e3 (congrArg (fun o=>heapOf [(2000,o)] hfree) e2)))
abbrev pl47:Pol:=⟨[9,16],[],[],[],[],[],[],[],[(98,3)],[],[5,6,7,8,10,11,13,14]⟩
abbrev skV (p:List Sk × Bool):AV:=.tup [sl encSk p.1,vb p.2]
def skipAt (d:List (List Tm)) (v:Vis) (o:Rl) (x:List Rl) (k:List Sk):List Sk × Bool:=match k with
  | []=>([],false)
  | y :: k'=>if !decide (y.path=v.rel.path)||!decide (y.place=plc o.ver) then ([],false) else match nthZ d y.inf with
   | none=>([],false)
   | some t=>if entailed t (v.before++[keyR o]) then skipGo d v x k' else ([],false)
theorem skip_cons (d:List (List Tm)) (v:Vis) (o:Rl) (x:List Rl) (k:List Sk):skipGo d v (o :: x) k =
  if !decide (o.path=v.rel.path)||o.yanked||!decide (plc o.ver<plc v.rel.ver) then skipGo d v x k else
  if v.needs.any (fun q=>decide (q.path=v.rel.path)&&!has q.set (plc o.ver)) then skipGo d v x k else skipAt d v o x k:=by
 cases k <;> rfl
theorem skip_next {d:List (List Tm)} {v:Vis} {x:List Rl} {i:Nat} (h:i<x.length) {k:List Sk} {p:List Sk × Bool} (e:p=skipGo d v (x.drop i) k)
  (hs:(!decide (x[i].path=v.rel.path)||x[i].yanked||!decide (plc x[i].ver<plc v.rel.ver))=true∨v.needs.any (fun q=>decide (q.path=v.rel.path)&&!has q.set (plc x[i].ver))=true):p=skipGo d v (x.drop (i+1)) k:=by
 rw [e,List.drop_eq_getElem_cons h,skip_cons];rcases hs with hs | hs
 ·rw [if_pos hs]
 ·split
  ·rfl
  ·first | rfl | rw [if_pos hs]
theorem skip_at {d:List (List Tm)} {v:Vis} {x:List Rl} {i:Nat} (h:i<x.length) {k:List Sk} {p:List Sk × Bool} (e:p=skipGo d v (x.drop i) k)
  (h1:x[i].path=v.rel.path) (h2:x[i].yanked=false) (h3:plc x[i].ver<plc v.rel.ver) (h4:v.needs.any (fun q=>decide (q.path=v.rel.path)&&!has q.set (plc x[i].ver))=false):p=skipAt d v x[i] (x.drop (i+1)) k:=by
 rw [e,List.drop_eq_getElem_cons h,skip_cons,if_neg (by simp [h1,h2,h3]),if_neg (by rw [h4]; decide)]
theorem skip_bad:Sub (.tup [.v (.slice none 0 0),vb false]) (skV ([],false)):=Sub.tup ⟨.nil,.refl _,trivial⟩
theorem skip_tail (k:List Sk):(((k.map encSk).take ((k.map encSk).length:Int).toNat).drop (1:Int).toNat)=(k.drop 1).map encSk:=by
 rw [Int.toNat_natCast,List.take_length,List.map_drop]; rfl
theorem c47 (x:List Rl) (ifs:AV) (roots:List Rq) (d:List (List Tm)) (k:List Sk) (before:List Sl) (needs:List Rq) (r:Rl) (hx:x.length≤256) (_hd:d.length≤65536) (ht:∀ t ∈ d,FewT t) (hb:before.length≤1000) (hn:Few needs) (hq:∀ q ∈ needs,Few q.set) :
  PC 86 [.cptr (encCk x ifs roots d),sl encSk k,sl encSl before,sl encRq needs,.agg (encRl r)] (skV (skipGo d ⟨before,needs,r⟩ x k)):=by
 have hbf:Few before:=by unfold Few; omega
 obtain ⟨P,hP⟩ : ∃ P,P=skipGo d ⟨before,needs,r⟩ x k:=⟨_,rfl⟩;rw [← hP];refine Ps pl47 Tryz.func86 rfl (Nz rfl) ?_;refine Yi (Nz rfl) ?_;refine Xi .pure (Xi _ (Yi (c56 r.ver) ?_));refine Xi {p:Nat × List Sk // p.1≤x.length∧P=skipGo d ⟨before,needs,r⟩ (x.drop p.1) p.2} (Xi (fun p=>⟨[(0,.cptr (encCk x ifs roots d)),(1,sl encSk p.1.2),(2,sl encSl before),(3,sl encRq needs),(9,.ref 9 0),(12,vi (plc r.ver)),(29,sl encRl x),(30,vi (x.map encRl).length),(31,vi p.1.1)],[(9,.ro (encRl r))],hfree⟩) (Xi (fun p=>x.length - p.1.1) (Yi (Xi ⟨(0,k),Nat.zero_le _,hP⟩ ?_) ?_)))
 ·exact ⟨Z9,Z1,Fh,Tv⟩
 intro ⟨⟨i,k⟩,i1,i2⟩;have i1:i≤x.length:=i1;have i2:P=skipGo d ⟨before,needs,r⟩ (x.drop i) k:=i2;refine Yi ?_ ?_
 ·intro h;have h:(i:Int)<(x.map encRl).length:=h;have h:i<x.length:=by simpa using h
  have hg:x[i]?=some x[i]:=Ge h;refine Xi (encRl x[i]) (Yi (Yi (Nn i) (by simp [hg])) (Yi rfl ?_));refine Yi (Nz rfl) (Yi (Nz rfl) ?_);refine Xi ⟨[(0,.cptr (encCk x ifs roots d)),(1,sl encSk k),(2,sl encSl before),(3,sl encRq needs),(9,.ref 9 0),(12,vi (plc r.ver)),(15,.ref 15 0),(29,sl encRl x),(30,vi (x.map encRl).length),(31,vi i)],[(9,.ro (encRl r)),(15,.cells (encRl x[i]))],hfree⟩ (Yi ⟨Z10,Z2,Fh,Tv⟩ ?_)
  refine Yi (Nz rfl) ?_;refine Xi .pure (Xi _ (Yi (c56 x[i].ver) ?_));refine Yi (Nz rfl) ?_;refine Xi ⟨[(0,.cptr (encCk x ifs roots d)),(1,sl encSk k),(2,sl encSl before),(3,sl encRq needs),(9,.ref 9 0),(12,vi (plc r.ver)),(15,.ref 15 0),(16,.ref 16 0),(29,sl encRl x),(30,vi (x.map encRl).length),(31,vi i)],[(9,.ro (encRl r)),(15,.cells (encRl x[i])),(16,.ro [vi (plc x[i].ver)])],hfree⟩ (Yi ⟨Z11,Z3,Fh,Tv⟩ ?_)
  refine Yi ?_ ?_
  ·intro h1;have h1:x[i].path≠r.path:=h1;have i3:=skip_next h i2 (.inl (by simp [h1]));refine Xi ⟨[(0,.cptr (encCk x ifs roots d)),(1,sl encSk k),(2,sl encSl before),(3,sl encRq needs),(9,.ref 9 0),(12,vi (plc r.ver)),(29,sl encRl x),(30,vi (x.map encRl).length),(31,vi i)],[(9,.ro (encRl r))],hfree⟩ (Yi ⟨Z9,Z1,Fh,Tv⟩ ?_)
   refine Yi (Ii i (by omega)) ?_;refine Xi ⟨(i+1,k),by show i+1≤_; omega,i3⟩ ?_;exact ⟨Dl x.length i (by omega),Z9,Z1,Fh,Tv⟩
  intro h1;have h1:¬ x[i].path≠r.path:=h1;have h1:x[i].path=r.path:=Classical.not_not.1 h1;refine Yi ?_ ?_
  ·intro h2;have h2:x[i].yanked=true:=h2;have i3:=skip_next h i2 (.inl (by simp [h2]));refine Xi ⟨[(0,.cptr (encCk x ifs roots d)),(1,sl encSk k),(2,sl encSl before),(3,sl encRq needs),(9,.ref 9 0),(12,vi (plc r.ver)),(29,sl encRl x),(30,vi (x.map encRl).length),(31,vi i)],[(9,.ro (encRl r))],hfree⟩ (Yi ⟨Z9,Z1,Fh,Tv⟩ ?_)
   refine Yi (Ii i (by omega)) ?_;refine Xi ⟨(i+1,k),by show i+1≤_; omega,i3⟩ ?_;exact ⟨Dl x.length i (by omega),Z9,Z1,Fh,Tv⟩
  intro h2;have h2:x[i].yanked=false:=h2;refine Yi ?_ ?_
  ·intro h3;have h3:plc r.ver≤plc x[i].ver:=h3;have i3:=skip_next h i2 (.inl (by simp; omega));refine Xi ⟨[(0,.cptr (encCk x ifs roots d)),(1,sl encSk k),(2,sl encSl before),(3,sl encRq needs),(9,.ref 9 0),(12,vi (plc r.ver)),(29,sl encRl x),(30,vi (x.map encRl).length),(31,vi i)],[(9,.ro (encRl r))],hfree⟩ (Yi ⟨Z9,Z1,Fh,Tv⟩ ?_)
   refine Yi (Ii i (by omega)) ?_;refine Xi ⟨(i+1,k),by show i+1≤_; omega,i3⟩ ?_;exact ⟨Dl x.length i (by omega),Z9,Z1,Fh,Tv⟩
  intro h3;have h3:¬ plc r.ver≤plc x[i].ver:=h3;have h3:plc x[i].ver<plc r.ver:=by omega
  refine Xi ⟨[(0,.cptr (encCk x ifs roots d)),(1,sl encSk k),(2,sl encSl before),(3,sl encRq needs),(9,.ref 9 0),(12,vi (plc r.ver)),(15,.ref 15 0),(16,.ref 16 0),(29,sl encRl x),(30,vi (x.map encRl).length),(31,vi i)],[(9,.ro (encRl r)),(15,.cells (encRl x[i])),(16,.ro [vi (plc x[i].ver)])],hfree⟩ (Yi ⟨Z11,Z3,Fh,Tv⟩ ?_)
  have hc90:∀ q ∈ needs,PC 150 ([.agg (encRq q)]++[.cptr (encRl r),.cptr [vi (plc x[i].ver)]]) (vb (decide (q.path=r.path)&&!has q.set (plc x[i].ver))):=fun q hh=>c90 q r (plc x[i].ver) (hq q hh);have hc89:=c89 (fF:=150) (caps:=[.cptr (encRl r),.cptr [vi (plc x[i].ver)]]) (fun c hc=>by
   rcases List.mem_cons.1 hc with rfl | hc
   ·intro h; rfl
   ·obtain rfl:=List.mem_singleton.1 hc;intro h; rfl) needs (fun q=>decide (q.path=r.path)&&!has q.set (plc x[i].ver)) hc90 hn
  refine Or.elim (Bt (needs.any fun q=>decide (q.path=r.path)&&!has q.set (plc x[i].ver))) (fun h4=>?_) (fun h4=>?_)
  ·rw [h4] at hc89;refine Xi .pure (Xi _ (Yi (hc89) ?_));have i3:=skip_next h i2 (.inr h4);refine Xi ⟨[(0,.cptr (encCk x ifs roots d)),(1,sl encSk k),(2,sl encSl before),(3,sl encRq needs),(9,.ref 9 0),(12,vi (plc r.ver)),(29,sl encRl x),(30,vi (x.map encRl).length),(31,vi i)],[(9,.ro (encRl r))],hfree⟩ (Yi ⟨Z9,Z1,Fh,Tv⟩ ?_)
   refine Yi (Ii i (by omega)) ?_;refine Xi ⟨(i+1,k),by show i+1≤_; omega,i3⟩ ?_;exact ⟨Dl x.length i (by omega),Z9,Z1,Fh,Tv⟩
  rw [h4] at hc89;refine Xi .pure (Xi _ (Yi (hc89) ?_));have i4:P=skipAt d ⟨before,needs,r⟩ x[i] (x.drop (i+1)) k:=skip_at h i2 h1 h2 h3 h4;refine Xi ⟨[(0,.cptr (encCk x ifs roots d)),(1,sl encSk k),(2,sl encSl before),(3,sl encRq needs),(9,.ref 9 0),(12,vi (plc r.ver)),(15,.ref 15 0),(16,.ref 16 0),(29,sl encRl x),(30,vi (x.map encRl).length),(31,vi i)],[(9,.ro (encRl r)),(15,.cells (encRl x[i])),(16,.ro [vi (plc x[i].ver)])],hfree⟩ (Yi ⟨Z11,Z3,Fh,Tv⟩ ?_)
  refine Yi ?_ ?_
  ·intro hh;have hh:((k.map encSk).length:Int)=0:=hh;refine Yi (by kernel_rfl) ?_;have e:P=([],false):=by rw [i4,show k=[] from List.eq_nil_of_length_eq_zero (by simpa using hh)]; rfl
   exact skip_bad.trans (.of_eq (show skV ([],false)=skV P by rw [e]))
  intro hk;have hk:¬ ((k.map encSk).length:Int)=0:=hk;refine Exists.elim (show ∃ y k',k=y :: k' by cases k with | nil=>exact absurd rfl hk | cons y k'=>exact ⟨y,k',rfl⟩) (fun y hy=>?_);refine Exists.elim hy (fun k' hy=>?_);have hg0:(k.map encSk)[(0:Int).toNat]?=some (encSk y):=by rw [hy]; rfl
  have i5:P=skipAt d ⟨before,needs,r⟩ x[i] (x.drop (i+1)) (y :: k'):=by rw [← hy]; exact i4
  refine Xi (encSk y) (Yi (Yi (by decide) hg0) (Yi rfl ?_));refine Yi ?_ ?_
  ·intro hh;have hh:y.path≠r.path:=hh;refine Yi (by kernel_rfl) ?_;have e:P=([],false):=by rw [i5]; show (if _ then _ else _)=_; rw [if_pos (by simp [hh])]
   exact skip_bad.trans (.of_eq (show skV ([],false)=skV P by rw [e]))
  intro h5;have h5:¬ y.path≠r.path:=h5;have h5:y.path=r.path:=Classical.not_not.1 h5;refine Xi (encSk y) (Yi (Yi (by decide) hg0) (Yi rfl ?_));refine Yi ?_ ?_
  ·intro hh;have hh:y.place≠plc x[i].ver:=hh;refine Yi (by kernel_rfl) ?_;have e:P=([],false):=by rw [i5]; show (if _ then _ else _)=_; rw [if_pos (by simp [hh])]
   exact skip_bad.trans (.of_eq (show skV ([],false)=skV P by rw [e]))
  intro h6;have h6:¬ y.place≠plc x[i].ver:=h6;have h6:y.place=plc x[i].ver:=Classical.not_not.1 h6;have i6:P=match nthZ d y.inf with | none=>([],false) | some t=>if entailed t (before++[keyR x[i]]) then skipGo d ⟨before,needs,r⟩ (x.drop (i+1)) k' else ([],false):=by
   rw [i5]; show (if _ then _ else _)=_; rw [if_neg (by simp [h5,h6])]
  refine Xi (encSk y) (Yi (Yi (by decide) hg0) (Yi rfl ?_));refine Yi ?_ ?_
  ·intro hh;have hh:y.inf<0:=hh;refine Yi (by kernel_rfl) ?_;have e:P=([],false):=by rw [i6]; unfold nthZ; rw [if_pos hh]
   exact skip_bad.trans (.of_eq (show skV ([],false)=skV P by rw [e]))
  intro h7;have h7:¬ y.inf<0:=h7;refine Xi (encSk y) (Yi (Yi (by decide) hg0) (Yi rfl ?_));refine Yi ?_ ?_
  ·intro hh;have hh:((d.map encInc).length:Int)≤y.inf:=hh;refine Yi (by kernel_rfl) ?_;have e:P=([],false):=by rw [i6]; unfold nthZ; rw [if_neg h7,List.getElem?_eq_none (by rw [Lm] at hh; omega)]
   exact skip_bad.trans (.of_eq (show skV ([],false)=skV P by rw [e]))
  intro h8;have h8:¬ ((d.map encInc).length:Int)≤y.inf:=h8;rw [Lm] at h8;refine Yi (by kernel_rfl) ?_;refine Exists.elim (show ∃ j:Nat,y.inf=j from ⟨y.inf.toNat,by omega⟩) (fun j hj=>?_);have hj2:j<d.length:=by omega
  have hdg:d[j]?=some d[j]:=Ge hj2;have hnth:nthZ d y.inf=some d[j]:=by unfold nthZ; rw [if_neg h7,hj,Int.toNat_natCast,hdg]
  rw [hnth] at i6;have i6:P=if entailed d[j] (before++[keyR x[i]]) then skipGo d ⟨before,needs,r⟩ (x.drop (i+1)) k' else ([],false):=i6
  refine Xi ⟨[(0,.cptr (encCk x ifs roots d)),(1,sl encSk k),(2,sl encSl before),(3,sl encRq needs),(9,.ref 9 0),(12,vi (plc r.ver)),(15,.ref 15 0),(29,sl encRl x),(30,vi (x.map encRl).length),(31,vi i)],[(9,.ro (encRl r)),(15,.cells (encRl x[i]))],hfree⟩ (Yi ⟨Z10,Z2,Fh,Tv⟩ ?_)
  refine Xi 4 (Xi (before.map encSl) (Yi rfl (Yi (c32t before hbf) ?_)));refine Yi (Nz rfl) ?_;have bulk:AllLen 4 [[vs x[i].path,vi x[i].ver.a,vi x[i].ver.b,vi x[i].ver.c]]∧(before.map encSl).length=(before.map encSl).length∧((before.map encSl).length+[[vs x[i].path,vi x[i].ver.a,vi x[i].ver.b,vi x[i].ver.c]].length)*40≤140737488355328∧(before.map encSl).length+[[vs x[i].path,vi x[i].ver.a,vi x[i].ver.b,vi x[i].ver.c]].length≤9223372036854775807 :=
   ⟨⟨rfl,trivial⟩,rfl,by rw [Lm,List.length_singleton]; omega,by rw [Lm,List.length_singleton]; omega⟩
  refine Yi bulk ?_;refine Yi (by kernel_rfl) ?_;refine Xi ⟨[(0,.cptr (encCk x ifs roots d)),(1,sl encSk k),(2,sl encSl before),(3,sl encRq needs),(9,.ref 9 0),(12,vi (plc r.ver)),(18,.slice (.id 19800 4) (before.map encSl++[[vs x[i].path,vi x[i].ver.a,vi x[i].ver.b,vi x[i].ver.c]])),(29,sl encRl x),(30,vi (x.map encRl).length),(31,vi i)],[(9,.ro (encRl r)),(19800,.tok 4 ((before.map encSl).length+[[vs x[i].path,vi x[i].ver.a,vi x[i].ver.b,vi x[i].ver.c]].length))],hfree⟩ (Yi ⟨Z10,Z2,Fh,Tv⟩ ?_)
  have hent:PC 152 [sl encTm d[j],.slice .none (before.map encSl++[[vs x[i].path,vi x[i].ver.a,vi x[i].ver.b,vi x[i].ver.c]])] (vb (entailed d[j] (before++[keyR x[i]]))):=by
   have:=c91 d[j] (before++[keyR x[i]]) (ht _ (List.getElem_mem hj2)) (by unfold Few; rw [List.length_append,List.length_singleton]; omega)
   have e:(before++[keyR x[i]]).map encSl=before.map encSl++[[vs x[i].path,vi x[i].ver.a,vi x[i].ver.b,vi x[i].ver.c]]:=by rw [List.map_append]; rfl
   unfold sl at this;rw [e] at this;exact this
  have hgd:(d.map encInc)[y.inf.toNat]?=some (encInc d[j]):=by rw [hj,Int.toNat_natCast,List.getElem?_map,hdg]; rfl
  refine Xi (encSk y) (Yi (Yi (by decide) hg0) (Yi rfl ?_));refine Xi (encInc d[j]) (Yi (Yi (by show 0≤y.inf; omega) hgd) (Yi rfl ?_));refine Or.elim (Bt (entailed d[j] (before++[keyR x[i]]))) (fun h9=>?_) (fun h9=>?_)
  ·rw [h9] at hent;refine Xi _ (Yi (hent) ?_);refine Yi (by kernel_rfl) ?_;rw [if_pos h9] at i6;have hkl:1≤(k.map encSk).length:=by rw [hy]; simp
   refine Xi ⟨[(0,.cptr (encCk x ifs roots d)),(1,sl encSk k),(2,sl encSl before),(3,sl encRq needs),(9,.ref 9 0),(12,vi (plc r.ver)),(29,sl encRl x),(30,vi (x.map encRl).length),(31,vi i)],[(9,.ro (encRl r))],hfree⟩ (Yi ⟨Z9,Z1,Fh,Tv⟩ ?_)
   refine Yi (by show (0:Int)≤1∧(1:Int)≤((k.map encSk).length:Int)∧((k.map encSk).length:Int)≤((k.map encSk).length:Int); omega) (Yi (fun c hc=>by
    obtain ⟨z,_,rfl⟩:=List.mem_map.1 hc; rfl) ?_)
   have ek:AV.slice .none (((k.map encSk).take ((k.map encSk).length:Int).toNat).drop (1:Int).toNat)=sl encSk k':=by rw [skip_tail,hy]; rfl
   refine Xi ⟨[(0,.cptr (encCk x ifs roots d)),(1,sl encSk k'),(2,sl encSl before),(3,sl encRq needs),(9,.ref 9 0),(12,vi (plc r.ver)),(29,sl encRl x),(30,vi (x.map encRl).length),(31,vi i)],[(9,.ro (encRl r))],hfree⟩ (Yi ⟨⟨Zr,⟨ek,rfl⟩,Zr,Zr,Zr,Zr,Zr,Zr,Zr,Tv⟩,Z1,Fh,Tv⟩ ?_)
   refine Yi (Ii i (by omega)) ?_;refine Xi ⟨(i+1,k'),by show i+1≤_; omega,i6⟩ ?_;exact ⟨Dl x.length i (by omega),Z9,Z1,Fh,Tv⟩
  ·rw [h9] at hent;refine Xi _ (Yi (hent) ?_);refine Yi (by kernel_rfl) ?_;have e:P=([],false):=by rw [i6,h9]; rfl
   exact skip_bad.trans (.of_eq (show skV ([],false)=skV P by rw [e]))
 ·intro h;have h:¬ (i:Int)<(x.map encRl).length:=h;have h:¬ i<x.length:=by simpa using h
  have e:P=(k,true):=by rw [i2,List.drop_eq_nil_of_le (by omega)]; rfl
  exact .of_eq (show skV (k,true)=skV P by rw [e])
end Go.Eng

namespace Go.Eng
open Go.Proofs
abbrev encStr1 (p:ByteArray):List AV:=[vs p]
abbrev dH (l:List ByteArray):List (Nat × HO):=[(1000,.cells [.slice (.id 1001 1) (l.map encStr1)]),(1001,.tok 1 (l.map encStr1).length)]
theorem c43 (l:List ByteArray) (before:List Sl) (needs:List Rq) (r:Rl) (hl:l.length≤100000) :
  ACall Tryz.prog 89 [sl encSl before,sl encRq needs,.agg (encRl r),.ref 1000 0] (heapOf (dH l) hfree) fun v h'=>v=.tup []∧h'=heapOf (dH (l++[r.path])) hfree:=by
 refine acall_sub (cxe pl0) [(1000,1000),(1001,1001)] rfl tab_ok hm rfl Tryz.func89 (by kernel_rfl) rfl (Nz rfl) (by kernel_rfl) rfl ?_;have bulk:AllLen 1 [[vs r.path]]∧(l.map encStr1).length=(l.map encStr1).length∧((l.map encStr1).length+[[vs r.path]].length)*16≤140737488355328∧(l.map encStr1).length+[[vs r.path]].length≤9223372036854775807 :=
  ⟨⟨rfl,trivial⟩,rfl,by rw [Lm,List.length_singleton]; omega,by rw [Lm,List.length_singleton]; omega⟩
 refine Yi bulk ?_;refine Yi (Nz rfl) ?_;refine Xi _ (Yi (.refl _) (Yi rfl ?_));have e:(l++[r.path]).map encStr1=l.map encStr1++[[vs r.path]]:=by rw [List.map_append]; rfl
 have e2:heapOf (dH (l++[r.path])) hfree=heapOf [(1000,.cells [.slice (.id 1001 1) (l.map encStr1++[[vs r.path]])]),(1001,.tok 1 ((l.map encStr1).length+[[vs r.path]].length))] hfree:=by
  unfold dH; rw [e,List.length_append]
 exact Eq.trans rfl e2.symm
abbrev sH (a:Bool × List Sk):List (Nat × HO):=[(1000,.cells [sl encSk a.2]),(1001,.cells [vb a.1])]
theorem c46 (x:List Rl) (ifs:AV) (roots:List Rq) (d:List (List Tm)) (a:Bool × List Sk) (before:List Sl) (needs:List Rq) (r:Rl)
  (hx:x.length≤256) (hd:d.length≤65536) (ht:∀ t ∈ d,FewT t) (hb:before.length≤1000) (hn:Few needs) (hq:∀ q ∈ needs,Few q.set) :
  ACall Tryz.prog 85 [sl encSl before,sl encRq needs,.agg (encRl r),.cptr [.cptr (encCk x ifs roots d)],.ref 1000 0,.ref 1001 0] (heapOf (sH a) hfree) fun v h'=>v=.tup []∧h'=heapOf (sH (skipStep x d a ⟨before,needs,r⟩)) hfree:=by
 obtain ⟨b,k⟩:=a;have hc:=c47 x ifs roots d k before needs r hx hd ht hb hn hq;obtain ⟨p,hp⟩ : ∃ p,p=skipGo d ⟨before,needs,r⟩ x k:=⟨_,rfl⟩;have es:skipStep x d (b,k) ⟨before,needs,r⟩=(b&&p.2&&!r.yanked,p.1):=by unfold skipStep; rw [← hp]
 rw [← hp] at hc;rw [es];obtain ⟨k2,ok⟩:=p;have fin:∀ z:Bool,z=(b&&ok&&!r.yanked)→heapOf (sH (z,k2)) hfree=heapOf (sH (b&&(k2,ok).2&&!r.yanked,(k2,ok).1)) hfree:=fun z hz=>by rw [hz]
 cases ok with
 | false =>
  refine acall_sub (cxe pl0) [(1000,1000),(1001,1001)] rfl tab_ok hm rfl Tryz.func85 (by kernel_rfl) rfl (Nz rfl) (by kernel_rfl) rfl ?_;refine Yi (Nz rfl) ?_;refine Xi .pure (Xi _ (Yi (hc) ?_));refine Yi ?_ ?_
  ·intro h1;refine Yi (Nz rfl) ?_;refine Yi (Nz rfl) ?_;exact Xi _ (Yi (.refl _) (Yi rfl (fin false (by rw [Bool.and_false]; rfl))))
  ·intro h1;refine Yi (Nz rfl) ?_;refine Yi (Nz rfl) ?_;exact Xi _ (Yi (.refl _) (Yi rfl (fin false (by rw [Bool.and_false]; rfl))))
 | true =>
  refine acall_sub (cxe pl0) [(1000,1000),(1001,1001)] rfl tab_ok hm rfl Tryz.func85 (by kernel_rfl) rfl (Nz rfl) (by kernel_rfl) rfl ?_;refine Yi (Nz rfl) ?_;refine Xi .pure (Xi _ (Yi (hc) ?_));refine Yi ?_ ?_
  ·intro h1;have h1:b=true:=h1;refine Yi ?_ ?_
   ·intro h2;have h2:r.yanked=true:=h2;refine Yi (Nz rfl) ?_;refine Yi (Nz rfl) ?_;exact Xi _ (Yi (.refl _) (Yi rfl (fin false (by rw [h1,h2]; rfl))))
   ·intro h2;have h2:r.yanked=false:=h2;refine Yi (Nz rfl) ?_;refine Yi (Nz rfl) ?_;exact Xi _ (Yi (.refl _) (Yi rfl (fin true (by rw [h1,h2]; rfl))))
  ·intro h1;have h1:b=false:=h1;refine Yi (Nz rfl) ?_;refine Yi (Nz rfl) ?_;exact Xi _ (Yi (.refl _) (Yi rfl (fin false (by rw [h1]; rfl))))
end Go.Eng
