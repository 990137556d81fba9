/- Lemmas for the claims of this seat, without a condition: part 28 (R31, R32, R33, R34). -/
import Derived.Test.YtodcmjcogdcmlaaGreatDoorA27
namespace Go.Eng
open Go.Proofs
theorem needP_clo {l:List Rl} : ∀ {n:Nat} {t:List Rq} {d:List ByteArray},t.length+potL d l+1≤n→(∀ p ∈ d,∀ q ∈ reqsOf l p,q.path ∈ d∨∃ u ∈ t,u.path=q.path) →
  (∀ p ∈ d,p ∈ needP l n t d)∧(∀ u ∈ t,u.path ∈ needP l n t d)∧∀ p ∈ needP l n t d,∀ q ∈ reqsOf l p,q.path ∈ needP l n t d
 | 0,_,_,h,_=>by omega
 | n+1,[],d,_,hc=>by
  have e:needP l (n+1) [] d=d:=rfl;rw [e];exact ⟨fun p h=>h,fun u h=>(by cases h),fun p hp q hq=>(hc p hp q hq).elim id (fun ⟨u,h,_⟩=>by cases h)⟩
 | n+1,q :: t,d,h,hc=>by
  simp only [List.length_cons] at h;cases hq:d.any (fun p=>decide (p=q.path)) with
  | true =>
   have e:needP l (n+1) (q :: t) d=needP l n t d:=by show (if _ then _ else _)=_; rw [if_pos hq]
   rw [e];have hm:=any_mem.1 hq;obtain ⟨i1,i2,i3⟩:=needP_clo (l:=l) (n:=n) (t:=t) (d:=d) (by omega) (fun p hp u hu=>by
    rcases hc p hp u hu with h | ⟨v,hv,ev⟩
    ·exact .inl h
    ·rcases List.mem_cons.1 hv with hv | hv
     ·exact .inl (by rw [← ev,hv]; exact hm)
     ·exact .inr ⟨v,hv,ev⟩)
   exact ⟨i1,fun u hu=>(List.mem_cons.1 hu).elim (fun eu=>by rw [eu]; exact i1 _ hm) (i2 u),i3⟩
  | false =>
   have e:needP l (n+1) (q :: t) d=needP l n (t++reqsOf l q.path) (d++[q.path]):=by show (if _ then _ else _)=_; rw [if_neg (by rw [hq]; decide)]
   rw [e];have hp:=potL_next d q.path hq l;obtain ⟨i1,i2,i3⟩:=needP_clo (l:=l) (n:=n) (t:=t++reqsOf l q.path) (d:=d++[q.path]) (by rw [List.length_append]; omega) (fun p hp u hu=>by
    rcases List.mem_append.1 hp with hp | hp
    ·rcases hc p hp u hu with h | ⟨v,hv,ev⟩
     ·exact .inl (List.mem_append_left _ h)
     ·rcases List.mem_cons.1 hv with hv | hv
      ·exact .inl (by rw [← ev,hv]; simp)
      ·exact .inr ⟨v,List.mem_append_left _ hv,ev⟩
    ·rw [List.mem_singleton.1 hp] at hu;exact .inr ⟨u,List.mem_append_right _ hu,rfl⟩)
   exact ⟨fun p hp=>i1 p (List.mem_append_left _ hp),fun u hu=>(List.mem_cons.1 hu).elim (fun eu=>by rw [eu]; exact i1 _ (by simp)) (fun hu=>i2 u (List.mem_append_left _ hu)),i3⟩
abbrev needC (l:List Rl) (roots:List Rq):List ByteArray:=needP l (fuelP l roots) roots []
theorem reqsOf_mem {l:List Rl} (hn:(l.map (·.path)).Nodup) {r:Rl} (hr:r ∈ l):reqsOf l r.path=r.reqs:=by unfold reqsOf; rw [find_path hn hr]
theorem needC_clo {l:List Rl} {roots:List Rq} (hn:(l.map (·.path)).Nodup):Clo l roots (needC l roots):=by
 obtain ⟨_,h2,h3⟩:=needP_clo (l:=l) (n:=fuelP l roots) (t:=roots) (d:=[]) (by rw [potL_nil]; unfold fuelP; omega) (fun p hp=>by cases hp);exact ⟨h2,fun r hr hp q hq=>h3 _ hp q (by rw [reqsOf_mem hn hr]; exact hq)⟩
theorem needC_min {l:List Rl} {roots:List Rq} (D:List ByteArray) (h1:∀ q ∈ roots,q.path ∈ D) (h2:∀ r ∈ l,r.path ∈ D→∀ q ∈ r.reqs,q.path ∈ D):∀ p ∈ needC l roots,p ∈ D :=
 needP_sub h2 h1 fun p hp=>by cases hp
theorem selP_snoc (x:List Rl) (y:Sl):∀ a:List Sl,selP x (a++[y])=match selP x a with | none=>none | some l=>match findRl x y with | none=>none | some r=>some (l++[r])
 | []=>by
  show (match findRl x y with | none=>none | some r=>match selP x [] with | none=>none | some l=>some (r :: l))=_;cases findRl x y <;> rfl
 | z :: a=>by
  show (match findRl x z with | none=>none | some r=>match selP x (a++[y]) with | none=>none | some l=>some (r :: l))=match (match findRl x z with | none=>none | some r=>match selP x a with | none=>none | some l=>some (r :: l)) with | none=>none | some l=>match findRl x y with | none=>none | some r=>some (l++[r])
  rw [selP_snoc x y a];cases findRl x z with
  | none=>rfl
  | some r =>
   cases selP x a with
   | none=>rfl
   | some l=>cases findRl x y <;> rfl
theorem selP_none (x:List Rl) {a:List Sl} (h:selP x a=none):∀ b:List Sl,selP x (a++b)=none:=by
 induction a with
 | nil=>cases h
 | cons z a ih =>
  intro b;have h:(match findRl x z with | none=>none | some r=>match selP x a with | none=>none | some l=>some (r :: l))=none:=h;show (match findRl x z with | none=>none | some r=>match selP x (a++b) with | none=>none | some l=>some (r :: l))=none;cases hz:findRl x z with
  | none=>rfl
  | some r =>
   rw [hz] at h;cases ha:selP x a with
   | none=>rw [ih ha b]
   | some l=>rw [ha] at h; cases h
section
variable {x l:List Rl} {roots:List Rq} {s:List Sl}
theorem sel_take {A:List Rl} {i:Nat} (hi:i<s.length) (h:selP x (s.take i)=some A):selP x (s.take (i+1))=match findRl x s[i] with | none=>none | some r=>some (A++[r]):=by
 rw [List.take_add_one,Ge hi];show selP x (s.take i++[s[i]])=_;rw [selP_snoc,h]
theorem sel_lost {A:List Rl} {i:Nat} (hi:i<s.length) (h:selP x (s.take i)=some A) (hn:findRl x s[i]=none):selP x s=none:=by
 have h1:=sel_take hi h;rw [hn] at h1
 have:=selP_none x h1 (s.drop (i+1))
 rwa [List.take_append_drop] at this
theorem sat_broken (hn:(l.map (·.path)).Nodup) (hs:l.map keyR=s) (hv:∀ r ∈ l,validB r.ver=true) (q:Rq):satB q s=!brokenP l q:=by
 have e:satB q s=l.any fun r=>decide (r.path=q.path)&&has q.set (plc r.ver):=by
  unfold satB;rw [← hs,List.any_map];rw [Bool.eq_iff_iff,List.any_eq_true,List.any_eq_true];constructor <;> rintro ⟨r,hr,h⟩ <;> refine ⟨r,hr,?_⟩
  ·rw [← plc_val (hv r hr)]; exact h
  ·show (decide (r.path=q.path)&&has q.set (place r.ver))=true;rw [plc_val (hv r hr)]; exact h
 rw [e];unfold brokenP;cases hf:l.find? (fun r=>decide (r.path=q.path)) with
 | none =>
  have:∀ r ∈ l,¬ r.path=q.path:=fun r hr=>by simpa using List.find?_eq_none.1 hf r hr
  show _=false;rw [List.any_eq_false];intro r hr;simp [this r hr]
 | some r =>
  have hr:=List.mem_of_find?_eq_some hf;have hp:r.path=q.path:=by simpa using List.find?_some hf
  show _=!(!has q.set (plc r.ver));rw [Bool.not_not,Bool.eq_iff_iff,List.any_eq_true];constructor
  ·rintro ⟨r2,hr2,h⟩
   simp only [Bool.and_eq_true,decide_eq_true_eq] at h;have h1:=find_path hn hr2;rw [h.1,hf] at h1;cases h1;exact h.2
  ·intro h;exact ⟨r,hr,by rw [decide_eq_true hp,h]; rfl⟩
theorem chk_go:∀ {m:List Rl} {b:Option Rl},checkIxGo b m=0→∀ r ∈ m,checkRl r=0
 | [],_,_,_,h=>by cases h
 | a :: m,b,h,r,hr=>by
  unfold checkIxGo at h;split at h
  ·rename_i h1; exact absurd h h1
  ·rename_i h1;rcases List.mem_cons.1 hr with rfl | hr
   ·exact Decidable.not_not.1 h1
   ·cases b with
    | none=>exact chk_go h r hr
    | some c =>
     have h:(if keyR c=keyR a then (5:Int) else if 0<cmpR c a then 1 else checkIxGo (some a) m)=0:=h;split at h
     ·cases h
     ·split at h
      ·cases h
      ·exact chk_go h r hr
theorem chk_of {r:Rl} (hr:r ∈ x) (h:checkIx x=0):checkRl r=0:=by
 unfold checkIx at h;split at h
 ·cases h
 ·exact chk_go h r hr
theorem sel_ix (h0:checkIx x=0) (hi:increasing s=true) (h:selP x s=some l) (hl:s.length≤256):checkIx l=0:=by
 obtain ⟨h1,h2,_⟩:=selP_ok h;have hx:=(checkIx_ok h0).1;have hlen:l.length=s.length:=by rw [← h1,Lm]
 have hm:∀ r ∈ l,checkRl r=0:=fun r hr=>chk_of ((findRl_ok (h2 r hr)).2.1) h0;unfold checkIx;rw [if_neg (by omega)];have hp:=(incGo_pair hi).1;rw [← h1] at hp;have hp:l.Pairwise fun a b=>blt a.path b.path=true:=List.pairwise_map.1 hp;have gen:∀ (l:List Rl) (b:Option Rl),(∀ r ∈ l,checkRl r=0)→l.Pairwise (fun a b=>blt a.path b.path=true)→(∀ c,b=some c→∀ r ∈ l,blt c.path r.path=true)→checkIxGo b l=0:=by
  intro l
  induction l with
  | nil=>intro _ _ _ _; rfl
  | cons r l ih =>
   intro b hm hp hb;obtain ⟨p1,p2⟩:=List.pairwise_cons.1 hp;have ih:=ih (some r) (fun r hr=>hm r (List.mem_cons_of_mem _ hr)) p2 (fun c e=>by cases e; exact p1);unfold checkIxGo;rw [if_neg (by rw [hm r (List.mem_cons_self ..)]; decide)];cases b with
   | none=>exact ih
   | some c =>
    have hc:=hb c rfl r (List.mem_cons_self ..);show (if keyR c=keyR r then (5:Int) else if 0<cmpR c r then 1 else checkIxGo (some r) l)=0;rw [if_neg (fun e=>blt_ne hc (congrArg Sl.path e)),if_neg (by
     unfold cmpR cmpB; rw [if_pos hc,if_pos (by decide)]; decide)]
    exact ih
 exact gen l none hm hp fun c e=>by cases e
theorem solves_sel (h0:checkIx x=0) (hi:increasing s=true) (h:selP x s=some l):solvesP x roots s=if l.any (fun r=>r.reqs.any (brokenP l)) then 17 else if roots.any (brokenP l) then 17 else if (needC l roots).length<l.length then 8 else 0:=by
 unfold solvesP; rw [if_neg (by rw [h0]; decide),if_neg (by rw [hi]; decide),h]
def allR (roots:List Rq) (l:List Rl):List Rq:=roots++(l.map (·.reqs)).flatten
theorem allR_mem {q:Rq} : q ∈ allR roots l↔q ∈ roots∨∃ r ∈ l,q ∈ r.reqs:=by
 unfold allR;rw [List.mem_append,List.mem_flatten];constructor
 ·rintro (h | ⟨m,hm,hq⟩)
  ·exact .inl h
  ·obtain ⟨r,hr,rfl⟩:=List.mem_map.1 hm;exact .inr ⟨r,hr,hq⟩
 ·rintro (h | ⟨r,hr,hq⟩)
  ·exact .inl h
  ·exact .inr ⟨_,List.mem_map.2 ⟨r,hr,rfl⟩,hq⟩
theorem solves_17 (h0:checkIx x=0) (hi:increasing s=true) (h:selP x s=some l) {q:Rq} (hq:q ∈ allR roots l) (hb:brokenP l q=true):solvesP x roots s=17:=by
 rw [solves_sel h0 hi h];rcases allR_mem.1 hq with hq | ⟨r,hr,hq⟩
 ·split
  ·rfl
  ·rw [if_pos (List.any_eq_true.2 ⟨q,hq,hb⟩)]
 ·rw [if_pos (List.any_eq_true.2 ⟨r,hr,List.any_eq_true.2 ⟨q,hq,hb⟩⟩)]
theorem solves_cnt (h0:checkIx x=0) (hi:increasing s=true) (h:selP x s=some l) (hb:∀ q ∈ allR roots l,brokenP l q=false):solvesP x roots s=if (needC l roots).length<l.length then 8 else 0:=by
 rw [solves_sel h0 hi h,if_neg,if_neg]
 ·rw [Bool.not_eq_true,List.any_eq_false]; intro q hq; rw [hb q (allR_mem.2 (.inl hq))]; decide
 ·rw [Bool.not_eq_true,List.any_eq_false]; intro r hr;rw [Bool.not_eq_true,List.any_eq_false]; intro q hq; rw [hb q (allR_mem.2 (.inr ⟨r,hr,hq⟩))]; decide
theorem unbroken {q:Rq} (h:brokenP l q=false):∃ r ∈ l,r.path=q.path∧has q.set (plc r.ver)=true:=by
 unfold brokenP at h;cases hf:l.find? (fun r=>decide (r.path=q.path)) with
 | none=>rw [hf] at h; cases h
 | some r =>
  rw [hf] at h;exact ⟨r,List.mem_of_find?_eq_some hf,by simpa using List.find?_some hf,by simpa using h⟩
theorem reach_len (hn:(l.map (·.path)).Nodup) (hb:∀ q ∈ allR roots l,brokenP l q=false):((l.filter fun r=>memP (needC l roots) r.path).map keyR).length=(needC l roots).length:=by
 rw [Lm,← Lm (f:=fun r:Rl=>r.path)];have hs:∀ p ∈ needC l roots,p ∈ l.map (·.path):=needC_min _ (fun q hq=>by
   obtain ⟨r,hr,e,_⟩:=unbroken (hb q (allR_mem.2 (.inl hq)));exact List.mem_map.2 ⟨r,hr,e⟩)
  (fun r hr _ q hq=>by
   obtain ⟨r2,hr2,e,_⟩:=unbroken (hb q (allR_mem.2 (.inr ⟨r,hr,hq⟩)));exact List.mem_map.2 ⟨r2,hr2,e⟩)
 have hnf:((l.filter fun r=>memP (needC l roots) r.path).map (·.path)).Nodup:=List.Nodup.sublist (List.Sublist.map _ List.filter_sublist) hn;have hnc:(needC l roots).Nodup:=needP_nodup .nil;refine Nat.le_antisymm (nodup_sub_len hnf fun p hp=>?_) (nodup_sub_len hnc fun p hp=>?_)
 ·obtain ⟨r,hr,rfl⟩:=List.mem_map.1 hp;exact any_mem.1 (List.mem_filter.1 hr).2
 ·obtain ⟨r,hr,e⟩:=List.mem_map.1 (hs p hp);exact List.mem_map.2 ⟨r,List.mem_filter.2 ⟨hr,any_mem.2 (e▸hp)⟩,e⟩
theorem hasOk (hn:(l.map (·.path)).Nodup) (hb:∀ q ∈ allR roots l,brokenP l q=false):∀ q,q ∈ roots∨(∃ r ∈ l,q ∈ r.reqs)→∀ r ∈ l,q.path=r.path→has q.set (plc r.ver)=true:=fun q hq r hr e=>by
 obtain ⟨r2,hr2,e2,h⟩:=unbroken (hb q (allR_mem.2 hq));have h1:=find_path hn hr;have h2:=find_path hn hr2;rw [e2,e,h1] at h2;cases h2;exact h
theorem findOk (hb:∀ q ∈ allR roots l,brokenP l q=false):∀ q,q ∈ roots∨(∃ r ∈ l,q ∈ r.reqs)→∃ r ∈ l,r.path=q.path:=fun q hq=>by
 obtain ⟨r,hr,e,_⟩:=unbroken (hb q (allR_mem.2 hq));exact ⟨r,hr,e⟩
end
end Go.Eng

namespace Go.Eng
open Go.Proofs
theorem allR_take (roots:List Rq) {l:List Rl} {j:Nat} (h:j<l.length):allR roots (l.take (j+1))=allR roots (l.take j)++l[j].reqs:=by
 unfold allR;rw [List.take_add_one,Ge h,List.map_append,List.flatten_append,← List.append_assoc]
 congr 1
 show [l[j].reqs].flatten=_;simp
theorem allR_len (roots:List Rq):∀ l:List Rl,(∀ r ∈ l,r.reqs.length≤16)→(allR roots l).length≤roots.length+16*l.length:=fun l h=>by
 have:=flat_few h
 unfold allR;rw [List.length_append]; omega
set_option maxHeartbeats 4000000 in
theorem c48 (x:List Rl) (ifs:List (List AV)) (roots:List Rq) (s:List Sl) (hx:∀ r ∈ x,FewR r) (hxl:Few x) (hrq:∀ q ∈ roots,Few q.set) (hrl:roots.length≤1000000) (hs:s.length≤256):PC 48 [.agg (Ic x ifs),sl encRq roots,sl encSl s] (vi (solvesP x roots s)):=by
 have c83f:∀ (p:ByteArray) (v:Ver),PC 83 [ixV x ifs,vs p,.agg (encVer v)] (optRl (findRl x ⟨p,v⟩)):=fun p v=>c83 x ifs p v hx hxl;have hsf:Few s:=by unfold Few; omega
 refine Ps ⟨[],[],[],[],[],[],[],[],[],[],[2,3,6,8,14,16,18,20,22,23]⟩ Tryz.func48 rfl (Nz rfl) ?_;refine Yi (Nz rfl) ?_;refine Xi .pure (Xi _ (Yi (c67 x ifs hx) ?_));refine Yi (fun h1=>?_) (fun h1=>?_)
 ·have h1:(checkIx x:Int)≠(0:Int):=h1;refine Xi ⟨[],[],hfree⟩ (Yi ⟨Tv,Tv,Fh,Tv⟩ ?_)
  exact .of_eq (congrArg vi (show (1:Int)=solvesP x roots s by unfold solvesP; rw [if_pos h1]))
 have h1:(checkIx x:Int)=(0:Int):=Classical.byContradiction h1;refine Or.elim (Bt (increasing s)) (fun h3=>?_) (fun h3=>?_)
 ·have h3:(increasing s)=true:=h3;have hc4:=(c80 s hsf);rw [show increasing s=true from h3] at hc4;refine Xi .pure (Xi _ (Yi hc4 ?_));refine Xi ⟨[(1,sl encRq roots),(2,sl encSl s),(3,.ref 3 0)],[(3,.cells (Ic x ifs))],hfree⟩ (Yi ⟨Z3,Z1,Fh,Tv⟩ ?_)
  refine Xi {q:Nat × List Rl // q.1≤s.length∧selP x (s.take q.1)=some q.2} (Xi (fun q=>⟨[(1,sl encRq roots),(2,sl encSl s),(3,.ref 3 0),(7,.slice (.id 22 9) (q.1.2.map encRl)),(8,vi q.1.1)],[(3,.cells (Ic x ifs)),(22,.tok 9 q.1.2.length)],hfree⟩) (Xi (fun q=>s.length - q.1.1) (Yi (Xi ⟨(0,[]),Nat.zero_le _,rfl⟩ ?_) ?_)))
  ·exact ⟨Z5,Z2,Fh,Tv⟩
  intro ⟨⟨i,A⟩,i1,i2⟩;have i1:i≤s.length:=i1;have i2:selP x (s.take i)=some A:=i2;have hA:A.length=i:=by
   have q:=congrArg List.length (selP_ok i2).1;rw [Lm,List.length_take] at q; omega
  refine Yi (fun h5=>?_) (fun h5=>?_)
  ·have h5:(i:Int)<((s.map encSl).length:Int):=h5;have n5:i<s.length:=by have q:=h5; rw [Lm] at q; omega
   have g5:s[i]?=some s[i]:=Ge n5;refine Yi (Nz rfl) ?_;refine Xi (encSl s[i]) (Yi (Yi (Nn i) (map_at g5)) (Yi rfl ?_));refine Xi (encSl s[i]) (Yi (Yi (Nn i) (map_at g5)) (Yi rfl ?_));refine Yi (Nz rfl) ?_;refine Or.elim (opt_cases (findRl x ⟨s[i].path,s[i].ver⟩)) (fun h6=>?_) (fun h6=>?_)
   ·refine Exists.elim h6 (fun r h6=>?_);have hc6:=c83f s[i].path s[i].ver;rw [h6] at hc6;refine Xi _ (Yi hc6 ?_);refine Yi (Nz rfl) ?_;refine Yi (by kernel_rfl) ?_;refine Xi ⟨[(1,sl encRq roots),(2,sl encSl s),(3,.ref 3 0),(7,.slice (.id 22 9) (A.map encRl)),(8,vi i),(9,.ref 9 0),(10,vb true)],[(3,.cells (Ic x ifs)),(9,.cells (encRl r)),(22,.tok 9 A.length)],hfree⟩ (Yi ⟨Z7,Z3,Fh,Tv⟩ ?_)
    refine Yi (Nz rfl) ?_;have b7:AllLen 9 [(encRl r)]∧(A.map encRl).length=A.length∧((A.map encRl).length+([(encRl r)]:List (List AV)).length)*120≤140737488355328∧(A.map encRl).length+([(encRl r)]:List (List AV)).length≤9223372036854775807:=⟨⟨rfl,trivial⟩,(by rw [Lm]),(by simp only [Lm,List.length_cons,List.length_nil]; omega),(by simp only [Lm,List.length_cons,List.length_nil]; omega)⟩;refine Yi b7 ?_;refine Xi ⟨[(1,sl encRq roots),(2,sl encSl s),(3,.ref 3 0),(7,.slice (.id 22 9) ((A.map encRl)++[(encRl r)])),(8,vi i)],[(3,.cells (Ic x ifs)),(22,.tok 9 ((A.map encRl).length+([(encRl r)]:List (List AV)).length))],hfree⟩ (Yi ⟨Z5,Z2,Fh,Tv⟩ ?_)
    refine Yi (Ii i (by omega)) ?_;refine Xi ⟨(i+1,(A++[r])),by omega,by show selP x (s.take (i+1))=_; rw [sel_take n5 i2,show findRl x s[i]=some r from h6]⟩ ?_;exact ⟨Dl s.length i (by omega),⟨Zr,Zr,Zr,⟨(show AV.slice (.id 22 9) (A.map encRl++[encRl r])=.slice (.id 22 9) ((A++[r]).map encRl) by simp),rfl⟩,Zr,Tv⟩,⟨Zr,⟨(show HO.tok 9 ((A.map encRl).length+([encRl r]:List (List AV)).length)=.tok 9 (A++[r]).length by simp),rfl⟩,Tv⟩,Fh,Tv⟩
   have hc6:=c83f s[i].path s[i].ver;rw [h6] at hc6;refine Xi _ (Yi hc6 ?_);refine Yi (Nz rfl) ?_;refine Yi (by kernel_rfl) ?_;refine Xi ⟨[(1,sl encRq roots),(2,sl encSl s),(3,.ref 3 0),(7,.slice (.id 22 9) (A.map encRl)),(8,vi i),(9,.ref 9 0),(10,vb false)],[(3,.cells (Ic x ifs)),(9,.cells [vs ⟨#[]⟩,vi 0,vi 0,vi 0,.v (.slice none 0 0),vs ⟨#[]⟩,vs ⟨#[]⟩,vs ⟨#[]⟩,vb false]),(22,.tok 9 A.length)],hfree⟩ (Yi ⟨Z7,Z3,Fh,Tv⟩ ?_)
   exact .of_eq (congrArg vi (show (6:Int)=solvesP x roots s by unfold solvesP; rw [if_neg (not_not_intro h1),if_neg (by rw [h3]; decide),sel_lost n5 i2 (show findRl x s[i]=none from h6)]))
  have h5:¬ ((i:Int)<((s.map encSl).length:Int)):=h5;have n5:¬ i<s.length:=by have q:=h5; rw [Lm] at q; omega
  rw [List.take_of_length_le (by omega)] at i2;have h0:checkIx x=0:=h1;have hi:increasing s=true:=h3;have hsm:=(selP_ok i2).1;have hAx:∀ r ∈ A,r ∈ x:=fun r hr=>(findRl_ok ((selP_ok i2).2.1 r hr)).2.1;have hreq:∀ r ∈ A,r.reqs.length≤16:=fun r hr=>(ix_few h0).2 r (hAx r hr);have hAn:=sel_nodup hi i2;have hAv:∀ r ∈ A,validB r.ver=true:=fun r hr=>((checkIx_ok h0).1 r (hAx r hr)).val;have hsv:∀ y ∈ s,validB y.ver=true:=fun y hy=>by
   rw [← hsm] at hy;obtain ⟨r,hr,rfl⟩:=List.mem_map.1 hy;exact hAv r hr
  have b10:AllLen 2 (roots.map encRq)∧([]:List (List AV)).length=0∧(([]:List (List AV)).length+(roots.map encRq).length)*40≤140737488355328∧([]:List (List AV)).length+(roots.map encRq).length≤9223372036854775807:=⟨(allLen_map (enc:=encRq) (n:=2) (fun _=>rfl) roots),(by simp),(by simp only [Lm,List.length_nil]; omega),(by simp only [Lm,List.length_nil]; omega)⟩;refine Yi b10 ?_;refine Xi {j:Nat // j≤A.length} (Xi (fun q=>⟨[(1,sl encRq roots),(2,sl encSl s),(7,.slice (.id 22 9) (A.map encRl)),(11,.slice (.id 50 2) ((allR roots (A.take q.1)).map encRq)),(12,vi q.1)],[(22,.tok 9 A.length),(50,.tok 2 (allR roots (A.take q.1)).length)],hfree⟩) (Xi (fun q=>A.length - q.1) (Yi (Xi ⟨0,Nat.zero_le _⟩ ?_) ?_)))
  ·exact ⟨⟨Zr,Zr,Zr,⟨(show AV.slice (.id 50 2) ([]++roots.map encRq)=.slice (.id 50 2) ((allR roots (A.take 0)).map encRq) by unfold allR; simp),rfl⟩,Zr,Tv⟩,⟨Zr,⟨(show HO.tok 2 (([]:List (List AV)).length+(roots.map encRq).length)=.tok 2 (allR roots (A.take 0)).length by unfold allR; simp),rfl⟩,Tv⟩,Fh,Tv⟩
  intro ⟨j,j1⟩;have j1:j≤A.length:=j1;have hal:=allR_len roots (A.take j) (fun r hr=>hreq r (List.mem_of_mem_take hr));rw [List.length_take] at hal;refine Yi (fun h11=>?_) (fun h11=>?_)
  ·have h11:(j:Int)<((A.map encRl).length:Int):=h11;have n11:j<A.length:=by have q:=h11; rw [Lm] at q; omega
   have g11:A[j]?=some A[j]:=Ge n11;have hrj:=hreq A[j] (List.getElem_mem n11);refine Xi (encRl A[j]) (Yi (Yi (Nn j) (map_at g11)) (Yi rfl ?_));have b12:AllLen 2 (A[j].reqs.map encRq)∧((allR roots (A.take j)).map encRq).length=(allR roots (A.take j)).length∧(((allR roots (A.take j)).map encRq).length+(A[j].reqs.map encRq).length)*40≤140737488355328∧((allR roots (A.take j)).map encRq).length+(A[j].reqs.map encRq).length≤9223372036854775807:=⟨(allLen_map (enc:=encRq) (n:=2) (fun _=>rfl) A[j].reqs),(by rw [Lm]),(by simp only [Lm]; omega),(by simp only [Lm]; omega)⟩;refine Yi b12 ?_;refine Xi ⟨[(1,sl encRq roots),(2,sl encSl s),(7,.slice (.id 22 9) (A.map encRl)),(11,.slice (.id 50 2) (((allR roots (A.take j)).map encRq)++(A[j].reqs.map encRq))),(12,vi j)],[(22,.tok 9 A.length),(50,.tok 2 (((allR roots (A.take j)).map encRq).length+(A[j].reqs.map encRq).length))],hfree⟩ (Yi ⟨Z5,Z2,Fh,Tv⟩ ?_)
   refine Yi (Ii j (by omega)) ?_;have es:allR roots (A.take (j+1))=allR roots (A.take j)++A[j].reqs:=allR_take roots n11;refine Xi ⟨j+1,by omega⟩ ?_;exact ⟨Dl A.length j (by omega),⟨Zr,Zr,Zr,⟨(show AV.slice (.id 50 2) ((allR roots (A.take j)).map encRq++A[j].reqs.map encRq)=.slice (.id 50 2) ((allR roots (A.take (j+1))).map encRq) by rw [es,List.map_append]),rfl⟩,Zr,Tv⟩,⟨Zr,⟨(show HO.tok 2 (((allR roots (A.take j)).map encRq).length+(A[j].reqs.map encRq).length)=.tok 2 (allR roots (A.take (j+1))).length by rw [es,Lm,Lm,List.length_append]),rfl⟩,Tv⟩,Fh,Tv⟩
  have h11:¬ ((j:Int)<((A.map encRl).length:Int)):=h11;have n11:¬ j<A.length:=by have q:=h11; rw [Lm] at q; omega
  rw [List.take_of_length_le (by omega)] at hal;refine Exists.elim (show ∃ Q,Q=allR roots A from ⟨_,rfl⟩) (fun Q hQ=>?_);have hQl:Q.length≤1100000:=by
   have q:=allR_len roots A hreq;rw [hQ]; omega
  have hQf:∀ q ∈ Q,Few q.set:=fun q hq=>by
   rw [hQ] at hq;rcases allR_mem.1 hq with h | ⟨r,hr,h⟩
   ·exact hrq q h
   ·exact ((hx r (hAx r hr)).2 q h).1
  refine Xi ⟨[(1,sl encRq roots),(2,sl encSl s),(7,.slice (.id 22 9) (A.map encRl)),(11,.slice (.id 50 2) (Q.map encRq))],[(22,.tok 9 A.length),(50,.tok 2 Q.length)],hfree⟩ (Yi ⟨⟨Zr,Zr,Zr,⟨(show AV.slice (.id 50 2) ((allR roots (A.take j)).map encRq)=.slice (.id 50 2) (Q.map encRq) by rw [hQ,List.take_of_length_le (by omega)]),rfl⟩,Tv⟩,⟨Zr,⟨(show HO.tok 2 (allR roots (A.take j)).length=.tok 2 Q.length by rw [hQ,List.take_of_length_le (by omega)]),rfl⟩,Tv⟩,Fh,Tv⟩ ?_)
  refine Xi {k:Nat // k≤Q.length∧∀ m (h:m<Q.length),m<k→satB Q[m] s=true} (Xi (fun q=>⟨[(1,sl encRq roots),(2,sl encSl s),(7,.slice (.id 22 9) (A.map encRl)),(11,.slice (.id 50 2) (Q.map encRq)),(13,vi q.1)],[(22,.tok 9 A.length),(50,.tok 2 Q.length)],hfree⟩) (Xi (fun q=>Q.length - q.1) (Yi (Xi ⟨0,Nat.zero_le _,fun m _ h=>by omega⟩ ?_) ?_)))
  ·exact ⟨Z5,Z2,Fh,Tv⟩
  intro ⟨k,k1,k2⟩;refine Yi (fun h14=>?_) (fun h14=>?_)
  ·have h14:(k:Int)<((Q.map encRq).length:Int):=h14;have n14:k<Q.length:=by have q:=h14; rw [Lm] at q; omega
   have g14:Q[k]?=some Q[k]:=Ge n14;refine Xi (encRq Q[k]) (Yi (Yi (Nn k) (map_at g14)) (Yi rfl ?_));refine Yi (Nz rfl) ?_;refine Or.elim (Bt (satB Q[k] s)) (fun h15=>?_) (fun h15=>?_)
   ·have h15:(satB Q[k] s)=true:=h15;have hc16:=c92 Q[k] s (hQf _ (List.getElem_mem n14)) hsf hsv;rw [show (satB Q[k] s)=true from h15] at hc16;refine Xi .pure (Xi _ (Yi hc16 ?_));refine Xi ⟨[(1,sl encRq roots),(2,sl encSl s),(7,.slice (.id 22 9) (A.map encRl)),(11,.slice (.id 50 2) (Q.map encRq)),(13,vi k)],[(22,.tok 9 A.length),(50,.tok 2 Q.length)],hfree⟩ (Yi ⟨Z5,Z2,Fh,Tv⟩ ?_)
    refine Yi (Ii k (by omega)) ?_;refine Xi ⟨k+1,by omega,fun m hm hmk=>(Nat.lt_or_ge m k).elim (k2 m hm) (fun z=>by have e:k=m:=(by omega); subst e; exact h15)⟩ ?_;exact ⟨Dl Q.length k (by omega),Z5,Z2,Fh,Tv⟩
   have h15:(satB Q[k] s)=false:=h15;have hc18:=c92 Q[k] s (hQf _ (List.getElem_mem n14)) hsf hsv;rw [show (satB Q[k] s)=false from h15] at hc18;refine Xi .pure (Xi _ (Yi hc18 ?_));refine Xi ⟨[],[],hfree⟩ (Yi ⟨Tv,Tv,Fh,Tv⟩ ?_)
   have hqm:Q[k] ∈ allR roots A:=by rw [← hQ]; exact List.getElem_mem n14
   have hbk:brokenP A Q[k]=true:=by
    have q1:=sat_broken hAn hsm hAv Q[k];rw [show satB Q[k] s=false from h15] at q1;simpa using q1
   exact .of_eq (congrArg vi (show (17:Int)=solvesP x roots s by rw [solves_17 h0 hi i2 hqm hbk]))
  have h14:¬ ((k:Int)<((Q.map encRq).length:Int)):=h14;have n14:¬ k<Q.length:=by have q:=h14; rw [Lm] at q; omega
  have hb:∀ q ∈ allR roots A,brokenP A q=false:=fun q hq=>by
   rw [← hQ] at hq;refine Exists.elim (List.getElem_of_mem hq) (fun m hm=>?_);refine Exists.elim hm (fun hm hmq=>?_);have q1:=k2 m hm (by omega);rw [hmq,sat_broken hAn hsm hAv] at q1;simpa using q1
  have hA0:=sel_ix h0 hi i2 (by omega);have hlen:=reach_len hAn hb;have hmn:(needC A roots).length≤A.length:=by
   rw [← hlen,Lm]; exact List.length_filter_le ..
  have h93:=(c93 A [] roots (needC A roots) (needC_clo hAn) (fun D a b=>needC_min D a b) (hasOk hAn hb) hAn (findOk hb) hA0 (fun r hr=>hx r (hAx r hr)) hrq hrl).args (args':=[.agg [sl encRl A,.v (.slice none 0 0)],sl encRq roots]) ⟨Sub.agg ⟨.refl _,.nil,trivial⟩,.refl _,trivial⟩;refine Xi .pure (Xi _ (Yi h93 ?_));refine Yi (fun h20=>?_) (fun h20=>?_)
  ·have h20:((((A.filter fun r=>memP (needC A roots) r.path).map keyR).map encSl).length:Int)≠((s.map encSl).length:Int):=h20;refine Xi ⟨[],[],hfree⟩ (Yi ⟨Tv,Tv,Fh,Tv⟩ ?_)
   have hq:=h20;rw [Lm,hlen,Lm] at hq;exact .of_eq (congrArg vi (show (8:Int)=solvesP x roots s by rw [solves_cnt h0 hi i2 hb,if_pos (by omega)]))
  have h20:((((A.filter fun r=>memP (needC A roots) r.path).map keyR).map encSl).length:Int)=((s.map encSl).length:Int):=Classical.byContradiction h20;refine Xi ⟨[],[],hfree⟩ (Yi ⟨Tv,Tv,Fh,Tv⟩ ?_)
  have hq:=h20;rw [Lm,hlen,Lm] at hq;exact .of_eq (congrArg vi (show (0:Int)=solvesP x roots s by rw [solves_cnt h0 hi i2 hb,if_neg (by omega)]))
 have h3:(increasing s)=false:=h3;have hc23:=(c80 s hsf);rw [show increasing s=false from h3] at hc23;refine Xi .pure (Xi _ (Yi hc23 ?_));refine Xi ⟨[],[],hfree⟩ (Yi ⟨Tv,Tv,Fh,Tv⟩ ?_)
 exact .of_eq (congrArg vi (show (1:Int)=solvesP x roots s by unfold solvesP; rw [if_neg (not_not_intro h1),if_pos (by rw [h3]; rfl)]))
end Go.Eng

namespace Go.Eng
open Go.Proofs
def eatP (d:List (List Tm)) (b:List Sl) (p:ByteArray) (va:Int→Ver):List Int→List Sk→Option (List Sk)
 | [],K=>some K
 | _ :: _,[]=>none
 | pl :: ps,y :: K=>if y.path=p∧y.place=pl then match nthZ d y.inf with
   | none=>none
   | some t=>if entailed t (b++[⟨p,va pl⟩]) then eatP d b p va ps K else none
  else none
def eatD (x:List Rl) (roots:List Rq) (d:List (List Tm)) (D:List Sl) (i:Nat) (K:List Sk):Option (List Sk):=match D[i]? with
 | none=>none
 | some y=>eatP d (D.take i) y.path (verAt x y.path) (skipL x (needsP x roots (D.take i)) y.path (plc y.ver)) K
def rightN (x:List Rl) (roots:List Rq) (d:List (List Tm)) (D:List Sl) (K:List Sk):Nat→Option (List Sk)
 | 0=>some K
 | i+1=>(rightN x roots d D K i).bind (eatD x roots d D i)
def rightB (x:List Rl) (roots:List Rq) (d:List (List Tm)) (D:List Sl) (K:List Sk):Bool:=match rightN x roots d D K D.length with | some []=>true | _=>false
def rightX (x:List Rl) (roots:List Rq) (a:An) (d:List (List Tm)):Bool:=decide ((decideR x roots a.sel).2=0)&&rightB x roots d (decideR x roots a.sel).1 a.skips
section
variable {x:List Rl} {roots:List Rq} {d:List (List Tm)} {D:List Sl} {K:List Sk}
theorem rightN_none {j:Nat} (h:rightN x roots d D K j=none):∀ m,j≤m→rightN x roots d D K m=none:=by
 intro m hm
 induction m with
 | zero=>rw [show j=0 by omega] at h; exact h
 | succ m ih =>
  rcases Nat.lt_or_ge j (m+1) with hj | hj
  ·show (rightN x roots d D K m).bind _=none;rw [ih (by omega)]; rfl
  ·rw [show m+1=j by omega]; exact h
theorem rightB_lost {i:Nat} (hi:i<D.length) {K' : List Sk} (h:rightN x roots d D K i=some K') (he:eatD x roots d D i K'=none):rightB x roots d D K=false:=by
 have h1:rightN x roots d D K (i+1)=none:=by show (rightN x roots d D K i).bind _=none; rw [h]; exact he
 unfold rightB; rw [rightN_none h1 D.length (by omega)]
theorem rightN_next {i:Nat} {K' K2:List Sk} (h:rightN x roots d D K i=some K') (he:eatD x roots d D i K'=some K2):rightN x roots d D K (i+1)=some K2:=by
 show (rightN x roots d D K i).bind _=some K2; rw [h]; exact he
theorem eatD_at {i:Nat} (hi:i<D.length) (K:List Sk):eatD x roots d D i K=eatP d (D.take i) D[i].path (verAt x D[i].path) (skipL x (needsP x roots (D.take i)) D[i].path (plc D[i].ver)) K:=by
 unfold eatD; rw [Ge hi]
end
section
variable {d:List (List Tm)} {b:List Sl} {p:ByteArray} {va:Int→Ver} {L:List Int} {k:Nat} {K:List Sk} {m:Nat}
theorem eat_end (hk:L.length≤k):eatP d b p va (L.drop k) K=some K:=by rw [List.drop_of_length_le hk]; rfl
theorem eat_dry (hk:k<L.length) (hm:K.length≤m):eatP d b p va (L.drop k) (K.drop m)=none:=by
 rw [List.drop_eq_getElem_cons hk,List.drop_of_length_le hm]; rfl
theorem eat_bad (hk:k<L.length) (hm:m<K.length) (h:¬ (K[m].path=p∧K[m].place=L[k])):eatP d b p va (L.drop k) (K.drop m)=none:=by
 rw [List.drop_eq_getElem_cons hk,List.drop_eq_getElem_cons hm];show (if _ then _ else none)=none;rw [if_neg h]
theorem eat_inf (hk:k<L.length) (hm:m<K.length) (h:nthZ d K[m].inf=none):eatP d b p va (L.drop k) (K.drop m)=none:=by
 rw [List.drop_eq_getElem_cons hk,List.drop_eq_getElem_cons hm];show (if _ then (match nthZ d K[m].inf with | none=>none | some t=>_) else none)=none;rw [h]; split <;> rfl
theorem eat_not {t:List Tm} (hk:k<L.length) (hm:m<K.length) (h:nthZ d K[m].inf=some t) (he:entailed t (b++[(⟨p,va L[k]⟩ : Sl)])=false):eatP d b p va (L.drop k) (K.drop m)=none:=by
 rw [List.drop_eq_getElem_cons hk,List.drop_eq_getElem_cons hm];show (if _ then (match nthZ d K[m].inf with | none=>none | some t=>if entailed t (b++[(⟨p,va L[k]⟩ : Sl)]) then _ else none) else none)=none;rw [h]; show (if _ then (if entailed t (b++[(⟨p,va L[k]⟩ : Sl)]) then _ else none) else none)=none;rw [he]; split <;> rfl
theorem eat_yes {t:List Tm} (hk:k<L.length) (hm:m<K.length) (h1:K[m].path=p) (h2:K[m].place=L[k]) (h:nthZ d K[m].inf=some t) (he:entailed t (b++[(⟨p,va L[k]⟩ : Sl)])=true):eatP d b p va (L.drop k) (K.drop m)=eatP d b p va (L.drop (k+1)) (K.drop (m+1)):=by
 rw [List.drop_eq_getElem_cons hk,List.drop_eq_getElem_cons hm];show (if _ then (match nthZ d K[m].inf with | none=>none | some t=>if entailed t (b++[(⟨p,va L[k]⟩ : Sl)]) then eatP d b p va (L.drop (k+1)) (K.drop (m+1)) else none) else none)=_;rw [if_pos ⟨h1,h2⟩,h];show (if entailed t (b++[(⟨p,va L[k]⟩ : Sl)]) then _ else none)=_;rw [if_pos he]
end
section
variable {x:List Rl} {roots:List Rq} {d:List (List Tm)}
theorem ver_at (h0:checkIx x=0) {o:Rl} (ho:o ∈ x):verAt x o.path (plc o.ver)=o.ver:=by
 have hx:=(checkIx_ok h0).1;unfold verAt releaseP;cases hf:x.find? (fun r=>decide (r.path=o.path)&&decide (plc r.ver=plc o.ver)) with
 | none =>
  have:=List.find?_eq_none.1 hf o ho
  simp at this
 | some r =>
  have hr:=List.mem_of_find?_eq_some hf;have hp:=List.find?_some hf;simp only [Bool.and_eq_true,decide_eq_true_eq] at hp;have v1:=(hx r hr).val;have v2:=(hx o ho).val;have m1:=(hx r hr).maj;have m2:=(hx o ho).maj;rw [hp.1,m2] at m1;have e0:o.ver.a=r.ver.a:=Option.some.inj m1;have e1:=hp.2;rw [← plc_val v1,← plc_val v2] at e1;unfold place at e1;unfold validB at v1 v2;simp only [Bool.and_eq_true,decide_eq_true_eq] at v1 v2;obtain ⟨⟨_,b1⟩,c1⟩:=v1;obtain ⟨⟨_,b2⟩,c2⟩:=v2;unfold okPart at b1 b2 c1 c2;show r.ver=o.ver;have e2:r.ver.b=o.ver.b:=by omega
  have e3:r.ver.c=o.ver.c:=by omega
  cases hr:r.ver; cases ho:o.ver
  rw [hr,ho] at e0 e2 e3;simp only at e0 e2 e3;rw [e0,e2,e3]
theorem skip_eat (h0:checkIx x=0) (v:Vis):∀ (x' : List Rl),(∀ o ∈ x',o ∈ x)→∀ K:List Sk,skipGo d v x' K=match eatP d v.before v.rel.path (verAt x v.rel.path) (skipL x' v.needs v.rel.path (plc v.rel.ver)) K with | some K'=>(K',true) | none=>([],false)
 | [],_,K=>rfl
 | o :: x',hm,K=>by
  have ih:=skip_eat h0 v x' (fun o h=>hm o (List.mem_cons_of_mem _ h));have hs:skipL (o :: x') v.needs v.rel.path (plc v.rel.ver)=if skipQ v.needs v.rel.path (plc v.rel.ver) o then plc o.ver :: skipL x' v.needs v.rel.path (plc v.rel.ver) else skipL x' v.needs v.rel.path (plc v.rel.ver):=by
   unfold skipL; rw [List.filter_cons]; split <;> rfl
  rw [hs,skip_cons]
  by_cases hq:skipQ v.needs v.rel.path (plc v.rel.ver) o=true
  ·rw [if_pos hq];unfold skipQ at hq;simp only [Bool.and_eq_true,decide_eq_true_eq,Bool.not_eq_true'] at hq;obtain ⟨⟨⟨q1,q2⟩,q3⟩,q4⟩:=hq;rw [if_neg (by simp [q1,q2,q3]),if_neg (by unfold exclB at q4; rw [q4]; decide)];have hv:=ver_at h0 (hm o (List.mem_cons_self ..));rw [q1] at hv;cases K with
   | nil=>rfl
   | cons y K =>
    show (if (!decide (y.path=v.rel.path)||!decide (y.place=plc o.ver))=true then ([],false) else match nthZ d y.inf with | none=>([],false) | some t=>if entailed t (v.before++[keyR o]) then skipGo d v x' K else ([],false))=match (if y.path=v.rel.path∧y.place=plc o.ver then match nthZ d y.inf with | none=>none | some t=>if entailed t (v.before++[⟨v.rel.path,verAt x v.rel.path (plc o.ver)⟩]) then eatP d v.before v.rel.path (verAt x v.rel.path) (skipL x' v.needs v.rel.path (plc v.rel.ver)) K else none else none) with | some K'=>(K',true) | none=>([],false)
    rw [hv];have hk:keyR o=⟨v.rel.path,o.ver⟩:=by unfold keyR; rw [q1]
    rw [hk]
    by_cases hy:y.path=v.rel.path∧y.place=plc o.ver
    ·rw [if_neg (by simp [hy.1,hy.2]),if_pos hy];cases nthZ d y.inf with
     | none=>rfl
     | some t =>
      show (if entailed t (v.before++[⟨v.rel.path,o.ver⟩]) then skipGo d v x' K else ([],false))=match (if entailed t (v.before++[⟨v.rel.path,o.ver⟩]) then eatP d v.before v.rel.path (verAt x v.rel.path) (skipL x' v.needs v.rel.path (plc v.rel.ver)) K else none) with | some K'=>(K',true) | none=>([],false)
      by_cases he:entailed t (v.before++[⟨v.rel.path,o.ver⟩])=true
      ·rw [if_pos he,if_pos he]; exact ih K
      ·rw [if_neg he,if_neg he]
    ·rw [if_neg hy,if_pos (by
      by_cases h1:y.path=v.rel.path
      ·have h2:¬ y.place=plc o.ver:=fun h2=>hy ⟨h1,h2⟩;simp [h2]
      ·simp [h1])]
  ·rw [if_neg hq]
   by_cases h1:(!decide (o.path=v.rel.path)||o.yanked||!decide (plc o.ver<plc v.rel.ver))=true
   ·rw [if_pos h1]; exact ih K
   ·rw [if_neg h1,if_pos]
    ·exact ih K
    ·simp only [Bool.or_eq_true,Bool.not_eq_true',decide_eq_false_iff_not,not_or,Decidable.not_not,Bool.not_eq_true] at h1;cases hb:(v.needs.any fun q=>decide (q.path=v.rel.path)&&!has q.set (plc o.ver)) with
     | true=>rfl
     | false =>
      exfalso
      refine hq ?_;unfold skipQ exclB;rw [decide_eq_true h1.1.1,h1.1.2,decide_eq_true h1.2,hb]; rfl
theorem visits_at {s:List Sl} : ∀ {n:Nat} {before:List Sl},∀ i v,(decideP x s n before (needsP x roots before)).1[i]?=some v→v.before=before++((decideP x s n before (needsP x roots before)).1.take i).map keyVi∧v.needs=needsP x roots v.before∧findRl x (keyVi v)=some v.rel
 | 0,_,i,v,h=>by unfold decideP at h; simp at h
 | n+1,before,i,v,h=>by
  unfold decideP at h ⊢;cases hp:nextP (needsP x roots before) before with
  | none=>rw [hp] at h; simp at h
  | some p =>
   rw [hp] at h;dsimp only at h ⊢;cases hf:findSl s p with
   | none=>rw [hf] at h; simp at h
   | some y =>
    rw [hf] at h;dsimp only at h ⊢;cases hr:findRl x y with
    | none=>rw [hr] at h; simp at h
    | some r =>
     rw [hr] at h;dsimp only at h ⊢;have hk:keyR r=y:=(findRl_ok hr).2.2;have e:needsP x roots before++r.reqs=needsP x roots (before++[y]):=by rw [needsP_add]; unfold reqsAt; rw [hr]
     rw [e] at h ⊢;cases i with
     | zero =>
      simp only [List.getElem?_cons_zero,Option.some.injEq] at h;subst h;exact ⟨by simp,rfl,by show findRl x (keyR r)=some r; rw [hk,hr]⟩
     | succ i =>
      rw [List.getElem?_cons_succ] at h;obtain ⟨h1,h2,h3⟩:=visits_at (n:=n) (before:=before++[y]) i v h;refine ⟨?_,h2,h3⟩;rw [h1,List.take_succ_cons,List.map_cons,show keyVi ⟨before,needsP x roots before,r⟩=y from hk];simp
theorem fold_right {s:List Sl} (h0:checkIx x=0) {V:List Vis} (hV:V=(visits x roots s).1) (K:List Sk):∀ i,i≤V.length →
  match rightN x roots d (V.map keyVi) K i with
  | some K'=>(V.take i).foldl (skipStep x d) (true,K)=((V.take i).all (fun v=>!v.rel.yanked),K')
  | none=>((V.take i).foldl (skipStep x d) (true,K)).1=false
 | 0,_=>rfl
 | i+1,hi=>by
  have ih:=fold_right h0 hV K i (by omega);have hlt:i<V.length:=by omega
  have ht:V.take (i+1)=V.take i++[V[i]]:=by rw [List.take_add_one,Ge hlt]; rfl
  have hva:=visits_at (x:=x) (roots:=roots) (s:=s) (n:=s.length+1) (before:=[]) i V[i] (by
   rw [needsP_nil]; show (visits x roots s).1[i]?=_; rw [← hV]; exact Ge hlt)
  rw [needsP_nil] at hva;obtain ⟨v1,v2,v3⟩:=hva;have v1:V[i].before=(V.map keyVi).take i:=by
   rw [v1,List.nil_append,← List.map_take];show List.map keyVi ((visits x roots s).1.take i)=_;rw [← hV]
  have hD:(V.map keyVi)[i]?=some (keyVi V[i]):=by rw [List.getElem?_map,Ge hlt]; rfl
  rw [ht,List.foldl_append];show match (rightN x roots d (V.map keyVi) K i).bind (eatD x roots d (V.map keyVi) i) with
   | some K'=>skipStep x d ((V.take i).foldl (skipStep x d) (true,K)) V[i]=((V.take i++[V[i]]).all (fun v=>!v.rel.yanked),K')
   | none=>(skipStep x d ((V.take i).foldl (skipStep x d) (true,K)) V[i]).1=false
  cases hn:rightN x roots d (V.map keyVi) K i with
  | none =>
   rw [hn] at ih;show (((V.take i).foldl (skipStep x d) (true,K)).1&&_&&_)=false;rw [show ((V.take i).foldl (skipStep x d) (true,K)).1=false from ih]; rfl
  | some K' =>
   rw [hn] at ih;have ih:(V.take i).foldl (skipStep x d) (true,K)=((V.take i).all (fun v=>!v.rel.yanked),K'):=ih;have he:eatD x roots d (V.map keyVi) i K'=eatP d V[i].before V[i].rel.path (verAt x V[i].rel.path) (skipL x V[i].needs V[i].rel.path (plc V[i].rel.ver)) K':=by
    unfold eatD; rw [hD,v2,v1]
    rfl
   have hs:=skip_eat (d:=d) h0 V[i] x (fun _ h=>h) K';rw [← he] at hs;rw [ih];show match eatD x roots d (V.map keyVi) i K' with
    | some K2=>(((V.take i).all (fun v=>!v.rel.yanked)&&(skipGo d V[i] x K').2&&!V[i].rel.yanked),(skipGo d V[i] x K').1)=((V.take i++[V[i]]).all (fun v=>!v.rel.yanked),K2)
    | none=>((V.take i).all (fun v=>!v.rel.yanked)&&(skipGo d V[i] x K').2&&!V[i].rel.yanked)=false
   rw [hs];cases eatD x roots d (V.map keyVi) i K' with
   | none =>
    show (((V.take i).all fun v=>!v.rel.yanked)&&false&&!V[i].rel.yanked)=false;rw [Bool.and_false,Bool.false_and]
   | some K2 =>
    show (((V.take i).all fun v=>!v.rel.yanked)&&true&&!V[i].rel.yanked,K2)=(((V.take i++[V[i]]).all fun v=>!v.rel.yanked),K2);rw [Bool.and_true,List.all_append];simp
theorem right_check {s:List Sl} {K:List Sk} (hr:checkRqs roots=0) (hs:solvesP x roots s=0) :
  (((visits x roots s).1.foldl (skipStep x d) (true,K)).1&&((visits x roots s).1.foldl (skipStep x d) (true,K)).2.isEmpty)=(s.all (availY x)&&(decide ((decideR x roots s).2=0)&&rightB x roots d (decideR x roots s).1 K)):=by
 obtain ⟨l,hl⟩:=solvesP_ok hs;have hv:=hl.visits;have hd:decideR x roots s=((visits x roots s).1.map keyVi,0):=by
  unfold decideR;rw [if_neg,if_pos hv]
  rintro (h | h | h)
  ·exact h hl.ix
  ·exact h hr
  ·rw [hl.inc] at h; cases h
 have hf:=fold_right (d:=d) hl.ix (s:=s) rfl K (visits x roots s).1.length (Nat.le_refl _);rw [List.take_length] at hf;have hall:s.all (availY x)=(visits x roots s).1.all fun v=>!v.rel.yanked:=by
  have hrun:=visits_run hv;rw [Bool.eq_iff_iff,List.all_eq_true,List.all_eq_true];constructor
  ·intro h v hm;obtain ⟨m1,m2⟩:=hrun.mem v hm
   have:=h _ m1
   unfold availY at this;rw [m2] at this;exact this
  ·intro h y hy;obtain ⟨v,hm,e⟩:=hl.all.1 y hy
   have:=(hrun.mem v hm).2
   rw [e] at this;unfold availY;rw [this];exact h v hm
 rw [hd,hall];have hN:rightB x roots d ((visits x roots s).1.map keyVi) K=match rightN x roots d ((visits x roots s).1.map keyVi) K (visits x roots s).1.length with | some []=>true | _=>false:=by
  unfold rightB; rw [Lm]
 rw [decide_eq_true rfl,Bool.true_and,hN];generalize rightN x roots d ((visits x roots s).1.map keyVi) K (visits x roots s).1.length=R at hf;cases R with
 | none =>
  have hf1:((visits x roots s).1.foldl (skipStep x d) (true,K)).1=false:=hf;rw [hf1]; simp
 | some K' =>
  have hf:(visits x roots s).1.foldl (skipStep x d) (true,K)=((visits x roots s).1.all (fun v=>!v.rel.yanked),K'):=hf;rw [hf];cases K' <;> rfl
end
end Go.Eng

namespace Go.Eng
open Go.Proofs
theorem segS (D:List Sl) (i:Nat):((D.map encSl).take (i:Int).toNat).drop (0:Int).toNat=(D.take i).map encSl:=by
 rw [Int.toNat_natCast,show (0:Int).toNat=0 from rfl,List.drop_zero,List.map_take]
theorem dec_mem {x:List Rl} {roots:List Rq} {s:List Sl} : ∀ y ∈ (decideR x roots s).1,∃ r,findRl x y=some r:=fun y hy=>by
 unfold decideR at hy;split at hy
 ·cases hy
 ·split at hy
  ·rename_i h;obtain ⟨v,hv,rfl⟩:=List.mem_map.1 hy;exact ⟨_,((visits_run h).mem v hv).2⟩
  ·cases hy
section
variable {x:List Rl} {roots:List Rq} {d:List (List Tm)} {D:List Sl} {K:List Sk} {n:Nat}
theorem right_end (h:rightN x roots d D K D.length=some (K.drop n)) (hn:K.length≤n):rightB x roots d D K=true:=by
 unfold rightB; rw [h,List.drop_of_length_le hn]
theorem right_rest (h:rightN x roots d D K D.length=some (K.drop n)) (hn:n<K.length):rightB x roots d D K=false:=by
 unfold rightB; rw [h,List.drop_eq_getElem_cons hn]
end
set_option maxHeartbeats 4000000 in
theorem c50 (x:List Rl) (ifs:List (List AV)) (roots:List Rq) (a:An) (d:List (List Tm)) (h0:checkIx x=0) (hx:∀ r ∈ x,FewR r) (hxl:Few x) (hr:∀ q ∈ roots,FewQ q) (hrl:roots.length≤1000000) (hs:a.sel.length≤100000) (hk:a.skips.length≤1000000) (hdF:∀ t ∈ d,FewT t):PC 50 [.agg (Ic x ifs),sl encRq roots,.agg (encAn a),sl encInc d] (vb (rightX x roots a d)):=by
 have h44:=c44 x ifs roots a.sel hx hxl hr hrl hs;have hDl:=dec_len (x:=x) (roots:=roots) (s:=a.sel);have hDm:=dec_mem (x:=x) (roots:=roots) (s:=a.sel);have hrq:∀ q ∈ roots,Few q.set:=fun q hq=>(hr q hq).1;have hv:∀ r ∈ x,validB r.ver=true:=fun r hr=>((checkIx_ok h0).1 r hr).val;unfold decR at h44;obtain ⟨D,hD⟩ : ∃ D,D=(decideR x roots a.sel).1:=⟨_,rfl⟩;rw [← hD] at h44 hDl hDm;have hDv:∀ y ∈ D,validB y.ver=true:=fun y hy=>by
  obtain ⟨r,hr⟩:=hDm y hy;rw [← (findRl_ok hr).2.2];exact hv r (findRl_ok hr).2.1
 refine Ps ⟨[],[],[],[],[],[],[],[],[],[],[2,9,13,14,16,17,18,19]⟩ Tryz.func50 rfl (Nz rfl) ?_;refine Yi (Nz rfl) ?_;refine Xi .pure (Xi _ (Yi h44 ?_));refine Xi ⟨[(1,sl encRq roots),(3,sl encInc d),(4,.ref 4 0),(6,.ref 6 0),(9,sl encSl D),(10,vi (decideR x roots a.sel).2)],[(4,.cells (Ic x ifs)),(6,.cells (encAn a))],hfree⟩ (Yi ⟨Z6,Z2,Fh,Tv⟩ ?_)
 refine Yi (fun h1=>?_) (fun h1=>?_)
 ·have h1:((decideR x roots a.sel).2:Int)≠(0:Int):=h1;exact .of_eq (congrArg vb (show false=rightX x roots a d by unfold rightX; rw [decide_eq_false h1,Bool.false_and]))
 have h1:((decideR x roots a.sel).2:Int)=(0:Int):=Classical.byContradiction h1;refine Xi {q:Nat × Nat // q.1≤D.length∧q.2≤a.skips.length∧rightN x roots d D a.skips q.1=some (a.skips.drop q.2)} (Xi (fun q=>⟨[(1,sl encRq roots),(3,sl encInc d),(4,.ref 4 0),(6,.ref 6 0),(9,sl encSl D),(11,vi q.1.2),(12,vi q.1.1)],[(4,.cells (Ic x ifs)),(6,.cells (encAn a))],hfree⟩) (Xi (fun q=>D.length - q.1.1) (Yi (Xi ⟨(0,0),Nat.zero_le _,Nat.zero_le _,rfl⟩ ?_) ?_)))
 ·exact ⟨Z7,Z2,Fh,Tv⟩
 intro ⟨⟨i,n⟩,i1,i2,i3⟩;have i1:i≤D.length:=i1;have i2:n≤a.skips.length:=i2;have i3:rightN x roots d D a.skips i=some (a.skips.drop n):=i3;refine Yi (fun h3=>?_) (fun h3=>?_)
 ·have h3:(i:Int)<((D.map encSl).length:Int):=h3;have n3:i<D.length:=by have q:=h3; rw [Lm] at q; omega
  have g3:D[i]?=some D[i]:=Ge n3;have ni:i<D.length:=by have q:=h3; rw [Lm] at q; omega
  have ggi:D[i]?=some D[i]:=Ge ni;refine Yi (Nz rfl) ?_;refine Yi (show (0:Int)≤0∧(0:Int)≤i∧(i:Int)≤((D.map encSl).length:Nat) by rw [Lm]; omega) (Yi (enc_len (enc:=encSl) (n:=4) (fun _=>rfl) D) ?_);refine Xi (encSl D[i]) (Yi (Yi (Nn i) (map_at ggi)) (Yi rfl ?_));refine Xi (encSl D[i]) (Yi (Yi (Nn i) (map_at ggi)) (Yi rfl ?_));refine Yi (Nz rfl) ?_;refine Xi _ (Yi (show PC 95 [.agg (encVer D[i].ver)] (vi (plc D[i].ver)) from plc_val (hDv _ (List.getElem_mem ni))▸c95 D[i].ver (hDv _ (List.getElem_mem ni))) ?_);refine Exists.elim (show ∃ Lp,Lp=skipL x (needsP x roots (D.take i)) D[i].path (plc D[i].ver) from ⟨_,rfl⟩) (fun Lp hLp=>?_);have hLpl:Lp.length≤x.length:=by rw [hLp]; exact skipL_len ..
  refine Xi _ (Yi (show PC 94 [ixV x ifs,sl encRq roots,.slice .none (((D.map encSl).take (i:Int).toNat).drop (0:Int).toNat),vs D[i].path,vi (plc D[i].ver)] (sl encInt Lp) from by rw [segS,hLp]; exact c94 x ifs roots (D.take i) D[i].path (plc D[i].ver) hx hxl hrq hrl (by rw [List.length_take]; omega) hv) ?_);refine Yi (by kernel_rfl) ?_;refine Xi ⟨[(1,sl encRq roots),(3,sl encInc d),(4,.ref 4 0),(6,.ref 6 0),(9,sl encSl D),(11,vi n),(12,vi i),(13,sl encInt Lp)],[(4,.cells (Ic x ifs)),(6,.cells (encAn a))],hfree⟩ (Yi ⟨Z8,Z2,Fh,Tv⟩ ?_)
  refine Xi {q:Nat × Nat // q.1≤Lp.length∧q.2≤a.skips.length∧eatD x roots d D i (a.skips.drop n)=eatP d (D.take i) D[i].path (verAt x D[i].path) (Lp.drop q.1) (a.skips.drop q.2)} (Xi (fun q=>⟨[(1,sl encRq roots),(3,sl encInc d),(4,.ref 4 0),(6,.ref 6 0),(9,sl encSl D),(11,vi q.1.2),(12,vi i),(13,sl encInt Lp),(14,vi q.1.1)],[(4,.cells (Ic x ifs)),(6,.cells (encAn a))],hfree⟩) (Xi (fun q=>Lp.length - q.1.1) (Yi (Xi ⟨(0,n),Nat.zero_le _,i2,by show _=eatP d (D.take i) D[i].path (verAt x D[i].path) (Lp.drop 0) (a.skips.drop n); rw [List.drop_zero,hLp]; exact eatD_at ni _⟩ ?_) ?_)))
  ·exact ⟨Z9,Z2,Fh,Tv⟩
  intro ⟨⟨k,m⟩,k1,k2,k3⟩;have k1:k≤Lp.length:=k1;have k2:m≤a.skips.length:=k2;have k3:eatD x roots d D i (a.skips.drop n)=eatP d (D.take i) D[i].path (verAt x D[i].path) (Lp.drop k) (a.skips.drop m):=k3;refine Yi (fun h4=>?_) (fun h4=>?_)
  ·have h4:(k:Int)<((Lp.map encInt).length:Int):=h4;have n4:k<Lp.length:=by have q:=h4; rw [Lm] at q; omega
   have g4:Lp[k]?=some Lp[k]:=Ge n4;have nk:k<Lp.length:=by have q:=h4; rw [Lm] at q; omega
   have ggk:Lp[k]?=some Lp[k]:=Ge nk;refine Yi (fun h5=>?_) (fun h5=>?_)
   ·have h5:((a.skips.map encSk).length:Int)≤(m:Int):=h5;refine Xi ⟨[],[],hfree⟩ (Yi ⟨Tv,Tv,Fh,Tv⟩ ?_)
    exact .of_eq (congrArg vb (show false=rightX x roots a d by unfold rightX; rw [decide_eq_true h1,Bool.true_and,← hD,rightB_lost ni i3 (k3.trans (eat_dry nk (by have q:=h5; rw [Lm] at q; omega)))]))
   have h5:¬ (((a.skips.map encSk).length:Int)≤(m:Int)):=h5;have nm:m<a.skips.length:=by have q:=h5; rw [Lm] at q; omega
   have ggm:a.skips[m]?=some a.skips[m]:=Ge nm;refine Xi ⟨[(1,sl encRq roots),(3,sl encInc d),(4,.ref 4 0),(6,.ref 6 0),(9,sl encSl D),(11,vi m),(12,vi i),(13,sl encInt Lp),(14,vi k)],[(4,.cells (Ic x ifs)),(6,.cells (encAn a))],hfree⟩ (Yi ⟨Z9,Z2,Fh,Tv⟩ ?_)
   refine Xi (encSk a.skips[m]) (Yi (Yi (show (0:Int)≤m by omega) (map_at ggm)) (Yi rfl ?_));refine Yi (Nz rfl) ?_;refine Yi (Nz rfl) ?_;refine Xi (encSl D[i]) (Yi (Yi (Nn i) (map_at ggi)) (Yi rfl ?_));refine Yi (fun h8=>?_) (fun h8=>?_)
   ·have h8:(a.skips[m].path:ByteArray)≠D[i].path:=h8;refine Yi (by kernel_rfl) ?_;refine Xi ⟨[],[],hfree⟩ (Yi ⟨Tv,Tv,Fh,Tv⟩ ?_)
    exact .of_eq (congrArg vb (show false=rightX x roots a d by unfold rightX; rw [decide_eq_true h1,Bool.true_and,← hD,rightB_lost ni i3 (k3.trans (eat_bad nk nm (fun h=>h8 h.1)))]))
   have h8:(a.skips[m].path:ByteArray)=D[i].path:=Classical.byContradiction h8;refine Xi (encInt Lp[k]) (Yi (Yi (Nn k) (map_at ggk)) (Yi rfl ?_));refine Yi (fun h10=>?_) (fun h10=>?_)
   ·have h10:(a.skips[m].place:Int)≠(Lp[k]:Int):=h10;refine Yi (by kernel_rfl) ?_;refine Xi ⟨[],[],hfree⟩ (Yi ⟨Tv,Tv,Fh,Tv⟩ ?_)
    exact .of_eq (congrArg vb (show false=rightX x roots a d by unfold rightX; rw [decide_eq_true h1,Bool.true_and,← hD,rightB_lost ni i3 (k3.trans (eat_bad nk nm (fun h=>h10 h.2)))]))
   have h10:(a.skips[m].place:Int)=(Lp[k]:Int):=Classical.byContradiction h10;refine Yi (fun h12=>?_) (fun h12=>?_)
   ·have h12:(a.skips[m].inf:Int)<(0:Int):=h12;refine Yi (by kernel_rfl) ?_;refine Xi ⟨[],[],hfree⟩ (Yi ⟨Tv,Tv,Fh,Tv⟩ ?_)
    exact .of_eq (congrArg vb (show false=rightX x roots a d by unfold rightX; rw [decide_eq_true h1,Bool.true_and,← hD,rightB_lost ni i3 (k3.trans (eat_inf nk nm (nthZ_lo h12)))]))
   have h12:¬ ((a.skips[m].inf:Int)<(0:Int)):=h12;refine Yi (fun h14=>?_) (fun h14=>?_)
   ·have h14:((d.map encInc).length:Int)≤(a.skips[m].inf:Int):=h14;refine Yi (by kernel_rfl) ?_;refine Xi ⟨[],[],hfree⟩ (Yi ⟨Tv,Tv,Fh,Tv⟩ ?_)
    exact .of_eq (congrArg vb (show false=rightX x roots a d by unfold rightX; rw [decide_eq_true h1,Bool.true_and,← hD,rightB_lost ni i3 (k3.trans (eat_inf nk nm (nthZ_hi (by have q:=h14; rw [Lm] at q; omega))))]))
   have h14:¬ (((d.map encInc).length:Int)≤(a.skips[m].inf:Int)):=h14;have hnta:¬ ((d.length:Nat):Int)≤a.skips[m].inf:=by have q:=h14; rw [Lm] at q; omega
   refine Exists.elim (nthZ_in h12 hnta) (fun ta htax=>?_);have hta:=htax.1;have htag:=htax.2.1;have htam:=htax.2.2;refine Yi (by kernel_rfl) ?_;refine Xi ⟨[(1,sl encRq roots),(3,sl encInc d),(4,.ref 4 0),(6,.ref 6 0),(9,sl encSl D),(11,vi m),(12,vi i),(13,sl encInt Lp),(14,vi k),(15,.ref 15 0)],[(4,.cells (Ic x ifs)),(6,.cells (encAn a)),(15,.cells (encSk a.skips[m]))],hfree⟩ (Yi ⟨Z10,Z3,Fh,Tv⟩ ?_)
   refine Xi (encInc ta) (Yi (Yi (show (0:Int)≤a.skips[m].inf by omega) (map_at htag)) (Yi rfl ?_));refine Yi (Nz rfl) ?_;refine Yi (show (0:Int)≤0∧(0:Int)≤i∧(i:Int)≤((D.map encSl).length:Nat) by rw [Lm]; omega) (Yi (enc_len (enc:=encSl) (n:=4) (fun _=>rfl) D) ?_);refine Xi _ (Yi (show PC 97 [ixV x ifs,.slice .none (((D.map encSl).take (i:Int).toNat).drop (0:Int).toNat),vs a.skips[m].path,vi a.skips[m].place] (sl encSl (D.take i++[(⟨a.skips[m].path,verAt x a.skips[m].path a.skips[m].place⟩ : Sl)])) from by rw [segS]; exact c97 x ifs (D.take i) a.skips[m].path a.skips[m].place hxl hv (by rw [List.length_take]; omega)) ?_);refine Or.elim (Bt (entailed ta (D.take i++[⟨a.skips[m].path,verAt x a.skips[m].path a.skips[m].place⟩]))) (fun h16=>?_) (fun h16=>?_)
   ·have h16:(entailed ta (D.take i++[⟨a.skips[m].path,verAt x a.skips[m].path a.skips[m].place⟩]))=true:=h16;have hc17:=c96 ta (D.take i++[⟨a.skips[m].path,verAt x a.skips[m].path a.skips[m].place⟩]) (hdF ta htam) (by unfold Few; rw [List.length_append,List.length_take,List.length_singleton]; omega);rw [show (entailed ta (D.take i++[⟨a.skips[m].path,verAt x a.skips[m].path a.skips[m].place⟩]))=true from h16] at hc17;refine Xi _ (Yi hc17 ?_);refine Yi (by kernel_rfl) ?_;refine Xi ⟨[(1,sl encRq roots),(3,sl encInc d),(4,.ref 4 0),(6,.ref 6 0),(9,sl encSl D),(11,vi m),(12,vi i),(13,sl encInt Lp),(14,vi k)],[(4,.cells (Ic x ifs)),(6,.cells (encAn a))],hfree⟩ (Yi ⟨Z9,Z2,Fh,Tv⟩ ?_)
    refine Yi (Ii m (by omega)) ?_;refine Yi (Ii k (by omega)) ?_;have hent:entailed ta (D.take i++[⟨D[i].path,verAt x D[i].path Lp[k]⟩])=true:=by rw [← h8,← h10]; exact h16
    refine Xi ⟨(k+1,m+1),by omega,by omega,k3.trans (eat_yes nk nm h8 h10 hta hent)⟩ ?_;exact ⟨Dl Lp.length k (by omega),Z9,Z2,Fh,Tv⟩
   have h16:(entailed ta (D.take i++[⟨a.skips[m].path,verAt x a.skips[m].path a.skips[m].place⟩]))=false:=h16;have hc19:=c96 ta (D.take i++[⟨a.skips[m].path,verAt x a.skips[m].path a.skips[m].place⟩]) (hdF ta htam) (by unfold Few; rw [List.length_append,List.length_take,List.length_singleton]; omega);rw [show (entailed ta (D.take i++[⟨a.skips[m].path,verAt x a.skips[m].path a.skips[m].place⟩]))=false from h16] at hc19;refine Xi _ (Yi hc19 ?_);refine Yi (by kernel_rfl) ?_;refine Xi ⟨[],[],hfree⟩ (Yi ⟨Tv,Tv,Fh,Tv⟩ ?_)
   have hent:entailed ta (D.take i++[⟨D[i].path,verAt x D[i].path Lp[k]⟩])=false:=by rw [← h8,← h10]; exact h16
   exact .of_eq (congrArg vb (show false=rightX x roots a d by unfold rightX; rw [decide_eq_true h1,Bool.true_and,← hD,rightB_lost ni i3 (k3.trans (eat_not nk nm hta hent))]))
  have h4:¬ ((k:Int)<((Lp.map encInt).length:Int)):=h4;have n4:¬ k<Lp.length:=by have q:=h4; rw [Lm] at q; omega
  refine Yi (Ii i (by omega)) ?_;refine Xi ⟨(i+1,m),by omega,k2,rightN_next i3 (by rw [k3]; exact eat_end (by omega))⟩ ?_;exact ⟨Dl D.length i (by omega),Z7,Z2,Fh,Tv⟩
 have h3:¬ ((i:Int)<((D.map encSl).length:Int)):=h3;have n3:¬ i<D.length:=by have q:=h3; rw [Lm] at q; omega
 refine Yi (fun h22=>?_) (fun h22=>?_)
 ·have h22:(n:Int)=((a.skips.map encSk).length:Int):=h22;rw [show i=D.length by omega] at i3;exact .of_eq (congrArg vb (show true=rightX x roots a d by unfold rightX; rw [decide_eq_true h1,Bool.true_and,← hD,right_end i3 (by have q:=h22; rw [Lm] at q; omega)]))
 have h22:¬ ((n:Int)=((a.skips.map encSk).length:Int)):=h22;rw [show i=D.length by omega] at i3;exact .of_eq (congrArg vb (show false=rightX x roots a d by unfold rightX; rw [decide_eq_true h1,Bool.true_and,← hD,right_rest i3 (by have q:=h22; rw [Lm] at q; omega)]))
section
variable {x:List Rl} {roots:List Rq} {a:An}
theorem chk_nf (h:(deriveP x roots a.infs).2=0) (hf:a.found=false):checkP x roots a=if !a.sel.isEmpty||!a.skips.isEmpty||!refutedB (deriveP x roots a.infs).1 then 18 else 0:=by
 unfold checkP; rw [if_neg (not_not_intro h),if_pos hf]
theorem chk_sel (h:(deriveP x roots a.infs).2=0) (hf:a.found=false) (hs:0<a.sel.length):checkP x roots a=18:=by
 rw [chk_nf h hf,if_pos];cases hs' : a.sel with
 | nil=>rw [hs'] at hs; cases hs
 | cons y l=>rfl
theorem chk_skip (h:(deriveP x roots a.infs).2=0) (hf:a.found=false) (hs:0<a.skips.length):checkP x roots a=18:=by
 rw [chk_nf h hf,if_pos];cases hs' : a.skips with
 | nil=>rw [hs'] at hs; cases hs
 | cons y l=>simp
theorem chk_ref (h:(deriveP x roots a.infs).2=0) (hf:a.found=false) (hs:¬ 0<a.sel.length) (hk:¬ 0<a.skips.length):checkP x roots a=refutesP x roots a.infs:=by
 have e1:a.sel=[]:=List.eq_nil_of_length_eq_zero (by omega);have e2:a.skips=[]:=List.eq_nil_of_length_eq_zero (by omega);rw [chk_nf h hf,e1,e2];unfold refutesP;rw [if_neg (not_not_intro h)];cases refutedB (deriveP x roots a.infs).1 <;> rfl
theorem chk_solve (h:(deriveP x roots a.infs).2=0) (hf:a.found=true) (hs:solvesP x roots a.sel≠0):checkP x roots a=18:=by
 unfold checkP; rw [if_neg (not_not_intro h),if_neg (by rw [hf]; decide),if_pos hs]
theorem chk_found (h:(deriveP x roots a.infs).2=0) (hf:a.found=true) (hs:solvesP x roots a.sel=0):checkP x roots a=if (a.sel.all (availY x)&&rightX x roots a (deriveP x roots a.infs).1) then 0 else 18:=by
 have h2:=right_check (d:=(deriveP x roots a.infs).1) (K:=a.skips) (deriveP_ok h).2.1 hs;unfold checkP; rw [if_neg (not_not_intro h),if_neg (by rw [hf]; decide),if_neg (not_not_intro hs),h2]
 rfl
end
set_option maxHeartbeats 4000000 in
theorem c22 (x:List Rl) (ifs:List (List AV)) (roots:List Rq) (a:An) (hx:∀ r ∈ x,FewR r) (hxl:Few x) (hr:∀ q ∈ roots,FewQ q) (hrl:roots.length≤1000000) (hs:a.sel.length≤256) (hk:a.skips.length≤1000000):PC 22 [.agg (Ic x ifs),sl encRq roots,.agg (encAn a)] (vi (checkP x roots a)):=by
 refine Ps ⟨[],[],[],[],[],[],[],[],[],[],[2,6,7,9,10]⟩ Tryz.func22 rfl (Nz rfl) ?_;refine Yi (Nz rfl) ?_;refine Xi .pure (Xi _ (Yi (show PC 13 [ixV x ifs,sl encRq roots,sl encNf a.infs] (.tup [sl encInc (deriveP x roots a.infs).1,vi (deriveP x roots a.infs).2]) from c13 x ifs roots a.infs hx hr) ?_));refine Xi ⟨[(1,sl encRq roots),(3,.ref 3 0),(5,.ref 5 0),(7,sl encInc (deriveP x roots a.infs).1),(8,vi (deriveP x roots a.infs).2)],[(3,.cells (Ic x ifs)),(5,.cells (encAn a))],hfree⟩ (Yi ⟨Z5,Z2,Fh,Tv⟩ ?_)
 refine Yi (fun h1=>?_) (fun h1=>?_)
 ·have h1:((deriveP x roots a.infs).2:Int)≠(0:Int):=h1;exact .of_eq (congrArg vi (show ((deriveP x roots a.infs).2:Int)=checkP x roots a by unfold checkP; rw [if_pos h1]))
 have h1:((deriveP x roots a.infs).2:Int)=(0:Int):=Classical.byContradiction h1;refine Yi (fun h3=>?_) (fun h3=>?_)
 ·have h3:a.found=true:=h3;refine Yi (Nz rfl) ?_;refine Xi .pure (Xi _ (Yi (c48 x ifs roots a.sel hx hxl (fun q hq=>(hr q hq).1) hrl hs) ?_));refine Yi (fun h4=>?_) (fun h4=>?_)
  ·have h4:(solvesP x roots a.sel:Int)≠(0:Int):=h4;refine Xi ⟨[],[],hfree⟩ (Yi ⟨Tv,Tv,Fh,Tv⟩ ?_)
   exact .of_eq (congrArg vi (show (18:Int)=checkP x roots a by exact (chk_solve h1 h3 h4).symm))
  have h4:(solvesP x roots a.sel:Int)=(0:Int):=Classical.byContradiction h4;refine Yi (Nz rfl) ?_;refine Or.elim (Bt (a.sel.all (availY x))) (fun h6=>?_) (fun h6=>?_)
  ·have h6:(a.sel.all (availY x))=true:=h6;have hc7:=(c49 x ifs a.sel hx hxl (by omega));rw [show (a.sel.all (availY x))=true from h6] at hc7;refine Xi .pure (Xi _ (Yi hc7 ?_));refine Yi (Nz rfl) ?_;refine Yi (Nz rfl) ?_;refine Or.elim (Bt (rightX x roots a (deriveP x roots a.infs).1)) (fun h8=>?_) (fun h8=>?_)
   ·have h8:(rightX x roots a (deriveP x roots a.infs).1)=true:=h8;have hc9:=(c50 x ifs roots a (deriveP x roots a.infs).1 (deriveP_ok h1).1 hx hxl hr hrl (by omega) hk derived_fewA);rw [show (rightX x roots a (deriveP x roots a.infs).1)=true from h8] at hc9;refine Xi .pure (Xi _ (Yi hc9 ?_));refine Xi ⟨[],[],hfree⟩ (Yi ⟨Tv,Tv,Fh,Tv⟩ ?_)
    exact .of_eq (congrArg vi (show (0:Int)=checkP x roots a by rw [chk_found h1 h3 h4,h6,h8]; rfl))
   have h8:(rightX x roots a (deriveP x roots a.infs).1)=false:=h8;have hc11:=(c50 x ifs roots a (deriveP x roots a.infs).1 (deriveP_ok h1).1 hx hxl hr hrl (by omega) hk derived_fewA);rw [show (rightX x roots a (deriveP x roots a.infs).1)=false from h8] at hc11;refine Xi .pure (Xi _ (Yi hc11 ?_));refine Xi ⟨[],[],hfree⟩ (Yi ⟨Tv,Tv,Fh,Tv⟩ ?_)
   exact .of_eq (congrArg vi (show (18:Int)=checkP x roots a by rw [chk_found h1 h3 h4,h6,h8]; rfl))
  have h6:(a.sel.all (availY x))=false:=h6;have hc13:=(c49 x ifs a.sel hx hxl (by omega));rw [show (a.sel.all (availY x))=false from h6] at hc13;refine Xi .pure (Xi _ (Yi hc13 ?_));refine Xi ⟨[],[],hfree⟩ (Yi ⟨Tv,Tv,Fh,Tv⟩ ?_)
  exact .of_eq (congrArg vi (show (18:Int)=checkP x roots a by rw [chk_found h1 h3 h4,h6]; rfl))
 have h3:a.found=false:=h3;refine Yi (fun h15=>?_) (fun h15=>?_)
 ·have h15:(0:Int)<((a.sel.map encSl).length:Int):=h15;have n15:0<a.sel.length:=by have q:=h15; rw [Lm] at q; omega
  refine Xi ⟨[],[],hfree⟩ (Yi ⟨Tv,Tv,Fh,Tv⟩ ?_)
  exact .of_eq (congrArg vi (show (18:Int)=checkP x roots a by exact (chk_sel h1 h3 (by have q:=h15; rw [Lm] at q; omega)).symm))
 have h15:¬ ((0:Int)<((a.sel.map encSl).length:Int)):=h15;have n15:¬ 0<a.sel.length:=by have q:=h15; rw [Lm] at q; omega
 refine Yi (fun h17=>?_) (fun h17=>?_)
 ·have h17:(0:Int)<((a.skips.map encSk).length:Int):=h17;have n17:0<a.skips.length:=by have q:=h17; rw [Lm] at q; omega
  refine Xi ⟨[],[],hfree⟩ (Yi ⟨Tv,Tv,Fh,Tv⟩ ?_)
  exact .of_eq (congrArg vi (show (18:Int)=checkP x roots a by exact (chk_skip h1 h3 (by have q:=h17; rw [Lm] at q; omega)).symm))
 have h17:¬ ((0:Int)<((a.skips.map encSk).length:Int)):=h17;have n17:¬ 0<a.skips.length:=by have q:=h17; rw [Lm] at q; omega
 refine Xi ⟨[(1,sl encRq roots),(3,.ref 3 0),(5,.ref 5 0)],[(3,.cells (Ic x ifs)),(5,.cells (encAn a))],hfree⟩ (Yi ⟨Z3,Z2,Fh,Tv⟩ ?_)
 refine Yi (Nz rfl) ?_;refine Xi .pure (Xi _ (Yi (c16 x ifs roots a.infs hx hr) ?_));exact .of_eq (congrArg vi (show (refutesP x roots a.infs:Int)=checkP x roots a by exact (chk_ref h1 h3 (by have q:=h15; rw [Lm] at q; omega) (by have q:=h17; rw [Lm] at q; omega)).symm))
end Go.Eng
