/- Lemmas for the claims of this seat, without a condition: part 26 (R13, R14, R15, R16, R17, R18, R19, R20, R21). -/
import Derived.Test.YtodcmjcogdcmlaaGreatDoorA25
namespace Go.Eng
open Go.Proofs
theorem cmpR_key {a b : Rl} (h : keyR a = keyR b) : cmpR a b = 0 := by
 obtain ⟨h1, h2, h3, h4⟩ := key_parts h
 unfold cmpR cmpB cmpV cmpI
 rw [h1, h2, h3, h4, blt_irrefl]
 simp
theorem c67 (x : List Rl) (ifs : List (List AV)) (hs : ∀ r ∈ x, FewR r) : PC 67 [ixV x ifs] (vi (checkIx x)) := by
 refine pcall_sub (cxp (plcut [4, 6, 8, 10, 12])) rfl tab_ok hm rfl Tryz.func67 (by kernel_rfl) rfl (Nz rfl) (by kernel_rfl) ?_
 refine Exists.elim (show ∃ N, N = checkIx x from ⟨_, rfl⟩) (fun N hN => ?_)
 refine Yi (fun h => ?_) (fun h => ?_)
 ·have h : (256 : Int) < (x.map encRl).length := h
  exact .of_eq (congrArg vi (show (7 : Int) = checkIx x by unfold checkIx; rw [if_pos (by rw [Lm] at h; omega)]))
 have h : ¬ (256 : Int) < (x.map encRl).length := h
 have hl : x.length ≤ 256 := by rw [Lm] at h; omega
 have hck : checkIx x = checkIxGo none x := by unfold checkIx; rw [if_neg (by omega)]
 refine Xi ⟨[(3, sl encRl x)], [], hfree⟩ (Yi ?_ ?_)
 ·exact ⟨⟨Zr, Tv⟩, Tv, Fh, Tv⟩
 refine Xi {i : Nat // i ≤ x.length ∧ checkIxGo none x = checkIxGo (befR x i) (x.drop i)} (Xi (fun i => ⟨[(3, sl encRl x), (4, vi i.1)], [], hfree⟩) (Xi (fun i => x.length - i.1) (Yi (Xi ⟨0, Nat.zero_le _, rfl⟩ ?_) ?_)))
 ·exact ⟨⟨Zr, Zr, Tv⟩, Tv, Fh, Tv⟩
 intro ⟨i, h1, h2⟩
 refine Yi (fun h => ?_) (fun h => ?_)
 ·skip
  have h : (i : Int) < (x.map encRl).length := h
  have h : i < x.length := by simpa using h
  have hg : x[i]? = some x[i] := Ge h
  have hd : x.drop i = x[i] :: x.drop (i + 1) := List.drop_eq_getElem_cons h
  have hc := c112 x[i] (hs x[i] (List.getElem_mem h))
  have hgo : checkIxGo none x = if checkRl x[i] ≠ 0 then checkRl x[i] else match befR x i with
   | none => checkIxGo (some x[i]) (x.drop (i + 1))
   | some b => if keyR b = keyR x[i] then 5 else if 0 < cmpR b x[i] then 1 else checkIxGo (some x[i]) (x.drop (i + 1)) := by rw [h2, hd]; rfl
  have hnext : befR x (i + 1) = some x[i] := Ge h
  refine Xi (encRl x[i]) (Yi (Yi (by show (0 : Int) ≤ i; omega) (by simp [hg])) (Yi rfl ?_))
  refine Yi (Nz rfl) ?_
  refine Xi .pure (Xi _ (Yi (hc) ?_))
  refine Xi ⟨[(3, sl encRl x), (4, vi i), (5, vi (checkRl x[i]))], [], hfree⟩ (Yi ?_ ?_)
  ·exact ⟨⟨Zr, Zr, Zr, Tv⟩, Tv, Fh, Tv⟩
  refine Yi (fun h3 => ?_) (fun h3 => ?_)
  ·have h3 : checkRl x[i] ≠ 0 := h3
   exact .of_eq (congrArg vi (show checkRl x[i] = checkIx x by rw [hck, hgo, if_pos h3]))
  have h3 : ¬ checkRl x[i] ≠ 0 := h3
  rw [if_neg h3] at hgo
  refine Xi ⟨[(3, sl encRl x), (4, vi i)], [], hfree⟩ (Yi ?_ ?_)
  ·exact ⟨⟨Zr, Zr, Tv⟩, Tv, Fh, Tv⟩
  refine Yi (fun h4 => ?_) (fun h4 => ?_)
  ·have h4 : (0 : Int) < i := h4
   have hk : i - 1 < x.length := by omega
   have hg1 : x[i - 1]? = some x[i - 1] := Ge hk
   have hn : ((i : Int) - 1).toNat = i - 1 := by omega
   have hb : befR x i = some x[i - 1] := by
    cases i with
    | zero => omega
    | succ k => exact hg1
   rw [hb] at hgo
   have hgo : checkIxGo none x = if keyR x[i - 1] = keyR x[i] then 5 else if 0 < cmpR x[i - 1] x[i] then 1 else checkIxGo (some x[i]) (x.drop (i + 1)) := hgo
   have hcm := c113 x[i - 1] x[i]
   have hat : (0 : Int) ≤ (i : Int) - 1 ∧ (x.map encRl)[((i : Int) - 1).toNat]? = some (encRl x[i - 1]) := ⟨by omega, by rw [hn]; exact map_at hg1⟩
   refine Yi (show InI64 ((i : Int) - 1) by unfold InI64; omega) ?_
   refine Xi (encRl x[i - 1]) (Yi hat (Yi rfl ?_))
   refine Yi (Nz rfl) ?_
   refine Xi (encRl x[i]) (Yi (Yi (by show (0 : Int) ≤ i; omega) (by simp [hg])) (Yi rfl ?_))
   refine Yi (Nz rfl) ?_
   refine Xi _ (Yi (hcm) ?_)
   refine Yi (fun h5 => ?_) (fun h5 => ?_)
   ·have h5 : cmpR x[i - 1] x[i] = 0 := h5
    refine Yi (by kernel_rfl) ?_
    exact .of_eq (congrArg vi (show (5 : Int) = checkIx x by rw [hck, hgo, if_pos (cmpR_zero h5)]))
   have h5 : ¬ cmpR x[i - 1] x[i] = 0 := h5
   refine Yi (by kernel_rfl) ?_
   refine Xi ⟨[(3, sl encRl x), (4, vi i)], [], hfree⟩ (Yi ?_ ?_)
   ·exact ⟨⟨Zr, Zr, Tv⟩, Tv, Fh, Tv⟩
   refine Yi (fun _ => ?_) (fun h9 => absurd h4 h9)
   refine Yi (show InI64 ((i : Int) - 1) by unfold InI64; omega) ?_
   refine Xi (encRl x[i - 1]) (Yi hat (Yi rfl ?_))
   refine Yi (Nz rfl) ?_
   refine Xi (encRl x[i]) (Yi (Yi (by show (0 : Int) ≤ i; omega) (by simp [hg])) (Yi rfl ?_))
   refine Yi (Nz rfl) ?_
   refine Xi _ (Yi (hcm) ?_)
   refine Yi (fun h6 => ?_) (fun h6 => ?_)
   ·have h6 : 0 < cmpR x[i - 1] x[i] := h6
    refine Yi (by kernel_rfl) ?_
    exact .of_eq (congrArg vi (show (1 : Int) = checkIx x by rw [hck, hgo, if_neg (fun e => h5 (cmpR_key e)), if_pos h6]))
   have h6 : ¬ 0 < cmpR x[i - 1] x[i] := h6
   refine Yi (by kernel_rfl) ?_
   refine Xi ⟨[(3, sl encRl x), (4, vi i)], [], hfree⟩ (Yi ?_ ?_)
   ·exact ⟨⟨Zr, Zr, Tv⟩, Tv, Fh, Tv⟩
   refine Yi (by show InI64 ((i : Int) + 1); unfold InI64; omega) ?_
   refine Xi ⟨i + 1, by omega, by rw [hgo, if_neg (fun e => h5 (cmpR_key e)), if_neg h6, hnext]⟩ ?_
   exact ⟨by show x.length - (i + 1) < x.length - i; omega, ⟨Zr, Zr, Tv⟩, Tv, Fh, Tv⟩
  have h4 : ¬ (0 : Int) < i := h4
  have hb : befR x i = none := by
   rw [show i = 0 by omega]
  rw [hb] at hgo
  have hgo : checkIxGo none x = checkIxGo (some x[i]) (x.drop (i + 1)) := hgo
  refine Yi (by kernel_rfl) ?_
  refine Xi ⟨[(3, sl encRl x), (4, vi i)], [], hfree⟩ (Yi ?_ ?_)
  ·exact ⟨⟨Zr, Zr, Tv⟩, Tv, Fh, Tv⟩
  refine Yi (fun h9 => absurd h9 h4) (fun _ => ?_)
  refine Yi (by kernel_rfl) ?_
  refine Xi ⟨[(3, sl encRl x), (4, vi i)], [], hfree⟩ (Yi ?_ ?_)
  ·exact ⟨⟨Zr, Zr, Tv⟩, Tv, Fh, Tv⟩
  refine Yi (by show InI64 ((i : Int) + 1); unfold InI64; omega) ?_
  refine Xi ⟨i + 1, by omega, by rw [hgo, hnext]⟩ ?_
  exact ⟨by show x.length - (i + 1) < x.length - i; omega, ⟨Zr, Zr, Tv⟩, Tv, Fh, Tv⟩
 ·skip
  have h : ¬ (i : Int) < (x.map encRl).length := h
  have h : ¬ i < x.length := by simpa using h
  have e : (0 : Int) = checkIx x := by rw [hck, h2, List.drop_eq_nil_of_le (by omega)]; rfl
  exact .of_eq (congrArg vi e)
end Go.Eng

namespace Go.Eng
open Go.Proofs
theorem c37 (x : List Rl) (ifs : List (List AV)) (roots : List Rq) (hs : ∀ r ∈ x, FewR r) (hq : ∀ q ∈ roots, FewQ q) : PC 37 [ixV x ifs, sl encRq roots] (vb (decide (checkIx x = 0) && decide (checkRqs roots = 0))) := by
 have h1 := c67 x ifs hs
 have h2 := c68 h114 h115 roots hq
 refine pcall_sub (cxp pl0) rfl tab_ok hm rfl Tryz.func37 (by kernel_rfl) rfl (Nz rfl) (by kernel_rfl) ?_
 refine Yi (Nz rfl) ?_
 refine Xi .pure (Xi _ (Yi (h1) ?_))
 refine Yi (fun h => ?_) (fun h => ?_)
 ·have h : checkIx x = 0 := h
  refine Xi .pure (Xi _ (Yi (h2) ?_))
  refine Yi (fun h3 => ?_) (fun h3 => ?_)
  ·have h3 : checkRqs roots = 0 := h3
   exact .of_eq (congrArg vb (show true = _ by rw [decide_eq_true h, decide_eq_true h3]; rfl))
  ·have h3 : ¬ checkRqs roots = 0 := h3
   exact .of_eq (congrArg vb (show false = _ by rw [decide_eq_false h3, Bool.and_false]))
 ·have h : ¬ checkIx x = 0 := h
  exact .of_eq (congrArg vb (show false = _ by rw [decide_eq_false h]; rfl))
theorem c173 (t : Tm) : PC 173 [.agg (encTm t)] (vb (!t.absent && decide (t.set = []))) := by
 refine pcall_sub (cxp pl0) rfl tab_ok hm rfl Tryz.func173 (by kernel_rfl) rfl (Nz rfl) (by kernel_rfl) ?_
 refine Yi (fun h => ?_) (fun h => ?_)
 ·have h : t.absent = true := h
  exact .of_eq (congrArg vb (show false = _ by rw [h]; rfl))
 have h : t.absent = false := h
 refine Yi (fun h2 => ?_) (fun h2 => ?_)
 ·have h2 : ((t.set.map encSpan).length : Int) = 0 := h2
  have h2 : t.set = [] := List.eq_nil_of_length_eq_zero (by rw [Lm] at h2; omega)
  exact .of_eq (congrArg vb (show true = _ by rw [h, decide_eq_true h2]; rfl))
 ·have h2 : ¬ ((t.set.map encSpan).length : Int) = 0 := h2
  have h2 : ¬ t.set = [] := fun e => h2 (by rw [e]; rfl)
  exact .of_eq (congrArg vb (show false = _ by rw [decide_eq_false h2, Bool.and_false]))
theorem c174 (t : Tm) (ht : Few t.set) : PC 174 [.agg (encTm t)] (vb (t.absent && decide (t.set = [(0, 1000000)]))) := by
 have hc := c75 t.set [(0, 1000000)] ht
 refine pcall_sub (cxp pl0) rfl tab_ok hm rfl Tryz.func174 (by kernel_rfl) rfl (Nz rfl) (by kernel_rfl) ?_
 refine Yi (fun h => ?_) (fun h => ?_)
 ·have h : t.absent = true := h
  refine Xi _ (Yi (c200) ?_)
  refine Xi _ (Yi (hc) ?_)
  refine Yi (by kernel_rfl) ?_
  exact .of_eq (congrArg vb (show decide (t.set = [(0, 1000000)]) = _ by rw [h]; rfl))
 ·have h : t.absent = false := h
  refine Yi (by kernel_rfl) ?_
  exact .of_eq (congrArg vb (show false = _ by rw [h]; rfl))
end Go.Eng

namespace Go.Eng
open Go.Proofs
theorem c117 (q : Rq) (hq : Few q.set) : PC 117 [.agg (encRq q)] (.agg (encTm ⟨q.path, true, compl q.set⟩)) := by
 have hc := c120 q.set hq
 refine pcall_sub (cxp pl0) rfl tab_ok hm rfl Tryz.func117 (by kernel_rfl) rfl (Nz rfl) (by kernel_rfl) ?_
 refine Xi _ (Yi (hc) ?_)
 refine Yi (Nz rfl) ?_
 refine Yi (by kernel_rfl) ?_
 refine Yi (Nz rfl) ?_
 exact .refl _
theorem c122 (l : List Tm) (hl : Few l) (p : ByteArray) : PC 122 [sl encTm l, vs p] (match l.find? (fun t => decide (t.path = p)) with | some t => .tup [.agg (encTm t), vb true] | none => .tup [.agg [vs ⟨#[]⟩, vb false, .v (.slice none 0 0)], vb false]) := by
 have hl : l.length ≤ 1073741824 := hl
 obtain ⟨R, hR⟩ : ∃ R, R = (match l.find? (fun t => decide (t.path = p)) with | some t => AV.tup [.agg (encTm t), vb true] | none => .tup [.agg [vs ⟨#[]⟩, vb false, .v (.slice none 0 0)], vb false]) := ⟨_, rfl⟩
 rw [← hR]
 refine pcall_sub (cxp pl0) rfl tab_ok hm rfl Tryz.func122 (by kernel_rfl) rfl (Nz rfl) (by kernel_rfl) ?_
 refine Xi {i : Nat // i ≤ l.length ∧ ∀ j (hj : j < l.length), j < i → l[j].path ≠ p} (Xi (fun i => ⟨[(0, sl encTm l), (1, vs p), (4, .ref 4 0), (6, vi i.1)], [(4, .cells [vs ⟨#[]⟩, vb false, .v (.slice none 0 0)])], hfree⟩) (Xi (fun i => l.length - i.1) (Yi (Xi ⟨0, Nat.zero_le _, fun j _ h => by omega⟩ ?_) ?_)))
 ·exact ⟨⟨Zr, Zr, Zr, Zr, Tv⟩, ⟨Zr, Tv⟩, Fh, Tv⟩
 intro ⟨i, h1, h2⟩
 refine Yi (fun h => ?_) (fun h => ?_)
 ·skip
  have h : (i : Int) < (l.map encTm).length := h
  have h : i < l.length := by simpa using h
  have hg : l[i]? = some l[i] := Ge h
  refine Xi (encTm l[i]) (Yi (Yi (by show (0 : Int) ≤ i; omega) (by simp [hg])) (Yi rfl ?_))
  refine Yi (fun h3 => ?_) (fun h3 => ?_)
  ·have h3 : l[i].path = p := h3
   refine Xi (encTm l[i]) (Yi (Yi (by show (0 : Int) ≤ i; omega) (by simp [hg])) (Yi rfl ?_))
   refine Yi (Nz rfl) (Yi (Nz rfl) ?_)
   have ef : l.find? (fun t => decide (t.path = p)) = some l[i] := by
    rw [List.find?_eq_some_iff_getElem]
    exact ⟨by simpa using h3, i, h, rfl, fun j hj => by simpa using h2 j (by omega) hj⟩
   refine Yi (Nz rfl) ?_
   exact .of_eq (show AV.tup [.agg (encTm l[i]), vb true] = R by rw [hR, ef])
  have h3 : ¬ l[i].path = p := h3
  refine Yi (by show InI64 ((i : Int) + 1); unfold InI64; omega) ?_
  refine Xi ⟨i + 1, by omega, fun j hj hji => ?_⟩ ?_
  ·rcases Nat.lt_or_ge j i with z | z
   ·exact h2 j hj z
   ·have : j = i := by omega
    subst this; exact h3
  exact ⟨by show l.length - (i + 1) < l.length - i; omega, ⟨Zr, Zr, Zr, Zr, Tv⟩, ⟨Zr, Tv⟩, Fh, Tv⟩
 ·skip
  have h : ¬ (i : Int) < (l.map encTm).length := h
  have h : ¬ i < l.length := by simpa using h
  have ef : l.find? (fun t => decide (t.path = p)) = none := by
   rw [List.find?_eq_none]
   intro x hx
   obtain ⟨j, hj, rfl⟩ := List.getElem_of_mem hx
   simpa using h2 j hj (by omega)
  refine Yi (Nz rfl) ?_
  refine Yi (Nz rfl) ?_
  exact .of_eq (show AV.tup [.agg [vs ⟨#[]⟩, vb false, .v (.slice none 0 0)], vb false] = R by rw [hR, ef])
end Go.Eng

namespace Go.Eng
open Go.Proofs
abbrev tokT (d : Nat) (A : List Tm) : AV := .slice (.id d 3) (A.map encTm)
theorem c124 (l : List Tm) (hl : Few l) (p : ByteArray) : PC 124 [sl encTm l, vs p] (sl encTm (l.filter fun t => !decide (t.path = p))) := by
 have hl : l.length ≤ 1073741824 := hl
 refine pcall_sub (cxp (plcut [4])) rfl tab_ok hm rfl Tryz.func124 (by kernel_rfl) rfl (Nz rfl) (by kernel_rfl) ?_
 refine Xi {q : Nat × List Tm // q.1 ≤ l.length ∧ q.2 = (l.take q.1).filter fun t => !decide (t.path = p)} (Xi (fun q => ⟨[(0, sl encTm l), (1, vs p), (5, tokT 7 q.1.2), (6, vi q.1.1)], [(7, .tok 3 q.1.2.length)], hfree⟩) (Xi (fun q => l.length - q.1.1) (Yi (Xi ⟨(0, []), Nat.zero_le _, rfl⟩ ?_) ?_)))
 ·exact ⟨⟨Zr, Zr, Zr, Zr, Tv⟩, ⟨Zr, Tv⟩, Fh, Tv⟩
 intro ⟨⟨i, A⟩, i1, i2⟩
 have i1 : i ≤ l.length := i1
 have i2 : A = (l.take i).filter fun t => !decide (t.path = p) := i2
 have hA : A.length ≤ i := by
  have := List.length_filter_le (fun t : Tm => !decide (t.path = p)) (l.take i)
  rw [List.length_take] at this; rw [i2]; omega
 refine Yi (fun h => ?_) (fun h => ?_)
 ·skip
  have h : (i : Int) < (l.map encTm).length := h
  have h : i < l.length := by simpa using h
  have hg : l[i]? = some l[i] := Ge h
  refine Xi (encTm l[i]) (Yi (Yi (by show (0 : Int) ≤ i; omega) (by simp [hg])) (Yi rfl ?_))
  have etk : (l.take (i + 1)).filter (fun t => !decide (t.path = p)) = A ++ [l[i]].filter (fun t => !decide (t.path = p)) := by rw [List.take_add_one, Ge h, List.filter_append, i2]; rfl
  refine Yi (fun h3 => ?_) (fun h3 => ?_)
  ·have h3 : l[i].path ≠ p := h3
   refine Xi (encTm l[i]) (Yi (Yi (by show (0 : Int) ≤ i; omega) (by simp [hg])) (Yi rfl ?_))
   refine Yi (Nz rfl) ?_
   have bulk : AllLen 3 [encTm l[i]] ∧ (A.map encTm).length = A.length ∧ ((A.map encTm).length + [encTm l[i]].length) * 48 ≤ 140737488355328 ∧ (A.map encTm).length + [encTm l[i]].length ≤ 9223372036854775807 :=
    ⟨⟨rfl, trivial⟩, by rw [Lm], by rw [Lm, List.length_singleton]; omega, by rw [Lm, List.length_singleton]; omega⟩
   refine Yi bulk ?_
   refine Exists.elim (show ∃ B, B = A ++ [l[i]] from ⟨_, rfl⟩) (fun B hB => ?_)
   have e1 : AV.slice (.id 7 3) (A.map encTm ++ [encTm l[i]]) = tokT 7 B := by rw [hB]; simp
   have e2 : HO.tok 3 ((A.map encTm).length + [encTm l[i]].length) = .tok 3 B.length := by rw [hB]; simp
   refine Xi ⟨[(0, sl encTm l), (1, vs p), (5, tokT 7 B), (6, vi i)], [(7, .tok 3 B.length)], hfree⟩ (Yi ?_ ?_)
   ·exact ⟨⟨Zr, Zr, ⟨e1, rfl⟩, Zr, Tv⟩, ⟨⟨e2, rfl⟩, Tv⟩, Fh, Tv⟩
   refine Yi (by show InI64 ((i : Int) + 1); unfold InI64; omega) ?_
   refine Xi ⟨(i + 1, B), by omega, by show B = (l.take (i + 1)).filter _; rw [etk, hB, List.filter_cons, if_pos (by rw [decide_eq_false h3]; rfl)]; rfl⟩ ?_
   exact ⟨by show l.length - (i + 1) < l.length - i; omega, ⟨Zr, Zr, Zr, Zr, Tv⟩, ⟨Zr, Tv⟩, Fh, Tv⟩
  have h3 : ¬ l[i].path ≠ p := h3
  refine Xi ⟨[(0, sl encTm l), (1, vs p), (5, tokT 7 A), (6, vi i)], [(7, .tok 3 A.length)], hfree⟩ (Yi ?_ ?_)
  ·exact ⟨⟨Zr, Zr, Zr, Zr, Tv⟩, ⟨Zr, Tv⟩, Fh, Tv⟩
  refine Yi (by show InI64 ((i : Int) + 1); unfold InI64; omega) ?_
  refine Xi ⟨(i + 1, A), by omega, by show A = (l.take (i + 1)).filter _; rw [etk, List.filter_cons, if_neg (by rw [decide_eq_true (Classical.not_not.1 h3)]; decide)]; simp⟩ ?_
  exact ⟨by show l.length - (i + 1) < l.length - i; omega, ⟨Zr, Zr, Zr, Zr, Tv⟩, ⟨Zr, Tv⟩, Fh, Tv⟩
 ·skip
  have h : ¬ (i : Int) < (l.map encTm).length := h
  have h : ¬ i < l.length := by simpa using h
  exact .of_eq (congrArg (sl encTm) (show A = _ by rw [i2, List.take_of_length_le (by omega)]))
end Go.Eng

namespace Go.Eng
open Go.Proofs
abbrev H121 : Prop := ∀ l : List Tm, Few l → (∀ t ∈ l, Few t.set) → PC 121 [sl encTm l] (canRes l)
theorem c116 (h121 : H121) (l : List Tm) (hl : Few l) (hs : ∀ t ∈ l, Few t.set) : PC 116 [sl encTm l] (sl encTm (ofT l)) := by
 have hc := h121 l hl hs
 refine pcall_sub (cxp pl0) rfl tab_ok hm rfl Tryz.func116 (by kernel_rfl) rfl (Nz rfl) (by kernel_rfl) ?_
 refine Xi .pure (Xi _ (Yi (hc) ?_))
 exact .refl _
theorem compl_fw (s : SpanL) : Few (compl s) := by have := compl_few s; unfold Few; omega
theorem c69 (h121 : H121) (q : Rq) (hq : Few q.set) : PC 69 [.agg (encRq q)] (sl encTm (ofT [⟨q.path, true, compl q.set⟩])) := by
 have h1 := c117 q hq
 have h2 := c116 h121 [⟨q.path, true, compl q.set⟩] (by unfold Few; simp) (fun t ht => by rw [List.mem_singleton.1 ht]; exact compl_fw _)
 refine pcall_sub (cxp pl0) rfl tab_ok hm rfl Tryz.func69 (by kernel_rfl) rfl (Nz rfl) (by kernel_rfl) ?_
 refine Yi (Nz rfl) ?_
 refine Xi .pure (Xi _ (Yi (h1) ?_))
 refine Xi .pure (Xi _ (Yi (h2) ?_))
 exact .refl _
theorem c72 (h121 : H121) (p : ByteArray) (s : SpanL) (hs : Few s) : PC 72 [vs p, sl encSpan s] (sl encTm (ofT [⟨p, false, compl s⟩])) := by
 have h1 := c120 s hs
 have h2 := c116 h121 [⟨p, false, compl s⟩] (by unfold Few; simp) (fun t ht => by rw [List.mem_singleton.1 ht]; exact compl_fw _)
 refine pcall_sub (cxp pl0) rfl tab_ok hm rfl Tryz.func72 (by kernel_rfl) rfl (Nz rfl) (by kernel_rfl) ?_
 refine Xi .pure (Xi _ (Yi (h1) ?_))
 refine Xi .pure (Xi _ (Yi (h2) ?_))
 exact .refl _
end Go.Eng

namespace Go.Eng
open Go.Proofs
theorem canon_fw (s : SpanL) : Few (canon s) := by have := canon_len (canon_canon s); unfold Few; omega
abbrev atPl (n : Int) : SpanL := if n < 0 ∨ 1000000 ≤ n then [] else minus (canon [(n, 1000000)]) (canon [(n + 1, 1000000)])
abbrev pl71 : Pol := ⟨[], [(7, 2)], [], [], [], [], [], [], [], [], []⟩
theorem c71 (h121 : H121) (p : ByteArray) (n : Int) (hn : -4611686018427387904 ≤ n ∧ n ≤ 4611686018427387904) (q : Rq) (hq : Few q.set) : PC 71 [vs p, vi n, .agg (encRq q)] (sl encTm (ofT [⟨p, false, atPl n⟩, ⟨q.path, true, compl q.set⟩])) := by
 have h1 := c119 n
 have h2 := c119 (n + 1)
 have h3 := c118 (canon [(n, 1000000)]) (canon [(n + 1, 1000000)]) (canon_fw _) (canon_fw _)
 have h4 := c117 q hq
 have hmi : Few (minus (canon [(n, 1000000)]) (canon [(n + 1, 1000000)])) := by
  have := canon_len (inter_canon (canon [(n, 1000000)]) (compl (canon [(n + 1, 1000000)])))
  show (inter _ _).length ≤ _; omega
 have hat : Few (atPl n) := by
  unfold atPl
  split
  ·unfold Few; simp
  ·exact hmi
 have h5 := c116 h121 [⟨p, false, atPl n⟩, ⟨q.path, true, compl q.set⟩] (by unfold Few; simp) (fun t ht => by
  rcases List.mem_cons.1 ht with rfl | ht
  ·exact hat
  ·rw [List.mem_singleton.1 ht]; exact compl_fw _)
 obtain ⟨N, hN⟩ : ∃ N, N = ofT [⟨p, false, atPl n⟩, ⟨q.path, true, compl q.set⟩] := ⟨_, rfl⟩
 rw [← hN] at h5 ⊢
 refine pcall_sub (cxp pl71) rfl tab_ok hm rfl Tryz.func71 (by kernel_rfl) rfl (Nz rfl) (by kernel_rfl) ?_
 refine Xi .pure (Xi _ (Yi (h1) ?_))
 refine Yi (show InI64 (n + 1) by unfold InI64; omega) ?_
 refine Xi .pure (Xi _ (Yi (h2) ?_))
 refine Xi .pure (Xi _ (Yi (h3) ?_))
 refine Yi (fun ha => ?_) (fun ha => ?_)
 ·have ha : n < 0 := ha
  have e : atPl n = [] := if_pos (.inl ha)
  rw [e] at h5
  refine Yi (Nz rfl) ?_
  refine Xi .pure (Xi _ (Yi (h4) ?_))
  refine Xi .pure (Xi _ (Yi (h5) ?_))
  exact .refl _
 have ha : ¬ n < 0 := ha
 refine Yi (fun hb => ?_) (fun hb => ?_)
 ·have hb : 1000000 ≤ n := hb
  have e : atPl n = [] := if_pos (.inr hb)
  rw [e] at h5
  refine Yi (Nz rfl) ?_
  refine Xi .pure (Xi _ (Yi (h4) ?_))
  refine Xi .pure (Xi _ (Yi (h5) ?_))
  exact .refl _
 have hb : ¬ 1000000 ≤ n := hb
 have e : atPl n = minus (canon [(n, 1000000)]) (canon [(n + 1, 1000000)]) := if_neg (fun h => h.elim ha hb)
 rw [e] at h5
 refine Yi (Nz rfl) ?_
 refine Xi .pure (Xi _ (Yi (h4) ?_))
 refine Xi .pure (Xi _ (Yi (h5) ?_))
 exact .refl _
end Go.Eng

namespace Go.Eng
open Go.Proofs
def goodR (p : ByteArray) (r : Rl) : Bool := decide (r.path = p) && !r.yanked
def spanR (r : Rl) : Int × Int := (plc r.ver, plc r.ver + 1)
theorem availP_ok {x : List Rl} {p : ByteArray} (h : checkIx x = 0) : availP x p = canon ((x.filter (goodR p)).map spanR) := by
 unfold availP ofPath
 rw [if_neg (not_not_intro h), List.filter_filter]
 congr 3
 funext r
 unfold goodR
 rw [Bool.and_comm]
theorem availP_no {x : List Rl} {p : ByteArray} (h : checkIx x ≠ 0) : availP x p = canon [] := by
 unfold availP ofPath
 rw [if_pos h]; rfl
end Go.Eng

namespace Go.Eng
open Go.Proofs
theorem c73n (x : List Rl) (ifs : List (List AV)) (p : ByteArray) (hs : ∀ r ∈ x, FewR r) (h : checkIx x ≠ 0) : PC 73 [ixV x ifs, vs p] (sl encSpan (availP x p)) := by
 have h1 := c67 x ifs hs
 have h2 := c115 [] (by unfold Few; simp)
 rw [availP_no h]
 refine pcall_sub (cxp (plcut [8])) rfl tab_ok hm rfl Tryz.func73 (by kernel_rfl) rfl (Nz rfl) (by kernel_rfl) ?_
 refine Xi {i : Nat // i = 0} (Xi (fun i => ⟨[(1, vs p), (2, .ref 2 0), (5, tokS 8 []), (6, vi i.1)], [(2, .cells [sl encRl x, .slice .none ifs]), (8, .tok 2 0)], hfree⟩) (Xi (fun i => i.1) (Yi (Xi ⟨0, rfl⟩ ?_) ?_)))
 ·exact ⟨⟨Zr, Zr, Zr, Zr, Tv⟩, ⟨Zr, Zr, Tv⟩, Fh, Tv⟩
 intro ⟨i, hi⟩
 refine Yi (fun h3 => ?_) (fun h3 => ?_)
 ·refine Yi (Nz rfl) ?_
  refine Xi .pure (Xi _ (Yi (h1) ?_))
  refine Yi (fun h4 => absurd h4 h) (fun _ => ?_)
  refine Xi ⟨[(5, tokS 8 [])], [(8, .tok 2 0)], hfree⟩ (Yi ?_ ?_)
  ·exact ⟨⟨Zr, Tv⟩, ⟨Zr, Tv⟩, Fh, Tv⟩
  refine Xi .pure (Xi _ (Yi (h2) ?_))
  exact .refl _
 ·refine Xi ⟨[(5, tokS 8 [])], [(8, .tok 2 0)], hfree⟩ (Yi ?_ ?_)
  ·exact ⟨⟨Zr, Tv⟩, ⟨Zr, Tv⟩, Fh, Tv⟩
  refine Xi .pure (Xi _ (Yi (h2) ?_))
  exact .refl _
end Go.Eng

namespace Go.Eng
open Go.Proofs
theorem c73y (x : List Rl) (ifs : List (List AV)) (p : ByteArray) (hs : ∀ r ∈ x, FewR r) (h0 : checkIx x = 0) : PC 73 [ixV x ifs, vs p] (sl encSpan (availP x p)) := by
 have h1 := c67 x ifs hs
 rw [h0] at h1
 have hx := (ix_few h0).1
 have hv : ∀ r ∈ x, validB r.ver = true := fun r hr => ((checkIx_ok h0).1 r hr).val
 have h2 := c115 ((x.filter (goodR p)).map spanR) (by
  have := List.length_filter_le (goodR p) x
  unfold Few; rw [Lm]; omega)
 rw [availP_ok h0]
 refine pcall_sub (cxp (plcut [4, 6, 8])) rfl tab_ok hm rfl Tryz.func73 (by kernel_rfl) rfl (Nz rfl) (by kernel_rfl) ?_
 refine Xi {q : Nat × SpanL // q.1 ≤ x.length ∧ q.2 = ((x.take q.1).filter (goodR p)).map spanR} (Xi (fun q => ⟨[(1, vs p), (2, .ref 2 0), (5, tokS 8 q.1.2), (6, vi q.1.1)], [(2, .cells [sl encRl x, .slice .none ifs]), (8, .tok 2 q.1.2.length)], hfree⟩) (Xi (fun q => x.length - q.1.1) (Yi (Xi ⟨(0, []), Nat.zero_le _, rfl⟩ ?_) ?_)))
 ·exact ⟨⟨Zr, Zr, Zr, Zr, Tv⟩, ⟨Zr, Zr, Tv⟩, Fh, Tv⟩
 intro ⟨⟨i, A⟩, i1, i2⟩
 have i1 : i ≤ x.length := i1
 have i2 : A = ((x.take i).filter (goodR p)).map spanR := i2
 have hA : A.length ≤ i := by
  have := List.length_filter_le (goodR p) (x.take i)
  rw [List.length_take] at this; rw [i2, Lm]; omega
 refine Yi (fun h => ?_) (fun h => ?_)
 ·skip
  have h : (i : Int) < (x.map encRl).length := h
  have h : i < x.length := by simpa using h
  have hg : x[i]? = some x[i] := Ge h
  have etk : ((x.take (i + 1)).filter (goodR p)).map spanR = A ++ ([x[i]].filter (goodR p)).map spanR := by rw [List.take_add_one, Ge h, List.filter_append, List.map_append, i2]; rfl
  refine Yi (Nz rfl) ?_
  refine Xi .pure (Xi _ (Yi (h1) ?_))
  refine Yi (fun _ => ?_) (fun h9 => absurd rfl h9)
  refine Xi (encRl x[i]) (Yi (Yi (by show (0 : Int) ≤ i; omega) (by simp [hg])) (Yi rfl ?_))
  refine Yi (Nz rfl) (Yi (Nz rfl) ?_)
  refine Xi ⟨[(1, vs p), (2, .ref 2 0), (5, tokS 8 A), (6, vi i), (7, .ref 7 0)], [(2, .cells [sl encRl x, .slice .none ifs]), (7, .cells (encRl x[i])), (8, .tok 2 A.length)], hfree⟩ (Yi ?_ ?_)
  ·exact ⟨⟨Zr, Zr, Zr, Zr, Zr, Tv⟩, ⟨Zr, Zr, Zr, Tv⟩, Fh, Tv⟩
  have hvx := hv x[i] (List.getElem_mem h)
  have hpl : plc x[i].ver = place x[i].ver := if_pos hvx
  have hpr := plc_rng x[i].ver
  have h5 := c95 x[i].ver hvx
  rw [← hpl] at h5
  refine Yi (fun h3 => ?_) (fun h3 => ?_)
  ·have h3 : x[i].path = p := h3
   refine Yi (fun hy => ?_) (fun hy => ?_)
   ·have hy : x[i].yanked = true := hy
    have hgd : goodR p x[i] = false := by unfold goodR; rw [hy]; simp
    refine Xi ⟨[(1, vs p), (2, .ref 2 0), (5, tokS 8 A), (6, vi i)], [(2, .cells [sl encRl x, .slice .none ifs]), (8, .tok 2 A.length)], hfree⟩ (Yi ?_ ?_)
    ·exact ⟨⟨Zr, Zr, Zr, Zr, Tv⟩, ⟨Zr, Zr, Tv⟩, Fh, Tv⟩
    refine Yi (by show InI64 ((i : Int) + 1); unfold InI64; omega) ?_
    refine Xi ⟨(i + 1, A), by omega, by show A = ((x.take (i + 1)).filter (goodR p)).map spanR; rw [etk, List.filter_cons, if_neg (by rw [hgd]; decide)]; simp⟩ ?_
    exact ⟨by show x.length - (i + 1) < x.length - i; omega, ⟨Zr, Zr, Zr, Zr, Tv⟩, ⟨Zr, Zr, Tv⟩, Fh, Tv⟩
   have hy : x[i].yanked = false := hy
   have hgd : goodR p x[i] = true := by unfold goodR; rw [hy, decide_eq_true h3]; rfl
   refine Yi (Nz rfl) ?_
   refine Xi _ (Yi (h5) ?_)
   refine Yi (Nz rfl) ?_
   refine Xi _ (Yi (h5) ?_)
   refine Yi (show InI64 (plc x[i].ver + 1) by unfold InI64; omega) ?_
   have bulk : AllLen 2 [encSpan (spanR x[i])] ∧ (A.map encSpan).length = A.length ∧ ((A.map encSpan).length + [encSpan (spanR x[i])].length) * 16 ≤ 140737488355328 ∧ (A.map encSpan).length + [encSpan (spanR x[i])].length ≤ 9223372036854775807 :=
    ⟨⟨rfl, trivial⟩, by rw [Lm], by rw [Lm, List.length_singleton]; omega, by rw [Lm, List.length_singleton]; omega⟩
   refine Yi bulk ?_
   refine Yi (by kernel_rfl) ?_
   refine Exists.elim (show ∃ B, B = A ++ [spanR x[i]] from ⟨_, rfl⟩) (fun B hB => ?_)
   have e1 : AV.slice (.id 8 2) (A.map encSpan ++ [encSpan (spanR x[i])]) = tokS 8 B := by rw [hB]; simp
   have e2 : HO.tok 2 ((A.map encSpan).length + [encSpan (spanR x[i])].length) = .tok 2 B.length := by rw [hB]; simp
   refine Xi ⟨[(1, vs p), (2, .ref 2 0), (5, tokS 8 B), (6, vi i)], [(2, .cells [sl encRl x, .slice .none ifs]), (8, .tok 2 B.length)], hfree⟩ (Yi ?_ ?_)
   ·exact ⟨⟨Zr, Zr, ⟨e1, rfl⟩, Zr, Tv⟩, ⟨Zr, ⟨e2, rfl⟩, Tv⟩, Fh, Tv⟩
   refine Yi (by show InI64 ((i : Int) + 1); unfold InI64; omega) ?_
   refine Xi ⟨(i + 1, B), by omega, by show B = ((x.take (i + 1)).filter (goodR p)).map spanR; rw [etk, hB, List.filter_cons, if_pos hgd]; rfl⟩ ?_
   exact ⟨by show x.length - (i + 1) < x.length - i; omega, ⟨Zr, Zr, Zr, Zr, Tv⟩, ⟨Zr, Zr, Tv⟩, Fh, Tv⟩
  have h3 : ¬ x[i].path = p := h3
  have hgd : goodR p x[i] = false := by unfold goodR; rw [decide_eq_false h3]; rfl
  refine Xi ⟨[(1, vs p), (2, .ref 2 0), (5, tokS 8 A), (6, vi i)], [(2, .cells [sl encRl x, .slice .none ifs]), (8, .tok 2 A.length)], hfree⟩ (Yi ?_ ?_)
  ·exact ⟨⟨Zr, Zr, Zr, Zr, Tv⟩, ⟨Zr, Zr, Tv⟩, Fh, Tv⟩
  refine Yi (by show InI64 ((i : Int) + 1); unfold InI64; omega) ?_
  refine Xi ⟨(i + 1, A), by omega, by show A = ((x.take (i + 1)).filter (goodR p)).map spanR; rw [etk, List.filter_cons, if_neg (by rw [hgd]; decide)]; simp⟩ ?_
  exact ⟨by show x.length - (i + 1) < x.length - i; omega, ⟨Zr, Zr, Zr, Zr, Tv⟩, ⟨Zr, Zr, Tv⟩, Fh, Tv⟩
 ·skip
  have h : ¬ (i : Int) < (x.map encRl).length := h
  have h : ¬ i < x.length := by simpa using h
  have eA : A = (x.filter (goodR p)).map spanR := by rw [i2, List.take_of_length_le (by omega)]
  rw [← eA] at h2
  rw [← eA]
  refine Xi ⟨[(5, tokS 8 A)], [(8, .tok 2 A.length)], hfree⟩ (Yi ?_ ?_)
  ·exact ⟨⟨Zr, Tv⟩, ⟨Zr, Tv⟩, Fh, Tv⟩
  refine Xi .pure (Xi _ (Yi (h2) ?_))
  exact .refl _
theorem c73 (x : List Rl) (ifs : List (List AV)) (p : ByteArray) (hs : ∀ r ∈ x, FewR r) : PC 73 [ixV x ifs, vs p] (sl encSpan (availP x p)) := by
 by_cases h : checkIx x = 0
 ·exact c73y x ifs p hs h
 ·exact c73n x ifs p hs h
end Go.Eng
