/- Lemmas for the claims of this seat, without a condition: part 16 (C19, C20, C21, C22, C23, C24, C25). -/
import Derived.Test.YtodcmjcogdcmlaaGreatDoorA15
import Derived.Shelf.Slices.Delete
namespace Go.Eng
open Go.Proofs
abbrev plC : Pol := ⟨[], [(12, 2)], [(44, 1)], [], [], [], [], [], [], [], [8, 9, 15, 23, 25, 26]⟩
theorem c139 (F : AV) (keep : Nat → Bool) (l : List SpanL) (hl : Few l) (hs : ∀ s ∈ l, Few s) (hid : ∀ h, idsB h F = true) (hF : ∀ h (n : Int), 0 ≤ n → n ≤ l.length → PCallV Tryz.prog (str h F) [vi n] (vb (keep n.toNat)))
  (R : SpanL) (hR : Canon R) (hRh : ∀ p, has R p = (inPl p && keep (cnt l p))) : PC 139 [F, sl encSet l] (sl encSpan R) := by
 have hl : l.length ≤ 1073741824 := hl
 refine pcall_sub (cxp plC) rfl tab_ok hm rfl Tryz.func139 (by kernel_rfl) rfl (Nz rfl) (by kernel_rfl) ?_
 refine Xi {p : Nat × List (Int × Int) // p.1 ≤ l.length ∧ ChInv p.2 ((l.take p.1).map canon).flatten} (Xi (fun p => ⟨[(0, F), (5, .mref 15), (17, sl encSet l), (18, vi (l.map encSet).length), (19, vi p.1.1)], [(15, .map shI (p.1.2.map kvI))], hfree⟩) (Xi (fun p => l.length - p.1.1) (Yi (Xi ⟨(0, ch0), Nat.zero_le _, ch0_inv⟩ ?_) ?_)))
 ·have e0 : HO.map shI (mput (mput [] (kI 0) (vi 0)) (kI 1000000) (vi 0)) = .map shI (ch0.map kvI) := by
   have e1 := mput_kv [] 0 0
   have e2 := mput_kv [(0, 0)] 1000000 0
   show HO.map shI (mput (mput (List.map kvI []) (kI 0) (vi 0)) (kI 1000000) (vi 0)) = _
   rw [e1]
   show HO.map shI (mput (List.map kvI [(0, 0)]) (kI 1000000) (vi 0)) = _
   rw [e2]; rfl
  exact ⟨⟨⟨rfl, hid _⟩, Zr, Zr, Zr, Zr, Tv⟩, ⟨⟨e0, rfl⟩, Tv⟩, Fh, Tv⟩
 intro ⟨⟨i, cm⟩, i1, i2⟩
 have i1 : i ≤ l.length := i1
 have i2 : ChInv cm ((l.take i).map canon).flatten := i2
 refine Yi ?_ ?_
 ·intro h
  have h : (i : Int) < (l.map encSet).length := h
  have h : i < l.length := by simpa using h
  have hg : l[i]? = some l[i] := Ge h
  refine Xi (encSet l[i]) (Yi (Yi (by show (0 : Int) ≤ i; omega) (by simp [hg])) (Yi rfl ?_))
  refine Xi .pure (Xi _ (Yi (c102 l[i] (hs _ (List.getElem_mem h))) ?_))
  refine Xi {p : Nat × List (Int × Int) // p.1 ≤ (canon l[i]).length ∧ ChInv p.2 (((l.take i).map canon).flatten ++ (canon l[i]).take p.1)} (Xi (fun p => ⟨[(0, F), (5, .mref 15), (17, sl encSet l), (18, vi (l.map encSet).length), (19, vi i), (24, sl encSpan (canon l[i])), (25, vi ((canon l[i]).map encSpan).length), (26, vi p.1.1)], [(15, .map shI (p.1.2.map kvI))], hfree⟩) (Xi (fun p => (canon l[i]).length - p.1.1) (Yi (Xi ⟨(0, cm), Nat.zero_le _, by rw [List.take_zero, List.append_nil]; exact i2⟩ ?_) ?_)))
  ·exact ⟨⟨⟨rfl, hid _⟩, Zr, Zr, Zr, Zr, Zr, Zr, Zr, Tv⟩, ⟨Zr, Tv⟩, Fh, Tv⟩
  intro ⟨⟨j, dm⟩, j1, j2⟩
  have j1 : j ≤ (canon l[i]).length := j1
  have j2 : ChInv dm (((l.take i).map canon).flatten ++ (canon l[i]).take j) := j2
  have hS : (((l.take i).map canon).flatten ++ (canon l[i]).take j).length ≤ 1073741825000000 := by
   have a1 := flat_bound (l.take i)
   have a2 := canon_len (canon_canon l[i])
   rw [List.length_take] at a1
   rw [List.length_append, List.length_take]; omega
  refine Yi ?_ ?_
  ·intro hj
   have hj : (j : Int) < ((canon l[i]).map encSpan).length := hj
   have hj : j < (canon l[i]).length := by simpa using hj
   have hgj : (canon l[i])[j]? = some (canon l[i])[j] := Ge hj
   have hxo := (canon_canon l[i]).low _ (List.getElem_mem hj)
   have j3 : ChInv (stepM dm (canon l[i])[j]) (((l.take i).map canon).flatten ++ (canon l[i]).take (j + 1)) := by
    have := stepM_inv j2 (x := (canon l[i])[j]) hxo
    rw [List.append_assoc] at this
    rw [List.take_add_one, hgj]; exact this
   generalize (canon l[i])[j] = x at hgj hxo j3
   have b1 := j2.bound x.1
   have hn1 := keysM_nodup j2.nd x.1 (valM dm x.1 + 1)
   refine Xi (encSpan x) (Yi (Yi (by show (0 : Int) ≤ j; omega) (by simp [hgj])) (Yi rfl ?_))
   refine Yi (Nz rfl) (Yi (Nz rfl) ?_)
   refine Xi ⟨[(0, F), (5, .mref 15), (9, .ref 9 0), (17, sl encSet l), (18, vi (l.map encSet).length), (19, vi i), (24, sl encSpan (canon l[i])), (25, vi ((canon l[i]).map encSpan).length), (26, vi j)], [(9, .cells (encSpan x)), (15, .map shI (dm.map kvI))], hfree⟩ (Yi ?_ ?_)
   ·exact ⟨⟨⟨rfl, hid _⟩, Zr, Zr, Zr, Zr, Zr, Zr, Zr, Zr, Tv⟩, ⟨Zr, Zr, Tv⟩, Fh, Tv⟩
   refine found_eq (vi (valM dm x.1)) (vi 0) (valM_look j2.nd x.1) (valM_zero dm x.1) (fun q => q) ?_
   refine Yi (by show InI64 (valM dm x.1 + 1); unfold InI64; omega) ?_
   have m1 : HO.map shI (mput (dm.map kvI) (kI x.1) (vi (valM dm x.1 + 1))) = .map shI ((putM dm x.1 (valM dm x.1 + 1)).map kvI) := by rw [mput_kv]
   refine Xi ⟨[(0, F), (5, .mref 15), (9, .ref 9 0), (17, sl encSet l), (18, vi (l.map encSet).length), (19, vi i), (24, sl encSpan (canon l[i])), (25, vi ((canon l[i]).map encSpan).length), (26, vi j)], [(9, .cells (encSpan x)), (15, .map shI ((putM dm x.1 (valM dm x.1 + 1)).map kvI))], hfree⟩ (Yi ?_ ?_)
   ·exact ⟨⟨⟨rfl, hid _⟩, Zr, Zr, Zr, Zr, Zr, Zr, Zr, Zr, Tv⟩, ⟨Zr, ⟨m1, rfl⟩, Tv⟩, Fh, Tv⟩
   have b2 : -(1073741825000001 : Int) ≤ valM (putM dm x.1 (valM dm x.1 + 1)) x.2 ∧ valM (putM dm x.1 (valM dm x.1 + 1)) x.2 ≤ 1073741825000001 := by
    have b3 := j2.bound x.2
    rw [valM_put]
    split <;> omega
   refine found_eq (vi (valM (putM dm x.1 (valM dm x.1 + 1)) x.2)) (vi 0) (valM_look hn1 x.2) (valM_zero _ x.2) (fun q => q) ?_
   refine Yi (by show InI64 (valM (putM dm x.1 (valM dm x.1 + 1)) x.2 - 1); unfold InI64; omega) ?_
   have hcl := canon_len (canon_canon l[i])
   refine Yi (by show InI64 ((j : Int) + 1); unfold InI64; omega) ?_
   have m2 : HO.map shI (mput ((putM dm x.1 (valM dm x.1 + 1)).map kvI) (kI x.2) (vi (valM (putM dm x.1 (valM dm x.1 + 1)) x.2 - 1))) = .map shI ((stepM dm x).map kvI) := by rw [mput_kv]; rfl
   refine Xi ⟨(j + 1, stepM dm x), by show j + 1 ≤ _; omega, j3⟩ ?_
   exact ⟨by show (canon l[i]).length - (j + 1) < (canon l[i]).length - j; omega, ⟨⟨rfl, hid _⟩, Zr, Zr, Zr, Zr, Zr, Zr, Zr, Tv⟩, ⟨⟨m2, rfl⟩, Tv⟩, Fh, Tv⟩
  ·intro hj
   have hj : ¬ (j : Int) < ((canon l[i]).map encSpan).length := hj
   have hj : ¬ j < (canon l[i]).length := by simpa using hj
   refine Yi (by show InI64 ((i : Int) + 1); unfold InI64; omega) ?_
   have i3 : ChInv dm ((l.take (i + 1)).map canon).flatten := by
    have e1 : (canon l[i]).take j = canon l[i] := List.take_of_length_le (by omega)
    rw [e1] at j2
    have e2 : ((l.take (i + 1)).map canon).flatten = ((l.take i).map canon).flatten ++ canon l[i] := by
     rw [List.take_add_one, hg, List.map_append, List.flatten_append]
     show _ ++ (canon l[i] ++ []) = _
     rw [List.append_nil]
    rw [e2]; exact j2
   refine Xi ⟨(i + 1, dm), by show i + 1 ≤ _; omega, i3⟩ ?_
   exact ⟨by show l.length - (i + 1) < l.length - i; omega, ⟨⟨rfl, hid _⟩, Zr, Zr, Zr, Zr, Tv⟩, ⟨Zr, Tv⟩, Fh, Tv⟩
 ·intro h
  have h : ¬ (i : Int) < (l.map encSet).length := h
  have h : ¬ i < l.length := by simpa using h
  have i3 : ChInv cm (l.map canon).flatten := by
   rw [List.take_of_length_le (by omega)] at i2; exact i2
  have hfew := i3.few
  have hmk : (0 : Int) ≤ 0 ∧ (0 : Int) ≤ ((cm.map kvI).length : Int) ∧ ((cm.map kvI).length : Int) * ((8 : Nat) : Int) ≤ 140737488355328 ∧ ((cm.map kvI).length : Int) ≤ 9223372036854775807 := by rw [Lm]; omega
  refine Yi hmk ?_
  refine Xi {p : List (Value × AV) × List Int × Option (Value × AV) // ((p.2.1.map kI) ++ p.1.map (·.1)).Perm ((cm.map kvI).map (·.1)) ∧ ∀ kv ∈ p.1, kv ∈ cm.map kvI} (Xi (fun p => ⟨[(0, F), (5, .mref 15), (10, .msl 44 p.1.2.1.length), (46, .ref 46 0)], [(15, .rom shI (cm.map kvI)), (44, .arr 1 (p.1.2.1.map encI)), (46, .iter (cm.map kvI) p.1.1 p.1.2.2)], hfree⟩) (Xi (fun p => p.1.1.length) (Yi (Xi ⟨(cm.map kvI, [], none), .refl _, fun _ h => h⟩ ?_) ?_)))
  ·exact ⟨⟨⟨rfl, hid _⟩, Zr, Zr, Zr, Tv⟩, ⟨Zr, Zr, Zr, Tv⟩, Fh, Tv⟩
  intro ⟨⟨rem, bs, cur⟩, r1, r2⟩
  have r1 : ((bs.map kI) ++ rem.map (·.1)).Perm ((cm.map kvI).map (·.1)) := r1
  have r2 : ∀ kv ∈ rem, kv ∈ cm.map kvI := r2
  have hbl : bs.length ≤ 1000001 := by
   have := r1.length_eq
   simp only [List.length_append, Lm] at this; omega
  refine Yi ?_ ?_
  ·intro hr
   have hr : rem = [] := hr
   subst hr
   rw [List.map_nil, List.append_nil, List.map_map] at r1
   have hpk : bs.Perm (keysM cm) := by
    have r1 : (bs.map kI).Perm ((keysM cm).map kI) := by unfold keysM; rw [List.map_map]; exact r1
    have := r1.map (fun v : Value => match v with | .int _ n => n | _ => 0)
    rw [List.map_map, List.map_map] at this
    have e : ((fun v : Value => match v with | .int _ n => n | _ => 0) ∘ kI) = id := rfl
    rw [e, List.map_id, List.map_id] at this
    exact this
   have hne : bs ≠ [] := fun e => by
    subst e
    have := hpk.length_eq
    have h0 := i3.keys.1
    rw [List.eq_nil_of_length_eq_zero this.symm] at h0; cases h0
   refine Xi (.gen [(44, 1000)] 0) (Yi rfl ((c179 bs (by unfold Few; omega) hne).to ?_))
   intro B hBs
   have hBl : B.length = bs.length := hBs.1.length_eq
   have hBn : B.Nodup := (hBs.1.trans hpk).nodup_iff.2 i3.nd
   have hB : BInv B cm := ⟨hBs.1.trans hpk, by
    rw [List.pairwise_iff_getElem]
    intro a b ha hb hab
    have h1 := (List.pairwise_iff_getElem.1 hBs.2) a b ha hb hab
    have h2 : B[a] ≠ B[b] := (List.pairwise_iff_getElem.1 hBn) a b ha hb hab
    omega⟩
   have hBpos : 0 < B.length := by
    rw [hBl]; exact List.length_pos_iff.2 hne
   have hNE : bs.length = (B.map encI).length := by rw [Lm, hBl]
   refine Yi (by show InI64 ((bs.length : Int) - 1); unfold InI64; omega) ?_
   refine Xi {k : Nat // k ≤ B.length - 1} (Xi (fun k => ⟨[(0, F), (5, .mref 15), (10, .msl 44 bs.length), (12, .slice (.id 12 2) ((keptB keep cm B k.1).map encSpan)), (13, vi (sumM cm (B.take k.1))), (59, vi ((bs.length : Int) - 1)), (60, vi k.1)], [(12, .tok 2 ((keptB keep cm B k.1).map encSpan).length), (15, .rom shI (cm.map kvI)), (44, .arr 1 (B.map encI))], hfree⟩) (Xi (fun k => B.length - k.1) (Yi (Xi ⟨0, Nat.zero_le _⟩ ?_) ?_)))
   ·exact ⟨⟨⟨rfl, hid _⟩, Zr, Zr, Zr, Zr, Zr, Zr, Tv⟩, ⟨Zr, Zr, Zr, Tv⟩, Fh, Tv⟩
   intro ⟨k, k1⟩
   have hkl := keptB_len keep cm B k
   refine Yi ?_ ?_
   ·intro hk
    have hk : (k : Int) < (bs.length : Int) - 1 := hk
    have hk2 : k + 1 < B.length := by omega
    have hk3 : k < B.length := by omega
    have hat : (B.map encI)[k]? = some (encI B[k]) := map_at (Ge hk3)
    have hat2 : (B.map encI)[k + 1]? = some (encI B[k + 1]) := map_at (Ge hk2)
    have hsum := sumM_take cm B k hk3
    have hrng := sumM_rng i3 hB k hk3
    have hkept : keptB keep cm B (k + 1) = keptB keep cm B k ++ (if keep (sumM cm (B.take (k + 1))).toNat then [(B[k], B[k + 1])] else []) := by
     show _ ++ (match B[k]?, B[k + 1]? with | some a, some b => if keep (sumM cm (B.take (k + 1))).toNat then [(a, b)] else [] | _, _ => []) = _
     rw [Ge hk3, Ge hk2]
    refine Xi ⟨[(0, F), (5, .mref 15), (10, .msl 44 bs.length), (12, .slice (.id 12 2) ((keptB keep cm B k).map encSpan)), (13, vi (sumM cm (B.take k))), (14, vi k), (59, vi ((bs.length : Int) - 1)), (60, vi k)], [(12, .tok 2 ((keptB keep cm B k).map encSpan).length), (15, .rom shI (cm.map kvI)), (44, .arr 1 (B.map encI))], hfree⟩ (Yi ?_ ?_)
    ·exact ⟨⟨⟨rfl, hid _⟩, Zr, Zr, Zr, Zr, Zr, Zr, Zr, Tv⟩, ⟨Zr, Zr, Zr, Tv⟩, Fh, Tv⟩
    refine Yi ⟨by show (0 : Int) ≤ k; omega, by show (k : Int) < bs.length; omega⟩ ?_
    refine Yi hNE (Xi (encI B[k]) (Yi hat ?_))
    refine found_eq (vi (valM cm B[k])) (vi 0) (valM_look i3.nd B[k]) (valM_zero cm B[k]) (fun q => q) ?_
    refine Yi (by show InI64 (sumM cm (B.take k) + valM cm B[k]); rw [← hsum]; unfold InI64; omega) ?_
    have hcall : ∀ h, PCallV Tryz.prog (str h F) [vi (sumM cm (B.take k) + valM cm B[k])] (vb (keep (sumM cm (B.take (k + 1))).toNat)) := fun h => by
     rw [← hsum]; exact hF h _ hrng.1 hrng.2
    refine Or.elim (Bool.eq_false_or_eq_true (keep (sumM cm (B.take (k + 1))).toNat)) (fun hp => ?_) (fun hp => ?_)
    ·rw [hp] at hcall
     rw [hp, if_pos rfl] at hkept
     refine Xi .pure (Xi (vb true) (Yi (hcall _) ?_))
     refine Xi ⟨[(0, F), (5, .mref 15), (10, .msl 44 bs.length), (12, .slice (.id 12 2) ((keptB keep cm B k).map encSpan)), (13, vi (sumM cm (B.take k) + valM cm B[k])), (14, vi k), (59, vi ((bs.length : Int) - 1)), (60, vi k)], [(12, .tok 2 ((keptB keep cm B k).map encSpan).length), (15, .rom shI (cm.map kvI)), (44, .arr 1 (B.map encI))], hfree⟩ (Yi ?_ ?_)
     ·exact ⟨⟨⟨rfl, hid _⟩, Zr, Zr, Zr, Zr, Zr, Zr, Zr, Tv⟩, ⟨Zr, Zr, Zr, Tv⟩, Fh, Tv⟩
     have b1 : (0 : Int) ≤ (k : Int) + 1 ∧ (k : Int) + 1 < bs.length := by omega
     have hat3 : (B.map encI)[((k : Int) + 1).toNat]? = some (encI B[k + 1]) := by rw [show ((k : Int) + 1).toNat = k + 1 by omega]; exact hat2
     refine Yi ⟨by show (0 : Int) ≤ k; omega, by show (k : Int) < bs.length; omega⟩ ?_
     refine Yi hNE (Xi (encI B[k]) (Yi hat ?_))
     refine Yi (by show InI64 ((k : Int) + 1); unfold InI64; omega) ?_
     refine Yi b1 ?_
     refine Yi hNE (Xi (encI B[k + 1]) (Yi hat3 ?_))
     have bulk : AllLen 2 [[vi B[k], vi B[k + 1]]] ∧ ((keptB keep cm B k).map encSpan).length = ((keptB keep cm B k).map encSpan).length ∧ (((keptB keep cm B k).map encSpan).length + [[vi B[k], vi B[k + 1]]].length) * 16 ≤ 140737488355328 ∧ ((keptB keep cm B k).map encSpan).length + [[vi B[k], vi B[k + 1]]].length ≤ 9223372036854775807 :=
      ⟨⟨rfl, trivial⟩, rfl, by rw [Lm, List.length_singleton]; omega, by rw [Lm, List.length_singleton]; omega⟩
     refine Yi bulk ?_
     refine Yi (by kernel_rfl) ?_
     refine Xi ⟨[(0, F), (5, .mref 15), (10, .msl 44 bs.length), (12, .slice (.id 12 2) ((keptB keep cm B k).map encSpan ++ [[vi B[k], vi B[k + 1]]])), (13, vi (sumM cm (B.take k) + valM cm B[k])), (59, vi ((bs.length : Int) - 1)), (60, vi k)], [(12, .tok 2 (((keptB keep cm B k).map encSpan).length + [[vi B[k], vi B[k + 1]]].length)), (15, .rom shI (cm.map kvI)), (44, .arr 1 (B.map encI))], hfree⟩ (Yi ?_ ?_)
     ·exact ⟨⟨⟨rfl, hid _⟩, Zr, Zr, Zr, Zr, Zr, Zr, Tv⟩, ⟨Zr, Zr, Zr, Tv⟩, Fh, Tv⟩
     refine Yi (by show InI64 ((k : Int) + 1); unfold InI64; omega) ?_
     refine Xi ⟨k + 1, by omega⟩ ?_
     have e1 : AV.slice (.id 12 2) ((keptB keep cm B k).map encSpan ++ [[vi B[k], vi B[k + 1]]]) = .slice (.id 12 2) ((keptB keep cm B (k + 1)).map encSpan) := by rw [hkept, List.map_append]; rfl
     have e2 : vi (sumM cm (B.take k) + valM cm B[k]) = vi (sumM cm (B.take (k + 1))) := by rw [hsum]
     have e3 : HO.tok 2 (((keptB keep cm B k).map encSpan).length + [[vi B[k], vi B[k + 1]]].length) = .tok 2 ((keptB keep cm B (k + 1)).map encSpan).length := by rw [hkept, List.map_append, List.length_append]; rfl
     exact ⟨by show B.length - (k + 1) < B.length - k; omega, ⟨⟨rfl, hid _⟩, Zr, Zr, ⟨e1, rfl⟩, ⟨e2, rfl⟩, Zr, Zr, Tv⟩, ⟨⟨e3, rfl⟩, Zr, Zr, Tv⟩, Fh, Tv⟩
    ·rw [hp] at hcall
     have hkept : keptB keep cm B (k + 1) = keptB keep cm B k := by rw [hkept, hp, if_neg Bool.false_ne_true, List.append_nil]
     refine Xi .pure (Xi (vb false) (Yi (hcall _) ?_))
     refine Xi ⟨[(0, F), (5, .mref 15), (10, .msl 44 bs.length), (12, .slice (.id 12 2) ((keptB keep cm B k).map encSpan)), (13, vi (sumM cm (B.take k) + valM cm B[k])), (59, vi ((bs.length : Int) - 1)), (60, vi k)], [(12, .tok 2 ((keptB keep cm B k).map encSpan).length), (15, .rom shI (cm.map kvI)), (44, .arr 1 (B.map encI))], hfree⟩ (Yi ?_ ?_)
     ·exact ⟨⟨⟨rfl, hid _⟩, Zr, Zr, Zr, Zr, Zr, Zr, Tv⟩, ⟨Zr, Zr, Zr, Tv⟩, Fh, Tv⟩
     refine Yi (by show InI64 ((k : Int) + 1); unfold InI64; omega) ?_
     refine Xi ⟨k + 1, by omega⟩ ?_
     have e1 : AV.slice (.id 12 2) ((keptB keep cm B k).map encSpan) = .slice (.id 12 2) ((keptB keep cm B (k + 1)).map encSpan) := by rw [hkept]
     have e2 : vi (sumM cm (B.take k) + valM cm B[k]) = vi (sumM cm (B.take (k + 1))) := by rw [hsum]
     have e3 : HO.tok 2 ((keptB keep cm B k).map encSpan).length = .tok 2 ((keptB keep cm B (k + 1)).map encSpan).length := by rw [hkept]
     exact ⟨by show B.length - (k + 1) < B.length - k; omega, ⟨⟨rfl, hid _⟩, Zr, Zr, ⟨e1, rfl⟩, ⟨e2, rfl⟩, Zr, Zr, Tv⟩, ⟨⟨e3, rfl⟩, Zr, Zr, Tv⟩, Fh, Tv⟩
   ·intro hk
    have hk : ¬ (k : Int) < (bs.length : Int) - 1 := hk
    have hk2 : k = B.length - 1 := by omega
    have hcan : canon (keptB keep cm B k) = R := by
     refine (canon_eq hR fun p => ?_).symm
     rw [hk2, hRh, kept_has i3 hB]
    have hc := c102 (keptB keep cm B k) (by unfold Few; omega)
    rw [hcan] at hc
    refine Xi .pure (Xi _ (Yi hc ?_))
    exact .refl _
  ·intro kv rem' hp
   refine Exists.elim (List.mem_map.1 (r2 kv (hp.mem_iff.2 (List.mem_cons_self ..)))) (fun q hq => ?_)
   have hq2 := hq.2
   subst hq2
   refine Xi ⟨[(0, F), (5, .mref 15), (10, .msl 44 bs.length), (46, .ref 46 0)], [(15, .rom shI (cm.map kvI)), (44, .arr 1 (bs.map encI)), (46, .iter (cm.map kvI) rem' (some (kvI q)))], hfree⟩ (Yi ?_ ?_)
   ·exact ⟨⟨⟨rfl, hid _⟩, Zr, Zr, Zr, Tv⟩, ⟨Zr, Zr, Zr, Tv⟩, Fh, Tv⟩
   have bulk : AllLen 1 [encI q.1] ∧ (bs.map encI).length = bs.length ∧ ((bs.map encI).length + [encI q.1].length) * 8 ≤ 140737488355328 ∧ (bs.map encI).length + [encI q.1].length ≤ 9223372036854775807 :=
    ⟨⟨rfl, trivial⟩, by rw [Lm], by rw [Lm, List.length_singleton]; omega, by rw [Lm, List.length_singleton]; omega⟩
   refine Yi bulk ?_
   have e1 : AV.msl 44 ((bs.map encI).length + [encI q.1].length) = .msl 44 (bs ++ [q.1]).length := by simp
   have e2 : HO.arr 1 (bs.map encI ++ [encI q.1]) = .arr 1 ((bs ++ [q.1]).map encI) := by simp
   refine Xi ⟨(rem', bs ++ [q.1], some (kvI q)), ?_, fun kv hkv => r2 kv (hp.mem_iff.2 (List.mem_cons_of_mem _ hkv))⟩ ?_
   ·show (((bs ++ [q.1]).map kI) ++ rem'.map (·.1)).Perm _
    have h1 := hp.map (fun x : Value × AV => x.1)
    rw [List.map_cons] at h1
    rw [List.map_append, List.append_assoc]
    exact (List.Perm.append_left _ h1.symm).trans r1
   ·exact ⟨by show rem'.length < rem.length; rw [hp.length_eq]; simp, ⟨⟨rfl, hid _⟩, Zr, ⟨e1, rfl⟩, Zr, Tv⟩, ⟨Zr, ⟨e2, rfl⟩, Zr, Tv⟩, Fh, Tv⟩
end Go.Eng

namespace Go.Eng
open Go.Proofs
theorem c140 (n : Int) (l : List SpanL) : PC 140 [vi n, .cptr [sl encSet l]] (vb (decide (n = l.length))) := by
 refine pcall_sub (cxp pl0) rfl tab_ok hm rfl Tryz.func140 (by kernel_rfl) rfl (Nz rfl) (by kernel_rfl) ?_
 have e : ((l.map encSet).length : Int) = l.length := by rw [Lm]
 refine Yi ?_ ?_
 ·intro h
  have h : n = ((l.map encSet).length : Int) := h
  rw [show decide (n = (l.length : Int)) = true from decide_eq_true (h.trans e)]
  exact .refl _
 ·intro h
  have h : ¬ n = ((l.map encSet).length : Int) := h
  rw [show decide (n = (l.length : Int)) = false from decide_eq_false (fun c => h (c.trans e.symm))]
  exact .refl _
theorem c143 (n : Int) : PC 143 [vi n] (vb (decide (n = 0))) := by
 refine pcall_sub (cxp pl0) rfl tab_ok hm rfl Tryz.func143 (by kernel_rfl) rfl (Nz rfl) (by kernel_rfl) ?_
 refine Yi ?_ ?_
 ·intro h
  have h : n = 0 := h
  rw [decide_eq_true h]; exact .refl _
 ·intro h
  have h : ¬ n = 0 := h
  rw [decide_eq_false h]; exact .refl _
theorem c263 (n : Int) : PC 263 [vi n] (vb (decide (0 < n))) := by
 refine pcall_sub (cxp pl0) rfl tab_ok hm rfl Tryz.func263 (by kernel_rfl) rfl (Nz rfl) (by kernel_rfl) ?_
 refine Yi ?_ ?_
 ·intro h
  have h : 0 < n := h
  rw [decide_eq_true h]; exact .refl _
 ·intro h
  have h : ¬ 0 < n := h
  rw [decide_eq_false h]; exact .refl _
theorem keep_all (l : List SpanL) (p : Int) : decide (cnt l p = l.length) = l.all fun s => has s p := by
 unfold cnt
 rw [Bool.eq_iff_iff, decide_eq_true_eq, List.countP_eq_length, List.all_eq_true]
theorem keep_any (l : List SpanL) (p : Int) : decide (0 < cnt l p) = l.any fun s => has s p := by
 unfold cnt
 rw [Bool.eq_iff_iff, decide_eq_true_eq, List.countP_pos_iff, List.any_eq_true]
theorem c101 (l : List SpanL) (hl : Few l) (hs : ∀ s ∈ l, Few s) : PC 101 [sl encSet l] (sl encSpan (interL l)) := by
 have hc := c139 (.clo 140 [.cptr [sl encSet l]]) (fun n => decide (n = l.length)) l hl hs (fun _ => rfl) (fun h n h0 _ => by
  have := c140 n l
  have e : decide (n = (l.length : Int)) = decide (n.toNat = l.length) := by rw [decide_eq_decide]; omega
  rw [e] at this; exact this) (interL l) (interL_canon l) fun p => by rw [has_interL, keep_all]
 refine pcall_sub (cxp (plz [1])) rfl tab_ok hm rfl Tryz.func101 (by kernel_rfl) rfl (Nz rfl) (by kernel_rfl) ?_
 refine Xi .pure (Xi _ (Yi (hc) ?_))
 exact .refl _
theorem c103 (s : SpanL) (hs : Few s) : PC 103 [sl encSpan s] (sl encSpan (compl s)) := by
 have hc := c139 (.v (fnV 143)) (fun n => decide (n = 0)) [s] (by unfold Few; simp) (fun t ht => by rw [List.mem_singleton.1 ht]; exact hs) (fun _ => rfl) (fun h n h0 _ => by
  have := c143 n
  have e : decide (n = 0) = decide (n.toNat = 0) := by rw [decide_eq_decide]; omega
  rw [e] at this; exact this) (compl s) (compl_canon s) fun p => by
   rw [has_compl]
   have : cnt [s] p = if has s p then 1 else 0 := by unfold cnt; rw [List.countP_cons]; simp
   rw [this]
   cases has s p <;> rfl
 refine pcall_sub (cxp pl0) rfl tab_ok hm rfl Tryz.func103 (by kernel_rfl) rfl (Nz rfl) (by kernel_rfl) ?_
 refine Xi .pure (Xi _ (Yi (hc) ?_))
 exact .refl _
theorem c249 (l : List SpanL) (hl : Few l) (hs : ∀ s ∈ l, Few s) : PC 249 [sl encSet l] (sl encSpan (unionL l)) := by
 have hc := c139 (.v (fnV 263)) (fun n => decide (0 < n)) l hl hs (fun _ => rfl) (fun h n h0 _ => by
  have := c263 n
  have e : decide (0 < n) = decide (0 < n.toNat) := by rw [decide_eq_decide]; omega
  rw [e] at this; exact this) (unionL l) (unionL_canon l) fun p => by
   rw [has_unionL, keep_any]
   cases h : l.any fun s => has s p with
   | false => simp
   | true =>
    obtain ⟨s, _, h2⟩ := List.any_eq_true.1 h
    have := has_in h2
    simp [inPl, this]
 refine pcall_sub (cxp pl0) rfl tab_ok hm rfl Tryz.func249 (by kernel_rfl) rfl (Nz rfl) (by kernel_rfl) ?_
 refine Xi .pure (Xi _ (Yi (hc) ?_))
 exact .refl _
-- terms
theorem c59 (t : Tm) (ht : Few t.set) : PC 59 [.agg (encTm t)] (vb (!t.absent && (canon t.set).isEmpty)) := by
 refine pcall_sub (cxp pl0) rfl tab_ok hm rfl Tryz.func59 (by kernel_rfl) rfl (Nz rfl) (by kernel_rfl) ?_
 refine Yi ?_ ?_
 ·intro h
  have h : t.absent = true := h
  rw [h]; exact .refl _
 ·intro h
  have h : t.absent = false := h
  refine Xi .pure (Xi _ (Yi (c102 t.set ht) ?_))
  refine Yi ?_ ?_
  ·intro h2
   have h2 : (((canon t.set).map encSpan).length : Int) = 0 := h2
   have h2 : canon t.set = [] := List.eq_nil_of_length_eq_zero (by rw [Lm] at h2; omega)
   rw [h, h2]; exact .refl _
  ·intro h2
   have h2 : ¬ (((canon t.set).map encSpan).length : Int) = 0 := h2
   have h2 : (canon t.set).isEmpty = false := by
    cases hc : canon t.set with
    | nil => rw [hc] at h2; exact absurd rfl h2
    | cons _ _ => rfl
   rw [h, h2]; exact .refl _
theorem c60 (t : Tm) (ht : Few t.set) : PC 60 [.agg (encTm t)] (vb (t.absent && (compl t.set).isEmpty)) := by
 refine pcall_sub (cxp pl0) rfl tab_ok hm rfl Tryz.func60 (by kernel_rfl) rfl (Nz rfl) (by kernel_rfl) ?_
 refine Yi ?_ ?_
 ·intro h
  have h : t.absent = true := h
  refine Xi .pure (Xi _ (Yi (c103 t.set ht) ?_))
  refine Yi ?_ ?_
  ·intro h2
   have h2 : (((compl t.set).map encSpan).length : Int) = 0 := h2
   have h2 : compl t.set = [] := List.eq_nil_of_length_eq_zero (by rw [Lm] at h2; omega)
   rw [h, h2]; exact .refl _
  ·intro h2
   have h2 : ¬ (((compl t.set).map encSpan).length : Int) = 0 := h2
   have h2 : (compl t.set).isEmpty = false := by
    cases hc : compl t.set with
    | nil => rw [hc] at h2; exact absurd rfl h2
    | cons _ _ => rfl
   rw [h, h2]; exact .refl _
 ·intro h
  have h : t.absent = false := h
  rw [h]; exact .refl _
end Go.Eng

namespace Go.Eng
open Go.Proofs
abbrev plcut (l : List Nat) : Pol := ⟨[], [], [], [], [], [], [], [], [], [], l⟩
theorem c58 (u t : Tm) (hu : Few u.set) (ht : Few t.set) : PC 58 [.agg (encTm u), .agg (encTm t)] (.agg (encTm (bothT u t))) := by
 have hc : PC 101 [sl encSet [u.set, t.set]] (sl encSpan (inter u.set t.set)) := c101 [u.set, t.set] (by unfold Few; simp) (fun s hs => by
  rcases List.mem_cons.1 hs with rfl | hs
  ·exact hu
  ·rw [List.mem_singleton.1 hs]; exact ht)
 refine pcall_sub (cxp (plcut [1])) rfl tab_ok hm rfl Tryz.func58 (by kernel_rfl) rfl (Nz rfl) (by kernel_rfl) ?_
 refine Xi ⟨[(2, .ref 2 0), (3, .ref 3 0), (4, .ref 4 0)], [(2, .cells (encTm u)), (3, .cells (encTm t)), (4, .cells [vs ⟨#[]⟩, vb false, .v (.slice none 0 0)])], hfree⟩ (Yi ?_ ?_)
 ·exact ⟨⟨Zr, Zr, Zr, Tv⟩, ⟨Zr, Zr, Zr, Tv⟩, Fh, Tv⟩
 refine Yi ?_ ?_
 ·intro h
  have h : u.absent = true := h
  refine Yi ?_ ?_
  ·intro h2
   have h2 : t.absent = true := h2
   have e : [vs u.path, vb true, sl encSpan (inter u.set t.set)] = encTm (bothT u t) := by unfold bothT; rw [h, h2]; rfl
   refine Xi _ (Yi (hc) ?_)
   refine Yi (Nz rfl) (Yi (by kernel_rfl) (Yi (Nz rfl) ?_))
   exact .of_eq (congrArg AV.agg e)
  ·intro h2
   have h2 : t.absent = false := h2
   have e : [vs u.path, vb false, sl encSpan (inter u.set t.set)] = encTm (bothT u t) := by unfold bothT; rw [h, h2]; rfl
   refine Xi _ (Yi (hc) ?_)
   refine Yi (Nz rfl) (Yi (by kernel_rfl) (Yi (Nz rfl) ?_))
   exact .of_eq (congrArg AV.agg e)
 ·intro h
  have h : u.absent = false := h
  have e : [vs u.path, vb false, sl encSpan (inter u.set t.set)] = encTm (bothT u t) := by unfold bothT; rw [h]; rfl
  refine Xi _ (Yi (hc) ?_)
  refine Yi (Nz rfl) (Yi (by kernel_rfl) (Yi (Nz rfl) ?_))
  exact .of_eq (congrArg AV.agg e)
theorem c225 (u t : Tm) (hu : Few u.set) (ht : Few t.set) : PC 225 [.agg (encTm u), .agg (encTm t)] (.agg (encTm (eitherT u t))) := by
 have hc : PC 249 [sl encSet [u.set, t.set]] (sl encSpan (union u.set t.set)) := c249 [u.set, t.set] (by unfold Few; simp) (fun s hs => by
  rcases List.mem_cons.1 hs with rfl | hs
  ·exact hu
  ·rw [List.mem_singleton.1 hs]; exact ht)
 refine pcall_sub (cxp (plcut [1])) rfl tab_ok hm rfl Tryz.func225 (by kernel_rfl) rfl (Nz rfl) (by kernel_rfl) ?_
 refine Xi ⟨[(2, .ref 2 0), (3, .ref 3 0), (4, .ref 4 0)], [(2, .cells (encTm u)), (3, .cells (encTm t)), (4, .cells [vs ⟨#[]⟩, vb false, .v (.slice none 0 0)])], hfree⟩ (Yi ?_ ?_)
 ·exact ⟨⟨Zr, Zr, Zr, Tv⟩, ⟨Zr, Zr, Zr, Tv⟩, Fh, Tv⟩
 refine Yi ?_ ?_
 ·intro h
  have h : u.absent = true := h
  have e : [vs u.path, vb true, sl encSpan (union u.set t.set)] = encTm (eitherT u t) := by unfold eitherT; rw [h]; rfl
  refine Xi _ (Yi (hc) ?_)
  refine Yi (Nz rfl) (Yi (by kernel_rfl) (Yi (Nz rfl) ?_))
  exact .of_eq (congrArg AV.agg e)
 ·intro h
  have h : u.absent = false := h
  refine Yi ?_ ?_
  ·intro h2
   have h2 : t.absent = true := h2
   have e : [vs u.path, vb true, sl encSpan (union u.set t.set)] = encTm (eitherT u t) := by unfold eitherT; rw [h, h2]; rfl
   refine Xi _ (Yi (hc) ?_)
   refine Yi (Nz rfl) (Yi (by kernel_rfl) (Yi (Nz rfl) ?_))
   exact .of_eq (congrArg AV.agg e)
  ·intro h2
   have h2 : t.absent = false := h2
   have e : [vs u.path, vb false, sl encSpan (union u.set t.set)] = encTm (eitherT u t) := by unfold eitherT; rw [h, h2]; rfl
   refine Xi _ (Yi (hc) ?_)
   refine Yi (Nz rfl) (Yi (by kernel_rfl) (Yi (Nz rfl) ?_))
   exact .of_eq (congrArg AV.agg e)
theorem c223 (q : Rq) (hq : Few q.set) : PC 223 [.agg (encRq q)] (.agg (encTm (outside q))) := by
 refine pcall_sub (cxp pl0) rfl tab_ok hm rfl Tryz.func223 (by kernel_rfl) rfl (Nz rfl) (by kernel_rfl) ?_
 refine Xi _ (Yi (c103 q.set hq) ?_)
 refine Yi (Nz rfl) (Yi (by kernel_rfl) (Yi (Nz rfl) ?_))
 exact .refl _
end Go.Eng

namespace Go.Eng
open Go.Proofs
abbrev shS : Shape := ⟨false, [.str]⟩
abbrev kvT (t : Tm) : Value × AV := (.string t.path, .agg (encTm t))
abbrev plfin (fin cut : List Nat) : Pol := ⟨[], [], [], [], fin, [], [], [], [], [], cut⟩
theorem kvT_mem {m : List Tm} {p : ByteArray} {a : AV} : (Value.string p, a) ∈ m.map kvT ↔ ∃ t ∈ m, t.path = p ∧ a = .agg (encTm t) := by
 rw [List.mem_map]
 constructor
 ·rintro ⟨t, h1, h2⟩
  simp only [Prod.mk.injEq, Value.string.injEq] at h2
  exact ⟨t, h1, h2.1, h2.2.symm⟩
 ·rintro ⟨t, h1, rfl, rfl⟩
  exact ⟨t, h1, rfl⟩
theorem mput_kvT (m : List Tm) (t : Tm) : mput (m.map kvT) (.string t.path) (.agg (encTm t)) = (putT m t).map kvT := by
 unfold putT
 by_cases h : (m.any fun u => decide (u.path = t.path)) = true
 ·rw [if_pos h]
  obtain ⟨u, h1, h2⟩ := List.any_eq_true.1 h
  have h2 := of_decide_eq_true h2
  have : (Value.string t.path, AV.agg (encTm u)) ∈ m.map kvT := kvT_mem.2 ⟨u, h1, h2, rfl⟩
  rw [mput_some this, List.map_map, List.map_map]
  apply List.map_congr_left
  intro q _
  simp only [Function.comp]
  by_cases e : q.path = t.path
  ·simp [e]
  ·have : ¬ Value.string q.path = .string t.path := fun c => e (by injection c)
   simp [e]
 ·rw [if_neg h]
  have : ∀ b, (Value.string t.path, b) ∉ m.map kvT := fun b hb => by
   obtain ⟨u, h1, h2, _⟩ := kvT_mem.1 hb
   exact h (List.any_eq_true.2 ⟨u, h1, by simp [h2]⟩)
  rw [mput_none this, List.map_append]; rfl
theorem found_tm {m : List Tm} (hn : (pathsT m).Nodup) (p : ByteArray) {K : AV → Prop} {Z : Prop} (hy : ∀ u, findT m p = some u → K (.agg (encTm u))) (hno : findT m p = none → Z) :
  (∀ a, (Value.string p, a) ∈ m.map kvT → K a) ∧ ((∀ a, (Value.string p, a) ∉ m.map kvT) → Z) :=
 ⟨fun a h => by
  obtain ⟨t, h1, h2, rfl⟩ := kvT_mem.1 h
  subst h2
  exact hy t ((findT_nodup hn).1 h1), fun h => hno (by
  cases e : findT m p with
  | none => rfl
  | some u => exact absurd (kvT_mem.2 ⟨u, findT_mem e, findT_path e, rfl⟩) (h _))⟩
theorem few_can {t : Tm} (h : Canon t.set) : Few t.set := by
 unfold Few
 have := canon_len h; omega
theorem c57 (l : List Tm) (hl : Few l) (hs : ∀ t ∈ l, Few t.set) : PC 57 [sl encTm l, .v (fnV 58)] (.cmap shS ((mergeM l).map kvT)) := by
 have hl : l.length ≤ 1073741824 := hl
 refine pcall_sub (cxp (plfin [10] [5, 8])) rfl tab_ok hm rfl Tryz.func57 (by kernel_rfl) rfl (Nz rfl) (by kernel_rfl) ?_
 refine Xi {i : Nat // i ≤ l.length} (Xi (fun i => ⟨[(0, sl encTm l), (1, .v (fnV 58)), (5, .mref 10), (11, sl encTm l), (12, vi (l.map encTm).length), (13, vi i.1)], [(10, .map shS ((mergeM (l.take i.1)).map kvT))], hfree⟩) (Xi (fun i => l.length - i.1) (Yi (Xi ⟨0, Nat.zero_le _⟩ ?_) ?_)))
 ·exact ⟨⟨Zr, Zr, Zr, Zr, Zr, Zr, Tv⟩, ⟨Zr, Tv⟩, Fh, Tv⟩
 intro ⟨i, h1⟩
 have hn := mergeM_nodup (l.take i)
 refine Yi ?_ ?_
 ·intro h
  have h : (i : Int) < (l.map encTm).length := h
  have h : i < l.length := by simpa using h
  have hg : l[i]? = some l[i] := Ge h
  refine Xi (encTm l[i]) (Yi (Yi (by show (0 : Int) ≤ i; omega) (by simp [hg])) (Yi rfl ?_))
  refine Yi (Nz rfl) (Yi (Nz rfl) ?_)
  have hget := hs l[i] (List.getElem_mem h)
  refine Xi ⟨[(0, sl encTm l), (1, .v (fnV 58)), (5, .mref 10), (7, .ref 7 0), (11, sl encTm l), (12, vi (l.map encTm).length), (13, vi i)], [(7, .cells (encTm l[i])), (10, .map shS ((mergeM (l.take i)).map kvT))], hfree⟩ (Yi ?_ ?_)
  ·exact ⟨⟨Zr, Zr, Zr, Zr, Zr, Zr, Zr, Tv⟩, ⟨Zr, Zr, Tv⟩, Fh, Tv⟩
  have tail : ∀ u : Tm, Few u.set → bothT u l[i] = putO (findT (mergeM (l.take i)) l[i].path) l[i] → mput ((mergeM (l.take i)).map kvT) (.string l[i].path) (.agg (encTm (bothT u l[i]))) = (mergeM (l.take (i + 1))).map kvT := fun u hu e => by
   have hp : (putO (findT (mergeM (l.take i)) l[i].path) l[i]).path = l[i].path := putO_path _ _ fun u h => findT_path h
   have e2 := mput_kvT (mergeM (l.take i)) (bothT u l[i])
   have e3 : (bothT u l[i]).path = l[i].path := by rw [e]; exact hp
   rw [e3] at e2
   rw [e2, mergeM_take l i h, e]; rfl
  refine found_tm hn l[i].path (fun u hu => ?_) (fun hu => ?_)
  ·have hus : Few u.set := few_can (mergeM_canon _ u (findT_mem hu))
   refine Yi (Nz rfl) ?_
   refine Xi ⟨[(0, sl encTm l), (1, .v (fnV 58)), (5, .mref 10), (7, .ref 7 0), (8, .ref 8 0), (11, sl encTm l), (12, vi (l.map encTm).length), (13, vi i)], [(7, .cells (encTm l[i])), (8, .cells (encTm u)), (10, .map shS ((mergeM (l.take i)).map kvT))], hfree⟩ (Yi ?_ ?_)
   ·exact ⟨⟨Zr, Zr, Zr, Zr, Zr, Zr, Zr, Zr, Tv⟩, ⟨Zr, Zr, Zr, Tv⟩, Fh, Tv⟩
   have hput := tail u hus (by rw [putO_eq, hu]; rfl)
   refine Yi (Nz rfl) (Yi (Nz rfl) ?_)
   refine Xi _ (Yi (c58 u l[i] hus hget) ?_)
   refine Yi (by kernel_rfl) ?_
   refine Yi (by show InI64 ((i : Int) + 1); unfold InI64; omega) ?_
   refine Xi ⟨i + 1, by omega⟩ ?_
   have e1 : HO.map shS (mput ((mergeM (l.take i)).map kvT) (.string l[i].path) (.agg (encTm (bothT u l[i])))) = .map shS ((mergeM (l.take (i + 1))).map kvT) := by rw [hput]
   exact ⟨by show l.length - (i + 1) < l.length - i; omega, ⟨Zr, Zr, Zr, Zr, Zr, Zr, Tv⟩, ⟨⟨e1, rfl⟩, Tv⟩, Fh, Tv⟩
  ·refine Yi (Nz rfl) ?_
   refine Yi (Nz rfl) (Yi (Nz rfl) ?_)
   refine Xi ⟨[(0, sl encTm l), (1, .v (fnV 58)), (5, .mref 10), (7, .ref 7 0), (8, .ref 8 0), (11, sl encTm l), (12, vi (l.map encTm).length), (13, vi i)], [(7, .cells (encTm l[i])), (8, .cells (encTm l[i])), (10, .map shS ((mergeM (l.take i)).map kvT))], hfree⟩ (Yi ?_ ?_)
   ·exact ⟨⟨Zr, Zr, Zr, Zr, Zr, Zr, Zr, Zr, Tv⟩, ⟨Zr, Zr, Zr, Tv⟩, Fh, Tv⟩
   have hput := tail l[i] hget (by rw [putO_eq, hu]; rfl)
   refine Yi (Nz rfl) (Yi (Nz rfl) ?_)
   refine Xi _ (Yi (c58 l[i] l[i] hget hget) ?_)
   refine Yi (by kernel_rfl) ?_
   refine Yi (by show InI64 ((i : Int) + 1); unfold InI64; omega) ?_
   refine Xi ⟨i + 1, by omega⟩ ?_
   have e1 : HO.map shS (mput ((mergeM (l.take i)).map kvT) (.string l[i].path) (.agg (encTm (bothT l[i] l[i])))) = .map shS ((mergeM (l.take (i + 1))).map kvT) := by rw [hput]
   exact ⟨by show l.length - (i + 1) < l.length - i; omega, ⟨Zr, Zr, Zr, Zr, Zr, Zr, Tv⟩, ⟨⟨e1, rfl⟩, Tv⟩, Fh, Tv⟩
 ·intro h
  have h : ¬ (i : Int) < (l.map encTm).length := h
  have h : ¬ i < l.length := by simpa using h
  have e : (mergeM (l.take i)).map kvT = (mergeM l).map kvT := by rw [List.take_of_length_le (by omega)]
  exact .of_eq (congrArg (AV.cmap shS) e)
end Go.Eng

namespace Go.Eng
open Go.Proofs
abbrev canRes (l : List Tm) : AV := .tup [sl encTm (ofT l), vb (canonT l).isSome]
abbrev pl29 : Pol := ⟨[], [], [(4, 3)], [], [], [], [], [], [], [(25, 4)], [4, 7, 10]⟩
abbrev arrTm (l : List Tm) : HO := .arr 3 (l.map encTm)
abbrev keepT (l : List Tm) : List Tm := l.filter fun t => !alwaysT t
theorem next_kv {l : List Tm} {kv : Value × AV} {rem' : List (Value × AV)} (h : (l.map kvT).Perm (kv :: rem')) : ∃ t r, kv = kvT t ∧ rem' = r.map kvT ∧ l.Perm (t :: r) := by
 obtain ⟨ps, h1, h2⟩ := perm_map_ex h l rfl
 cases ps with
 | nil => cases h2
 | cons t r =>
  rw [List.map_cons, List.cons.injEq] at h2
  exact ⟨t, r, h2.1.symm, h2.2.symm, h1.symm⟩
theorem canon_never {l : List Tm} {t : Tm} (h : t ∈ mergeM l) (hn : neverT t = true) : canonT l = none := by
 unfold canonT
 rw [if_pos (List.any_eq_true.2 ⟨t, (mem_merge l t).1 h, hn⟩)]
theorem canon_some {l done s : List Tm} (h : done.Perm (mergeM l)) (hn : ∀ t ∈ done, neverT t = false) (hp : s.Perm (keepT done)) (hs : s.Pairwise fun x y => blt y.path x.path = false) : canonT l = some s := by
 unfold canonT
 rw [if_neg]
 ·congr 1
  exact (canonT_of_sorted _ (hp.trans (h.filter _)) hs).symm
 ·intro c
  obtain ⟨t, h1, h2⟩ := List.any_eq_true.1 c
  have := hn t (h.mem_iff.2 ((mem_merge l t).2 h1))
  rw [h2] at this; cases this
theorem keepT_len (l : List Tm) : (keepT l).length ≤ l.length := List.length_filter_le _ _
theorem c29 (l : List Tm) (hl : Few l) (hs : ∀ t ∈ l, Few t.set) : PC 29 [sl encTm l] (canRes l) := by
 have hl2 : l.length ≤ 1073741824 := hl
 have hml : (mergeM l).length ≤ l.length := by have := mergeM_len l l.length (Nat.le_refl _); rwa [List.take_length] at this
 refine pcall_sub (cxp pl29) rfl tab_ok hm rfl Tryz.func29 (by kernel_rfl) rfl (Nz rfl) (by kernel_rfl) ?_
 refine Xi .pure (Xi _ (Yi (c57 l hl hs) ?_))
 refine Xi {p : List Tm × List Tm × Option (Value × AV) // (p.1 ++ p.2.1).Perm (mergeM l) ∧ ∀ t ∈ p.1, neverT t = false} (Xi (fun p => ⟨[(4, .msl 4 (keepT p.1.1).length), (9, .ref 9 0)], [(4, arrTm (keepT p.1.1)), (9, .iter ((mergeM l).map kvT) (p.1.2.1.map kvT) p.1.2.2)], hfree⟩) (Xi (fun p => p.1.2.1.length) (Yi (Xi ⟨([], mergeM l, none), .refl _, fun t ht => by cases ht⟩ ?_) ?_)))
 ·exact ⟨⟨Zr, Zr, Tv⟩, ⟨Zr, Zr, Tv⟩, Fh, Tv⟩
 intro ⟨⟨done, rem, cur⟩, r1, r2⟩
 have r1 : (done ++ rem).Perm (mergeM l) := r1
 have r2 : ∀ t ∈ done, neverT t = false := r2
 have hdl : done.length + rem.length ≤ l.length := by have := r1.length_eq; rw [List.length_append] at this; omega
 have hkl := keepT_len done
 refine Yi ?_ ?_
 ·intro hr
  have hr : rem.map kvT = [] := hr
  have hr : rem = [] := List.map_eq_nil_iff.1 hr
  subst hr
  rw [List.append_nil] at r1
  refine Xi (.gen [(4, 1000)] 0) (Yi rfl ((c61 (keepT done) (by unfold Few; omega)).to ?_))
  intro s hq
  have hsl : s.length = (keepT done).length := hq.1.length_eq
  have hc := canon_some r1 r2 hq.1 hq.2
  refine Xi ⟨[(4, .msl 4 (keepT done).length)], [(4, arrTm s)], hfree⟩ (Yi ?_ ?_)
  ·exact ⟨⟨Zr, Tv⟩, ⟨Zr, Tv⟩, Fh, Tv⟩
  refine Yi (by rw [Lm, hsl]) ?_
  have e : AV.tup [sl encTm s, vb true] = canRes l := by unfold canRes ofT; rw [hc]; rfl
  exact .of_eq e
 ·intro kv rem' hp
  refine Exists.elim (next_kv hp) (fun t hp => Exists.elim hp (fun r hp => ?_))
  have e1 := hp.1
  have e2 := hp.2.1
  subst e1
  subst e2
  have hp := hp.2.2
  have htm : t ∈ mergeM l := r1.mem_iff.1 (List.mem_append_right _ (hp.mem_iff.2 (List.mem_cons_self ..)))
  have htc := mergeM_canon l t htm
  have htf := few_can htc
  refine Xi ⟨[(4, .msl 4 (keepT done).length), (9, .ref 9 0)], [(4, arrTm (keepT done)), (9, .iter ((mergeM l).map kvT) (r.map kvT) (some (kvT t)))], hfree⟩ (Yi ?_ ?_)
  ·exact ⟨⟨Zr, Zr, Tv⟩, ⟨Zr, Zr, Tv⟩, Fh, Tv⟩
  refine Yi (Nz rfl) (Yi (Nz rfl) ?_)
  have hv : PC 59 [.agg (encTm t)] (vb (neverT t)) := never_eq htc ▸ c59 t htf
  have ha : PC 60 [.agg (encTm t)] (vb (alwaysT t)) := always_eq htc ▸ c60 t htf
  refine Or.elim (Bool.eq_false_or_eq_true (neverT t)) (fun h => ?_) (fun h => ?_)
  ·rw [h] at hv
   refine Xi .pure (Xi _ (Yi (hv) ?_))
   have hc := canon_never htm h
   have e : AV.tup [.slice .none [], vb false] = canRes l := by unfold canRes ofT; rw [hc]; rfl
   have e0 : Sub (.tup [.v (.slice none 0 0), vb false]) (.tup [.slice .none [], vb false]) := Sub.tup ⟨.nil, .refl _, trivial⟩
   exact e0.trans (.of_eq e)
  ·rw [h] at hv
   refine Xi .pure (Xi _ (Yi (hv) ?_))
   refine Xi ⟨[(4, .msl 4 (keepT done).length), (6, .ref 6 0), (9, .ref 9 0)], [(4, arrTm (keepT done)), (6, .cells (encTm t)), (9, .iter ((mergeM l).map kvT) (r.map kvT) (some (kvT t)))], hfree⟩ (Yi ?_ ?_)
   ·exact ⟨⟨Zr, Zr, Zr, Tv⟩, ⟨Zr, Zr, Zr, Tv⟩, Fh, Tv⟩
   refine Yi (Nz rfl) ?_
   have hpm : ((done ++ [t]) ++ r).Perm (mergeM l) := by
    rw [List.append_assoc]
    exact (List.Perm.append_left _ hp.symm).trans r1
   have hnv : ∀ u ∈ done ++ [t], neverT u = false := fun u hu => by
    rcases List.mem_append.1 hu with hu | hu
    ·exact r2 u hu
    ·rw [List.mem_singleton.1 hu]; exact h
   have hrl : r.length < rem.length := by rw [hp.length_eq, List.length_cons]; omega
   refine Or.elim (Bool.eq_false_or_eq_true (alwaysT t)) (fun h2 => ?_) (fun h2 => ?_)
   rotate_left
   ·rw [h2] at ha
    refine Xi .pure (Xi _ (Yi (ha) ?_))
    have bulk : AllLen 3 [encTm t] ∧ ((keepT done).map encTm).length = (keepT done).length ∧ (((keepT done).map encTm).length + [encTm t].length) * 48 ≤ 140737488355328 ∧ ((keepT done).map encTm).length + [encTm t].length ≤ 9223372036854775807 :=
     ⟨⟨rfl, trivial⟩, by rw [Lm], by rw [Lm, List.length_singleton]; omega, by rw [Lm, List.length_singleton]; omega⟩
    refine Yi (Nz rfl) ?_
    refine Yi bulk ?_
    have hk : keepT (done ++ [t]) = keepT done ++ [t] := by unfold keepT; rw [List.filter_append, List.filter_cons, if_pos (by rw [h2]; rfl)]; rfl
    have e1 : AV.msl 4 (((keepT done).map encTm).length + [encTm t].length) = .msl 4 (keepT (done ++ [t])).length := by rw [hk]; simp
    have e2 : HO.arr 3 ((keepT done).map encTm ++ [encTm t]) = arrTm (keepT (done ++ [t])) := by rw [hk]; simp
    refine Xi ⟨(done ++ [t], r, some (kvT t)), hpm, hnv⟩ ?_
    exact ⟨hrl, ⟨⟨e1, rfl⟩, Zr, Tv⟩, ⟨⟨e2, rfl⟩, Zr, Tv⟩, Fh, Tv⟩
   ·rw [h2] at ha
    refine Xi .pure (Xi _ (Yi (ha) ?_))
    have hk : keepT (done ++ [t]) = keepT done := by unfold keepT; rw [List.filter_append, List.filter_cons, if_neg (by rw [h2]; decide)]; simp
    have e1 : AV.msl 4 (keepT done).length = .msl 4 (keepT (done ++ [t])).length := by rw [hk]
    have e2 : arrTm (keepT done) = arrTm (keepT (done ++ [t])) := by rw [hk]
    refine Xi ⟨(done ++ [t], r, some (kvT t)), hpm, hnv⟩ ?_
    exact ⟨hrl, ⟨⟨e1, rfl⟩, Zr, Tv⟩, ⟨⟨e2, rfl⟩, Zr, Tv⟩, Fh, Tv⟩
end Go.Eng

namespace Go.Eng
open Go.Proofs
theorem c222 (l : List Tm) (hl : Few l) (hs : ∀ t ∈ l, Few t.set) : PC 222 [sl encTm l] (sl encTm (ofT l)) := by
 refine pcall_sub (cxp pl0) rfl tab_ok hm rfl Tryz.func222 (by kernel_rfl) rfl (Nz rfl) (by kernel_rfl) ?_
 refine Xi .pure (Xi _ (Yi (c29 l hl hs) ?_))
 exact .refl _
theorem few_compl (s : SpanL) : Few (compl s) := by
 unfold Few; have := canon_len (compl_canon s); omega
theorem few1 {α : Type} (x : α) : Few [x] := by unfold Few; simp
theorem few2 {α : Type} (x y : α) : Few [x, y] := by unfold Few; simp
theorem c191 (q : Rq) (hq : Few q.set) : PC 191 [.agg (encRq q)] (sl encTm (rootT q)) := by
 have hc : PC 222 [sl encTm [outside q]] (sl encTm (rootT q)) := c222 [outside q] (few1 _) fun t ht => by rw [List.mem_singleton.1 ht]; exact few_compl _
 refine pcall_sub (cxp pl0) rfl tab_ok hm rfl Tryz.func191 (by kernel_rfl) rfl (Nz rfl) (by kernel_rfl) ?_
 refine Yi (Nz rfl) ?_
 refine Xi .pure (Xi _ (Yi (c223 q hq) ?_))
 refine Xi .pure (Xi _ (Yi (hc) ?_))
 exact .refl _
theorem c193 (p : ByteArray) (pl : Int) (q : Rq) (hp : InI64 (pl + 1)) (hq : Few q.set) : PC 193 [vs p, vi pl, .agg (encRq q)] (sl encTm (requiresT p pl q)) := by
 have hc : PC 222 [sl encTm [⟨p, false, [(pl, pl + 1)]⟩, outside q]] (sl encTm (requiresT p pl q)) := c222 [⟨p, false, [(pl, pl + 1)]⟩, outside q] (few2 _ _) fun t ht => by
  rcases List.mem_cons.1 ht with rfl | ht
  ·exact few1 _
  ·rw [List.mem_singleton.1 ht]; exact few_compl _
 refine pcall_sub (cxp pl0) rfl tab_ok hm rfl Tryz.func193 (by kernel_rfl) rfl (Nz rfl) (by kernel_rfl) ?_
 refine Yi hp ?_
 refine Yi (Nz rfl) ?_
 refine Xi .pure (Xi _ (Yi (c223 q hq) ?_))
 refine Xi .pure (Xi _ (Yi (hc) ?_))
 exact .refl _
theorem c194 (p : ByteArray) (s : SpanL) (hs : Few s) : PC 194 [vs p, sl encSpan s] (sl encTm (noneT p s)) := by
 have hc : PC 222 [sl encTm [⟨p, false, compl s⟩]] (sl encTm (noneT p s)) := c222 [⟨p, false, compl s⟩] (few1 _) fun t ht => by rw [List.mem_singleton.1 ht]; exact few_compl _
 refine pcall_sub (cxp pl0) rfl tab_ok hm rfl Tryz.func194 (by kernel_rfl) rfl (Nz rfl) (by kernel_rfl) ?_
 refine Xi .pure (Xi _ (Yi (c103 s hs) ?_))
 refine Xi .pure (Xi _ (Yi (hc) ?_))
 exact .refl _
end Go.Eng

namespace Go.Eng
open Go.Proofs Go.Shelf Go.RowKit Go.Lib Go.Sort
theorem lay_eq (F : Array Value) (i n : Nat) (hF : F.size = n * 3) (hi : i < n) (z : List Value) (hz : z.length = 3) : (lay (lay F (i * 3) (F.toList.drop ((i + 1) * 3))) ((n - 1) * 3) z).toList = F.toList.take (i * 3) ++ F.toList.drop ((i + 1) * 3) ++ z := by
 have l1 : (F.toList.take (i * 3)).length = i * 3 := by simp; omega
 have l2 : (F.toList.drop ((i + 1) * 3)).length = (n - (i + 1)) * 3 := by simp; omega
 apply List.ext_getElem?
 intro t
 rw [Array.getElem?_toList, lay_get? _ _ _ _ (by rw [Lib.lay_size]; omega), lay_get? _ _ _ _ (by rw [l2]; omega)]
 rw [hz, l2]
 by_cases c1 : t < i * 3
 ·rw [if_neg (by omega), if_neg (by omega), List.getElem?_append_left (by rw [List.length_append]; omega), List.getElem?_append_left (by omega), List.getElem?_take, if_pos c1, Array.getElem?_toList]
 ·by_cases c2 : t < (n - 1) * 3
  ·rw [if_neg (by omega), if_pos (by omega), List.getElem?_append_left (by rw [List.length_append]; omega), List.getElem?_append_right (by omega), l1]
  ·rw [List.getElem?_append_right (by rw [List.length_append]; omega), List.length_append, l1, l2]
   by_cases c3 : t < n * 3
   ·rw [if_pos (by omega)]; congr 1; omega
   ·rw [if_neg (by omega), if_neg (by omega), Array.getElem?_eq_none (by omega), List.getElem?_eq_none (by omega)]
abbrev zTm : List Value := [.string ⟨#[]⟩, .bool false, .slice none 0 0]
set_option maxHeartbeats 4000000 in
set_option maxRecDepth 1000000 in
theorem del_walk (w : World) (b cap i n : Nat) (F : Array Value) (hF : F.size = n * 3) (hi : i < n) (hcap : n ≤ cap) (hH : Holds id w b 0 F) (h1 : ∀ x ∈ F.toList, x.oneCell' = true) :
  Calls Tryz.prog 247 #[.slice (some ⟨b, 0, none⟩) n cap, .int .i64 i, .int .i64 ((i : Int) + 1)] w fun e w' => e = .returned (.slice (some ⟨b, 0, none⟩) (n - 1) cap) ∧
   w' = putRow id (Sort.ahead w 1) b 0 (lay (lay F (i * 3) (F.toList.drop ((i + 1) * 3))) ((n - 1) * 3) zTm) := by
 obtain ⟨i0, hi0, hz0⟩ : ∃ i0, Tryz.prog.info? 107 = some i0 ∧ i0.size = 3 := by
  obtain ⟨i, z, h1, _, h2, _⟩ := append_facts (P := Tryz.prog) (T := tab) tab_ok (e := 107) (n := 2) (by kernel_rfl)
  exact ⟨i, h1, h2.trans (by kernel_rfl)⟩
 obtain ⟨news, hnews⟩ : ∃ news, news = F.toList.drop ((i + 1) * 3) := ⟨_, rfl⟩
 have hlen : news.length = (n - (i + 1)) * 3 := by rw [hnews]; simp; omega
 have hget : ∀ t, t < (n - (i + 1)) * 3 → news[t]? = some F[(i + 1) * 3 + t]! := by
  intro t ht
  rw [hnews, List.getElem?_drop, Array.getElem?_toList, getElem!_pos F ((i + 1) * 3 + t) (by omega), Array.getElem?_eq_getElem (by omega)]
 obtain ⟨A, hA, hsrc⟩ : ∃ A : Addr, (if cap = i + 1 then some (⟨b, 0, none⟩ : Addr) else some ⟨b, (i + 1) * 3, none⟩) = some A ∧ Hid (∀ t u, news[t]? = some u → w.drew.cell? (A.add t) = some u) := by
  by_cases h : cap = i + 1
  ·refine ⟨⟨b, 0, none⟩, by simp [h], fun t u hu => ?_⟩
   have h0 : news.length = 0 := by rw [hlen]; omega
   rw [List.length_eq_zero_iff.1 h0] at hu
   simp at hu
  ·refine ⟨⟨b, (i + 1) * 3, none⟩, by simp [h], fun t u hu => ?_⟩
   have ht : t < (n - (i + 1)) * 3 := by
    have := (List.getElem?_eq_some_iff.1 hu).1
    rwa [hlen] at this
   rw [hget t ht] at hu
   rw [Addr.add_lit]
   have := (hH ((i + 1) * 3 + t) (by omega)).1
   rw [Nat.zero_add] at this
   exact this.trans hu
 have s1 : Hid (news.length = (n - (i + 1)) * 3) := hlen
 have s2 : Hid (∀ u ∈ news, u.oneCell' = true) := by
  intro u hu
  rw [hnews] at hu
  exact h1 u (List.mem_of_mem_drop hu)
 have s3 : Hid (∀ t, t < news.length → (w.drew.cell? ⟨b, 0 + i * 3 + t, none⟩).isSome = true ∧ w.drew.frozen? ⟨b, 0 + i * 3 + t, none⟩ = false) := by
  intro t ht
  rw [hlen] at ht
  have := hH (i * 3 + t) (by omega)
  rw [Nat.add_assoc]
  exact ⟨by show (w.cell? _).isSome = true; rw [this.1]; rfl, this.2⟩
 obtain ⟨W1, hW1⟩ : ∃ W1, W1 = w.drew.setCells b (0 + i * 3) news := ⟨_, rfl⟩
 have hW1' : W1 = putRow id (Sort.ahead w 1) b 0 (lay F (i * 3) news) := by
  have := putRow_setCells id (Sort.ahead w 1) b 0 news F (i * 3) (by omega)
  rw [putRow_self id (Sort.ahead w 1) b 0 F (holds_ahead id w 1 b 0 F hH), List.map_id] at this
  rw [hW1, ← this]
  rfl
 have hH1 : Holds id W1 b 0 (lay F (i * 3) news) := by rw [hW1']; exact holds_putRow id _ b 0 F _ (holds_ahead id w 1 b 0 F hH) (Lib.lay_size _ _ _)
 have hst : (storeCells ⟨b, 0 + (n - 1) * 3, none⟩ zTm 0).run Tryz.prog W1 = .ok () (W1.setCells b (0 + (n - 1) * 3) zTm) := by
  have := run_storeCells_cells (P := Tryz.prog) b (0 + (n - 1) * 3) zTm 0 W1 (fun j hj => by
   have hj : j < 3 := hj
   have := hH1 ((n - 1) * 3 + j) (by rw [Lib.lay_size]; omega)
   rw [show 0 + (n - 1) * 3 + 0 + j = 0 + ((n - 1) * 3 + j) by omega, this.1]; rfl) (fun j hj => by
   have hj : j < 3 := hj
   have := hH1 ((n - 1) * 3 + j) (by rw [Lib.lay_size]; omega)
   rw [show 0 + (n - 1) * 3 + 0 + j = 0 + ((n - 1) * 3 + j) by omega]; exact this.2) (fun v hv => by
   simp only [List.mem_cons, List.mem_nil_iff, or_false] at hv
   rcases hv with rfl | rfl | rfl <;> rfl)
  exact this
 have hcl : ∀ ty c, (Builtin.clear_ #[51] ty #[.slice (some ⟨b, (n - 1) * 3, none⟩) 1 c]).run Tryz.prog W1 = .ok (.tuple #[]) (W1.setCells b (0 + (n - 1) * 3) zTm) := fun ty c => by
  have hv := Tryz.zeroValue107
  rw [Nat.zero_add] at hst ⊢
  have hz : (Builtin.zeroCells (Value.agg #[Value.string { data := #[] }, Value.bool false, Value.slice none 0 0]).cells 1).toList = zTm := by kernel_rfl
  simp [Builtin.clear_, run_underlying Tryz.underlying51, hv, hz, hst]
 have hcl2 : ∀ ty, (Builtin.clear_ #[51] ty #[.slice (some ⟨b, (i + (n - (i + 1))) * 3, none⟩) (n - (i + (n - (i + 1)))) (cap - (i + (n - (i + 1))))]).run Tryz.prog W1 = .ok (.tuple #[]) (W1.setCells b (0 + (n - 1) * 3) zTm) := fun ty => by
  have e1 : i + (n - (i + 1)) = n - 1 := by omega
  have e2 : n - (n - 1) = 1 := by omega
  rw [e1, e2]; exact hcl ty _
 have X : Aside (W1 = putRow id (Sort.ahead w 1) b 0 (lay F (i * 3) news)) := hW1'
 have hW : Hid (W1 = w.drew.setCells b (0 + i * 3) news) := hW1
 have Y : Aside (news = F.toList.drop ((i + 1) * 3)) := hnews
 have Z : Aside (news.length = (n - (i + 1)) * 3) := hlen
 have hic : i ≤ cap := by omega
 have hjc : i + 1 ≤ cap := by omega
 have mixed := Go.Eng.hm
 have hb1 : (0 : Int) ≤ (i : Int) + 1 := by omega
 have hb2 : (i : Int) + 1 ≤ (n : Int) := by omega
 clear hW1 hW1' hH1 hH hget hnews hlen hst hcl
 go_enter Tryz.func247, Tryz.ntmps247
 go_wp2_with fail
 go_region_law_o (refine step_append_room rfl (.tmp 22) (.tmp 25) 51 rfl 107 i0 3 Tryz.underlying51 hi0 hz0 b 0 i cap (by simp [Act.eval, Act.put]) A (n - (i + 1)) (cap - (i + 1)) news (by simp [Act.eval, Act.put]) s1.out hsrc.out s2.out (by omega) s3.out ?_; rw [← hW.out])
 go_wp2
 go_ret
 refine ⟨by rw [show i + (n - (i + 1)) = n - 1 by omega]; rfl, ?_⟩
 rw [X.out]
 have e1 := Y.out
 have e2 := Z.out
 rw [← e1]
 have := putRow_setCells id (Sort.ahead w 1) b 0 zTm (lay F (i * 3) news) ((n - 1) * 3) (by rw [Lib.lay_size]; show _ + 3 ≤ _; omega)
 rw [List.map_id, Nat.zero_add] at this
 exact this
abbrev zTmA : List AV := [Go.Eng.vs ⟨#[]⟩, vb false, .v (.slice none 0 0)]
theorem c247 (l : List Tm) (i : Nat) (hi : i < l.length) :
  ACall Tryz.prog 247 [.msl 1000 l.length, vi i, vi ((i : Int) + 1)] (heapOf [(1000, .arr 3 (l.map encTm))] hfree) fun r h' => r = .msl 2000 (l.length - 1) ∧ h' = heapOf [(1000, .dead), (2000, .arr 3 ((l.eraseIdx i).map encTm))] hfree := by
 have hE : Enters Tryz.prog 247 := ent 247 Tryz.func247 (by kernel_rfl) rfl
 have hlen : (l.eraseIdx i).length = l.length - 1 := List.length_eraseIdx_of_lt hi
 have hmain := acall_cut (P := Tryz.prog) (f := 247) (es := l.map encTm) (sz := 3) (rest := [.int .i64 i, .int .i64 ((i : Int) + 1)]) (n' := l.length - 1) (Q := fun es' => es' = (l.eraseIdx i).map encTm ++ [zTmA]) hE (fun e => by
  rw [List.map_eq_nil_iff] at e; subst e; simp at hi) (by rw [List.length_map]; omega) ?_
 ·rw [List.length_map] at hmain
  refine ⟨hE, fun g w vals q1 q2 q3 => (hmain.2 g w vals q1 q2 q3).mono fun _ _ ⟨v, r, h', g', e1, ⟨e2, es', p1, p2⟩, rest⟩ => ⟨v, r, h', g', e1, ⟨e2, by rw [p2, p1, List.take_append_of_le_length (by rw [List.length_map, hlen]; exact Nat.le_refl _), List.take_of_length_le (by rw [List.length_map, hlen]; exact Nat.le_refl _)]⟩, rest⟩⟩
 ·intro g w b cap F hr hF hH hb hc
  rw [List.length_map] at hF hc ⊢
  have hu : ∀ e ∈ l.map encTm, e.length = 3 := fun e he => by
   obtain ⟨t, _, rfl⟩ := List.mem_map.1 he; rfl
  refine (del_walk w b cap i l.length F hF hi hc hH hr.2.1).mono ?_
  rintro e w' ⟨rfl, rfl⟩
  refine ⟨rfl, _, _, 1, #[], ?_, rfl, ?_, fun cs hcs => ?_, fun g w hr => ?_, rfl⟩
  ·rw [Lib.lay_size, Lib.lay_size]
  ·rw [List.length_append, List.length_map, hlen, List.length_singleton]; omega
  ·rcases List.mem_append.1 hcs with h | h
   ·obtain ⟨t, _, rfl⟩ := List.mem_map.1 h; rfl
   ·rw [List.mem_singleton.1 h]; rfl
  ·rw [lay_eq F i l.length hF hi zTm rfl, List.eraseIdx_eq_take_drop_succ, List.flatten_append, List.map_append, List.flatten_append, List.map_take, List.map_drop, ← flatten_take _ i hu, ← flatten_drop _ (i + 1) hu]
   refine RepL.append (RepL.append (hr.take _) (hr.drop _)) ?_
   exact repL_vals g w NoU zTm fun x hx => by
    simp only [List.mem_cons, List.mem_nil_iff, or_false] at hx
    rcases hx with rfl | rfl | rfl <;> rfl
end Go.Eng
