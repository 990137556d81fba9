/- Lemmas for the claims of this seat, without a condition: part 22 (C39, LayStr, C40, C41, C42, C43, C44). -/
import Derived.Test.YtodcmjcogdcmlaaGreatDoorA21
import Derived.Test.YtodcmjcogdcmlaaGreatDoorA17
import Derived.Test.YtodcmjcogdcmlaaGreatDoorA15
import Derived.Test.YtodcmjcogdcmlaaGreatDoorA04
import Derived.Shelf.Strings.SplitShaped
import Derived.Shelf.Strings.LastIndexAll
import Derived.Shelf.Strings.Search3
import Derived.Shelf.Small.Wraps
import Derived.Ground.NamesProg
import Derived.Lib.LastIndexLaws
namespace Go.Eng
open Go.Proofs
abbrev vc (c : UInt8) : AV := .v (.int .u8 c.toNat)
theorem u8_le (a : UInt8) (n : Nat) (h : n < 256) : decide (UInt8.ofNat n ≤ a) = decide ((n : Int) ≤ (a.toNat : Int)) := by
  rw [Bool.eq_iff_iff, decide_eq_true_eq, decide_eq_true_eq, UInt8.le_iff_toNat_le, show (UInt8.ofNat n).toNat = n by simp; omega]; omega
theorem u8_ge (a : UInt8) (n : Nat) (h : n < 256) : decide (a ≤ UInt8.ofNat n) = decide ((a.toNat : Int) ≤ (n : Int)) := by
  rw [Bool.eq_iff_iff, decide_eq_true_eq, decide_eq_true_eq, UInt8.le_iff_toNat_le, show (UInt8.ofNat n).toNat = n by simp; omega]; omega
theorem c217 (c : UInt8) : PC 217 [vc c] (vb (smallC c)) := by
  refine pcall_sub (cxp pl0) rfl tab_ok hm rfl Tryz.func217 (by kernel_rfl) rfl (Nz rfl) (by kernel_rfl) ?_
  have e1 : decide ((97 : UInt8) ≤ c) = decide ((97 : Int) ≤ (c.toNat : Int)) := u8_le c 97 (by decide)
  have e2 : decide (c ≤ (122 : UInt8)) = decide ((c.toNat : Int) ≤ (122 : Int)) := u8_ge c 122 (by decide)
  have es : smallC c = (decide ((97 : Int) ≤ (c.toNat : Int)) && decide ((c.toNat : Int) ≤ (122 : Int))) := by unfold smallC; rw [e1, e2]
  refine Yi ?_ ?_
  · intro h
    have h : (97 : Int) ≤ (c.toNat : Int) := h
    refine Yi ?_ ?_
    · intro h2
      have h2 : (c.toNat : Int) ≤ 122 := h2
      exact .of_eq (congrArg vb (show true = smallC c by rw [es, decide_eq_true h, decide_eq_true h2]; rfl))
    · intro h2
      have h2 : ¬ (c.toNat : Int) ≤ 122 := h2
      exact .of_eq (congrArg vb (show false = smallC c by rw [es, decide_eq_false h2, Bool.and_false]))
  · intro h
    have h : ¬ (97 : Int) ≤ (c.toNat : Int) := h
    exact .of_eq (congrArg vb (show false = smallC c by rw [es, decide_eq_false h]; rfl))
theorem c218 (c : UInt8) : PC 218 [vc c] (vb (digitC c)) := by
  refine pcall_sub (cxp pl0) rfl tab_ok hm rfl Tryz.func218 (by kernel_rfl) rfl (Nz rfl) (by kernel_rfl) ?_
  have e1 : decide ((48 : UInt8) ≤ c) = decide ((48 : Int) ≤ (c.toNat : Int)) := u8_le c 48 (by decide)
  have e2 : decide (c ≤ (57 : UInt8)) = decide ((c.toNat : Int) ≤ (57 : Int)) := u8_ge c 57 (by decide)
  have es : digitC c = (decide ((48 : Int) ≤ (c.toNat : Int)) && decide ((c.toNat : Int) ≤ (57 : Int))) := by unfold digitC; rw [e1, e2]
  refine Yi ?_ ?_
  · intro h
    have h : (48 : Int) ≤ (c.toNat : Int) := h
    refine Yi ?_ ?_
    · intro h2
      have h2 : (c.toNat : Int) ≤ 57 := h2
      exact .of_eq (congrArg vb (show true = digitC c by rw [es, decide_eq_true h, decide_eq_true h2]; rfl))
    · intro h2
      have h2 : ¬ (c.toNat : Int) ≤ 57 := h2
      exact .of_eq (congrArg vb (show false = digitC c by rw [es, decide_eq_false h2, Bool.and_false]))
  · intro h
    have h : ¬ (48 : Int) ≤ (c.toNat : Int) := h
    exact .of_eq (congrArg vb (show false = digitC c by rw [es, decide_eq_false h]; rfl))
theorem c261 (c : UInt8) : PC 261 [vc c] (vb (capC c)) := by
  refine pcall_sub (cxp pl0) rfl tab_ok hm rfl Tryz.func261 (by kernel_rfl) rfl (Nz rfl) (by kernel_rfl) ?_
  have e1 : decide ((65 : UInt8) ≤ c) = decide ((65 : Int) ≤ (c.toNat : Int)) := u8_le c 65 (by decide)
  have e2 : decide (c ≤ (90 : UInt8)) = decide ((c.toNat : Int) ≤ (90 : Int)) := u8_ge c 90 (by decide)
  have es : capC c = (decide ((65 : Int) ≤ (c.toNat : Int)) && decide ((c.toNat : Int) ≤ (90 : Int))) := by unfold capC; rw [e1, e2]
  refine Yi ?_ ?_
  · intro h
    have h : (65 : Int) ≤ (c.toNat : Int) := h
    refine Yi ?_ ?_
    · intro h2
      have h2 : (c.toNat : Int) ≤ 90 := h2
      exact .of_eq (congrArg vb (show true = capC c by rw [es, decide_eq_true h, decide_eq_true h2]; rfl))
    · intro h2
      have h2 : ¬ (c.toNat : Int) ≤ 90 := h2
      exact .of_eq (congrArg vb (show false = capC c by rw [es, decide_eq_false h2, Bool.and_false]))
  · intro h
    have h : ¬ (65 : Int) ≤ (c.toNat : Int) := h
    exact .of_eq (congrArg vb (show false = capC c by rw [es, decide_eq_false h]; rfl))
abbrev segC (c : UInt8) : Bool := smallC c || digitC c
theorem c216 (c : UInt8) : PC 216 [vc c] (vb (segC c)) := by
  have h1 := c217 c
  have h2 := c218 c
  rcases Bool.eq_false_or_eq_true (smallC c) with e | e
  · rw [e] at h1
    refine pcall_sub (cxp pl0) rfl tab_ok hm rfl Tryz.func216 (by kernel_rfl) rfl (Nz rfl) (by kernel_rfl) ?_
    refine Xi .pure (Xi _ (Yi (h1) ?_))
    exact .of_eq (congrArg vb (show true = segC c by unfold segC; rw [e]; rfl))
  · rw [e] at h1
    refine pcall_sub (cxp pl0) rfl tab_ok hm rfl Tryz.func216 (by kernel_rfl) rfl (Nz rfl) (by kernel_rfl) ?_
    refine Xi .pure (Xi _ (Yi (h1) ?_))
    refine Xi .pure (Xi _ (Yi (h2) ?_))
    exact .of_eq (congrArg vb (show digitC c = segC c by unfold segC; rw [e]; rfl))
theorem c243 (c : UInt8) : PC 243 [vc c] (vb (wordC c)) := by
  have h1 := c217 c
  have h2 := c261 c
  have h3 := c218 c
  have ew : wordC c = (smallC c || capC c || digitC c || decide (c = 95)) := rfl
  rcases Bool.eq_false_or_eq_true (smallC c) with e | e
  · rw [e] at h1
    refine pcall_sub (cxp pl0) rfl tab_ok hm rfl Tryz.func243 (by kernel_rfl) rfl (Nz rfl) (by kernel_rfl) ?_
    refine Xi .pure (Xi _ (Yi (h1) ?_))
    exact .of_eq (congrArg vb (show true = wordC c by rw [ew, e]; rfl))
  rw [e] at h1
  rcases Bool.eq_false_or_eq_true (capC c) with e2 | e2
  · rw [e2] at h2
    refine pcall_sub (cxp pl0) rfl tab_ok hm rfl Tryz.func243 (by kernel_rfl) rfl (Nz rfl) (by kernel_rfl) ?_
    refine Xi .pure (Xi _ (Yi (h1) ?_))
    refine Xi .pure (Xi _ (Yi (h2) ?_))
    exact .of_eq (congrArg vb (show true = wordC c by rw [ew, e, e2]; rfl))
  rw [e2] at h2
  rcases Bool.eq_false_or_eq_true (digitC c) with e3 | e3
  · rw [e3] at h3
    refine pcall_sub (cxp pl0) rfl tab_ok hm rfl Tryz.func243 (by kernel_rfl) rfl (Nz rfl) (by kernel_rfl) ?_
    refine Xi .pure (Xi _ (Yi (h1) ?_))
    refine Xi .pure (Xi _ (Yi (h2) ?_))
    refine Xi .pure (Xi _ (Yi (h3) ?_))
    exact .of_eq (congrArg vb (show true = wordC c by rw [ew, e, e2, e3]; rfl))
  rw [e3] at h3
  refine pcall_sub (cxp pl0) rfl tab_ok hm rfl Tryz.func243 (by kernel_rfl) rfl (Nz rfl) (by kernel_rfl) ?_
  refine Xi .pure (Xi _ (Yi (h1) ?_))
  refine Xi .pure (Xi _ (Yi (h2) ?_))
  refine Xi .pure (Xi _ (Yi (h3) ?_))
  have eb : decide (c = 95) = decide ((c.toNat : Int) = 95) := by
    rw [Bool.eq_iff_iff, decide_eq_true_eq, decide_eq_true_eq]
    constructor
    · intro h; subst h; rfl
    · intro h; exact UInt8.toNat_inj.1 (by show c.toNat = 95; omega)
  refine Yi ?_ ?_
  · intro h
    have h : (c.toNat : Int) = 95 := h
    exact .of_eq (congrArg vb (show true = wordC c by rw [ew, e, e2, e3, eb, decide_eq_true h]; rfl))
  · intro h
    have h : ¬ (c.toNat : Int) = 95 := h
    exact .of_eq (congrArg vb (show false = wordC c by rw [ew, e, e2, e3, eb, decide_eq_false h]; rfl))
theorem at_data (s : ByteArray) (i : Nat) (h : i < s.data.toList.length) : s.data[i]? = some s.data.toList[i] := by
  rw [← Array.getElem?_toList]; exact List.getElem?_eq_getElem h
theorem c215 (s : ByteArray) (f : Nat) (q : UInt8 → Bool) (hf : ∀ c, PC f [vc c] (vb (q c))) (hs : s.data.toList.length < 4611686018427387904) : PC 215 [vs s, .v (fnV f)] (vb (s.data.toList.all q)) := by
  have hsz : s.size = s.data.toList.length := by simp
  refine pcall_sub (cxp pl0) rfl tab_ok hm rfl Tryz.func215 (by kernel_rfl) rfl (Nz rfl) (by kernel_rfl) ?_
  refine Xi {i : Nat // i ≤ s.data.toList.length ∧ ∀ j (hj : j < s.data.toList.length), j < i → q s.data.toList[j] = true} (Xi (fun i => ⟨[(0, vs s), (1, .v (fnV f)), (7, vi s.size), (8, vi i.1)], [], hfree⟩) (Xi (fun i => s.data.toList.length - i.1) (Yi (Xi ⟨0, Nat.zero_le _, fun j _ h => by omega⟩ ?_) ?_)))
  · exact ⟨⟨Zr, Zr, Zr, Zr, trivial⟩, trivial, fun _ => .inl rfl, trivial⟩
  intro ⟨i, h1, h2⟩
  refine Yi ?_ ?_
  · intro h
    have h : (i : Int) < (s.size : Nat) := h
    have h : i < s.data.toList.length := by omega
    refine Xi s.data.toList[i] (Yi ⟨by show (0 : Int) ≤ i; omega, by show s.data[((i : Nat) : Int).toNat]? = _; rw [Int.toNat_natCast]; exact at_data s i h⟩ ?_)
    have hc := hf s.data.toList[i]
    refine Or.elim (Bool.eq_false_or_eq_true (q s.data.toList[i])) (fun e => ?_) (fun e => ?_)
    · rw [e] at hc
      refine Xi .pure (Xi _ (Yi (hc) ?_))
      refine Yi (by show InI64 ((i : Int) + 1); unfold InI64; omega) ?_
      refine Xi ⟨i + 1, by omega, fun j hj hji => ?_⟩ ?_
      · rcases Nat.lt_or_ge j i with z | z
        · exact h2 j hj z
        · have : j = i := by omega
          subst this; exact e
      · exact ⟨by show s.data.toList.length - (i + 1) < s.data.toList.length - i; omega, ⟨Zr, Zr, Zr, Zr, trivial⟩, trivial, fun _ => .inl rfl, trivial⟩
    · rw [e] at hc
      refine Xi .pure (Xi _ (Yi (hc) ?_))
      have er : s.data.toList.all q = false := by
        rw [Bool.eq_false_iff]
        intro ha
        have := List.all_eq_true.1 ha _ (List.getElem_mem h)
        rw [e] at this; cases this
      exact .of_eq (congrArg vb er.symm)
  · intro h
    have h : ¬ (i : Int) < (s.size : Nat) := h
    have er : s.data.toList.all q = true := List.all_eq_true.2 fun c hc => by
      obtain ⟨j, hj, rfl⟩ := List.getElem_of_mem hc
      exact h2 j hj (by omega)
    exact .of_eq (congrArg vb er.symm)
end Go.Eng

namespace Go.Proofs
open Go.Shelf Go.RowKit Go.Lib
def Tryz.laySplit_ren : Go.Shelf.Ren := ⟨fun | 146 => 212 | 221 => 241 | 268 => 257 | 138 => 258 | 143 => 259 | 195 => 268 | 197 => 269 | 218 => 270 | 219 => 271 | 260 => 274 | 217 => 275 | 225 => 276 | 224 => 277 | 267 => 278 | 266 => 280 | 314 => 281 | n => n, fun | 9 => 9 | 31 => 42 | 3 => 3 | 4 => 4 | 0 => 0 | 105 => 275 | 21 => 21 | 5 => 5 | 46 => 165 | 119 => 278 | 139 => 281 | 138 => 280 | 146 => 263 | 51 => 210 | n => n, fun | 1 => 0 | 3 => 1 | 4 => 2 | n => n⟩
theorem Tryz.laySplit : Go.Proofs.Lays.n146 Tryz.prog Tryz.laySplit_ren := {
  mixed := by kernel_rfl
  f138 := Tryz.func258.trans (congrArg some (by kernel_rfl))
  f143 := Tryz.func259.trans (congrArg some (by kernel_rfl))
  f146 := Tryz.func212.trans (congrArg some (by kernel_rfl))
  f195 := Tryz.func268.trans (congrArg some (by kernel_rfl))
  f197 := Tryz.func269.trans (congrArg some (by kernel_rfl))
  f217 := Tryz.func275.trans (congrArg some (by kernel_rfl))
  f218 := Tryz.func270.trans (congrArg some (by kernel_rfl))
  f219 := Tryz.func271.trans (congrArg some (by kernel_rfl))
  f221 := Tryz.func241.trans (congrArg some (by kernel_rfl))
  f224 := Tryz.func277.trans (congrArg some (by kernel_rfl))
  f225 := Tryz.func276.trans (congrArg some (by kernel_rfl))
  f260 := Tryz.func274.trans (congrArg some (by kernel_rfl))
  f266 := Tryz.func280.trans (congrArg some (by kernel_rfl))
  f267 := Tryz.func278.trans (congrArg some (by kernel_rfl))
  f268 := Tryz.func257.trans (congrArg some (by kernel_rfl))
  f314 := Tryz.func281.trans (congrArg some (by kernel_rfl))
  t0 := Tryz.underlying0
  a0 := Tryz.isAgg0
  z0 := Tryz.sizeOf0
  v0 := Tryz.zeroValue0
  t3 := Tryz.underlying3
  a3 := Tryz.isAgg3
  z3 := Tryz.sizeOf3
  v3 := Tryz.zeroValue3
  t4 := Tryz.underlying4
  a4 := Tryz.isAgg4
  z4 := Tryz.sizeOf4
  v4 := Tryz.zeroValue4
  t5 := Tryz.underlying5
  a5 := Tryz.isAgg5
  z5 := Tryz.sizeOf5
  v5 := Tryz.zeroValue5
  t9 := Tryz.underlying9
  a9 := Tryz.isAgg9
  z9 := Tryz.sizeOf9
  v9 := Tryz.zeroValue9
  t21 := Tryz.underlying21
  a21 := Tryz.isAgg21
  z21 := Tryz.sizeOf21
  v21 := Tryz.zeroValue21
  t31 := Tryz.underlying42
  a31 := Tryz.isAgg42
  z31 := Tryz.sizeOf42
  v31 := Tryz.zeroValue42
  t46 := Tryz.underlying165
  a46 := Tryz.isAgg165
  z46 := Tryz.sizeOf165
  v46 := Tryz.zeroValue165
  t51 := Tryz.underlying210
  a51 := Tryz.isAgg210
  z51 := Tryz.sizeOf210
  v51 := Tryz.zeroValue210
  t105 := Tryz.underlying275
  a105 := Tryz.isAgg275
  z105 := Tryz.sizeOf275
  v105 := Tryz.zeroValue275
  t119 := Tryz.underlying278
  a119 := Tryz.isAgg278
  z119 := Tryz.sizeOf278
  t138 := Tryz.underlying280
  a138 := Tryz.isAgg280
  z138 := Tryz.sizeOf280
  v138 := Tryz.zeroValue280
  t139 := Tryz.underlying281
  a139 := Tryz.isAgg281
  z139 := Tryz.sizeOf281
  v139 := Tryz.zeroValue281
  t146 := Tryz.underlying263
  a146 := Tryz.isAgg263
  z146 := Tryz.sizeOf263
  v146 := Tryz.zeroValue263
  g1 := by kernel_rfl
  g3 := by kernel_rfl
  g4 := by kernel_rfl }
def Tryz.layLast_ren : Go.Shelf.Ren := ⟨fun | 148 => 188 | 222 => 219 | 223 => 220 | 269 => 245 | n => n, fun | 9 => 9 | 3 => 3 | 4 => 4 | 5 => 5 | 146 => 263 | 51 => 210 | 46 => 165 | n => n, fun | n => n⟩
theorem Tryz.layLast : Go.Proofs.Lays.n148 Tryz.prog Tryz.layLast_ren := {
  mixed := by kernel_rfl
  f148 := Tryz.func188.trans (congrArg some (by kernel_rfl))
  f222 := Tryz.func219.trans (congrArg some (by kernel_rfl))
  f223 := Tryz.func220.trans (congrArg some (by kernel_rfl))
  f269 := Tryz.func245.trans (congrArg some (by kernel_rfl))
  t3 := Tryz.underlying3
  a3 := Tryz.isAgg3
  z3 := Tryz.sizeOf3
  v3 := Tryz.zeroValue3
  t4 := Tryz.underlying4
  a4 := Tryz.isAgg4
  z4 := Tryz.sizeOf4
  v4 := Tryz.zeroValue4
  t5 := Tryz.underlying5
  a5 := Tryz.isAgg5
  z5 := Tryz.sizeOf5
  v5 := Tryz.zeroValue5
  t9 := Tryz.underlying9
  a9 := Tryz.isAgg9
  z9 := Tryz.sizeOf9
  v9 := Tryz.zeroValue9
  t46 := Tryz.underlying165
  a46 := Tryz.isAgg165
  z46 := Tryz.sizeOf165
  v46 := Tryz.zeroValue165
  t51 := Tryz.underlying210
  a51 := Tryz.isAgg210
  z51 := Tryz.sizeOf210
  v51 := Tryz.zeroValue210
  t146 := Tryz.underlying263
  a146 := Tryz.isAgg263
  z146 := Tryz.sizeOf263
  v146 := Tryz.zeroValue263 }
def Tryz.layCut_ren : Go.Shelf.Ren := ⟨fun | 103 => 242 | 210 => 260 | 206 => 272 | n => n, fun | 9 => 9 | 4 => 4 | 24 => 134 | 3 => 3 | n => n, fun | n => n⟩
theorem Tryz.layCut : Go.Proofs.Lays.n103 Tryz.prog Tryz.layCut_ren := {
  mixed := by kernel_rfl
  f103 := Tryz.func242.trans (congrArg some (by kernel_rfl))
  f206 := Tryz.func272.trans (congrArg some (by kernel_rfl))
  f210 := Tryz.func260.trans (congrArg some (by kernel_rfl))
  t3 := Tryz.underlying3
  a3 := Tryz.isAgg3
  z3 := Tryz.sizeOf3
  v3 := Tryz.zeroValue3
  t4 := Tryz.underlying4
  a4 := Tryz.isAgg4
  z4 := Tryz.sizeOf4
  v4 := Tryz.zeroValue4
  t9 := Tryz.underlying9
  a9 := Tryz.isAgg9
  z9 := Tryz.sizeOf9
  v9 := Tryz.zeroValue9
  t24 := Tryz.underlying134
  a24 := Tryz.isAgg134
  z24 := Tryz.sizeOf134
  v24 := Tryz.zeroValue134 }
def Tryz.layCont_ren : Go.Shelf.Ren := ⟨fun | 144 => 262 | 143 => 259 | 219 => 271 | 217 => 275 | 225 => 276 | 224 => 277 | 267 => 278 | 266 => 280 | 314 => 281 | n => n, fun | 9 => 9 | 4 => 4 | 3 => 3 | 5 => 5 | 46 => 165 | 146 => 263 | 51 => 210 | n => n, fun | 1 => 0 | n => n⟩
theorem Tryz.layCont : Go.Proofs.Lays.n144 Tryz.prog Tryz.layCont_ren := {
  mixed := by kernel_rfl
  f143 := Tryz.func259.trans (congrArg some (by kernel_rfl))
  f144 := Tryz.func262.trans (congrArg some (by kernel_rfl))
  f217 := Tryz.func275.trans (congrArg some (by kernel_rfl))
  f219 := Tryz.func271.trans (congrArg some (by kernel_rfl))
  f224 := Tryz.func277.trans (congrArg some (by kernel_rfl))
  f225 := Tryz.func276.trans (congrArg some (by kernel_rfl))
  f266 := Tryz.func280.trans (congrArg some (by kernel_rfl))
  f267 := Tryz.func278.trans (congrArg some (by kernel_rfl))
  f314 := Tryz.func281.trans (congrArg some (by kernel_rfl))
  t3 := Tryz.underlying3
  a3 := Tryz.isAgg3
  z3 := Tryz.sizeOf3
  v3 := Tryz.zeroValue3
  t4 := Tryz.underlying4
  a4 := Tryz.isAgg4
  z4 := Tryz.sizeOf4
  v4 := Tryz.zeroValue4
  t5 := Tryz.underlying5
  a5 := Tryz.isAgg5
  z5 := Tryz.sizeOf5
  v5 := Tryz.zeroValue5
  t9 := Tryz.underlying9
  a9 := Tryz.isAgg9
  z9 := Tryz.sizeOf9
  v9 := Tryz.zeroValue9
  t46 := Tryz.underlying165
  a46 := Tryz.isAgg165
  z46 := Tryz.sizeOf165
  v46 := Tryz.zeroValue165
  t51 := Tryz.underlying210
  a51 := Tryz.isAgg210
  z51 := Tryz.sizeOf210
  v51 := Tryz.zeroValue210
  t146 := Tryz.underlying263
  a146 := Tryz.isAgg263
  z146 := Tryz.sizeOf263
  v146 := Tryz.zeroValue263
  g1 := by kernel_rfl }
end Go.Proofs

namespace Go.Eng
open Go.Proofs
abbrev b47 : ByteArray := ⟨#[47]⟩
abbrev partsB (s : ByteArray) : List ByteArray := Go.Lib.splitB b47 0 (Go.Lib.countB s b47) s
theorem parts_eq (s : ByteArray) : (partsB s).map (·.data.toList) = splitL 47 s.data.toList := splitB_eq s 47
abbrev encS (s : ByteArray) : List AV := [vs s]
theorem c212 (s : ByteArray) (hs : FewS s) : PC 212 [vs s, vs b47] (sl encS (partsB s)) := by
  unfold FewS at hs
  have h := pcall_new (P := Tryz.prog) (f := 212) (args := [vs s, vs b47]) [.string s, .string b47] ((partsB s).map Value.string) 9 (ent 212 Tryz.func212 (by kernel_rfl) rfl) rfl (fun x hx => by
    obtain ⟨y, _, rfl⟩ := List.mem_map.1 hx; rfl) (fun w hm => by
    obtain ⟨m, hm⟩ := hm
    have hl : (partsB s).length = Go.Lib.countB s b47 + 1 := Go.Lib.splitB_all b47 (by decide) 0 _ s rfl
    refine (Any.strings_Split Tryz.laySplit (by kernel_rfl) s b47 m w (by omega) hm (by decide)).mono ?_
    rintro e w' ⟨rfl, rfl⟩
    exact ⟨by rw [List.length_map, hl], rfl⟩)
  rw [List.map_map] at h
  exact h
theorem c188 (s p : ByteArray) (hs : FewS s) : PC 188 [vs s, vs p] (vi (Go.Lib.lastIndex s.data.toList p.data.toList)) := by
  unfold FewS at hs
  exact pcall_same [.string s, .string p] (.int .i64 (Go.Lib.lastIndex s.data.toList p.data.toList)) (ent 188 Tryz.func188 (by kernel_rfl) rfl) rfl (fun g w => .v _ _) fun w _ => Any.strings_LastIndex Tryz.layLast s p (by omega) w
theorem c242 (s p : ByteArray) : PC 242 [vs s, vs p] (.tup [vs ⟨(Go.Lib.trimPrefix s.data.toList p.data.toList).toArray⟩, vb (Go.Lib.hasPrefix s.data.toList p.data.toList)]) := by
  exact pcall_same [.string s, .string p] _ (ent 242 Tryz.func242 (by kernel_rfl) rfl) rfl (fun g w => rep_vals [.string ⟨(Go.Lib.trimPrefix s.data.toList p.data.toList).toArray⟩, .bool (Go.Lib.hasPrefix s.data.toList p.data.toList)]) fun w _ => Any.strings_CutPrefix Tryz.layCut s p w
theorem c262 (s p : ByteArray) (hs : FewS s) : PC 262 [vs s, vs p] (vb (Go.Lib.contains s.data.toList p.data.toList)) := by
  unfold FewS at hs
  exact pcall_same [.string s, .string p] (.bool (Go.Lib.contains s.data.toList p.data.toList)) (ent 262 Tryz.func262 (by kernel_rfl) rfl) rfl (fun g w => .v _ _) fun w hm => by
    obtain ⟨m, hm⟩ := hm
    exact Any.strings_Contains Tryz.layCont s p m w (by omega) hm
end Go.Eng

namespace Go.Eng
open Go.Proofs
theorem preL_eq : ∀ x y : List UInt8, preL x y = x.isPrefixOf y
  | [], _ => by simp [preL]
  | _ :: _, [] => rfl
  | a :: x, b :: y => by
    rw [preL, List.isPrefixOf_cons_cons, preL_eq x y]
    rfl
theorem inL_eq (x : List UInt8) : ∀ y : List UInt8, inL x y = Go.Lib.contains y x
  | [] => by
    unfold Go.Lib.contains Go.Lib.index
    cases x <;> rfl
  | b :: y => by
    rw [inL, preL_eq, inL_eq x y]
    unfold Go.Lib.contains
    have hg := Go.Lib.index_ge y x
    conv => rhs; unfold Go.Lib.index
    cases h : x.isPrefixOf (b :: y) with
    | true => simp
    | false =>
      simp only [Bool.false_or, Bool.false_eq_true, if_false]
      by_cases h0 : Go.Lib.index y x = -1
      · rw [h0]; rfl
      · have h1 : (Go.Lib.index y x == -1) = false := by simpa using h0
        rw [h1]
        simp only [Bool.false_eq_true, if_false]
        rw [decide_eq_true (by omega), decide_eq_true (by omega)]
theorem headD_zero : ∀ (l : List UInt8) (h : 0 < l.length), l.headD 0 = l[0]
  | [], h => by simp at h
  | _ :: _, _ => rfl
abbrev keyBA : ByteArray := ⟨⟨keyTxt⟩⟩
theorem c244 (s : ByteArray) (hs : FewS s) : PC 244 [vs s] (vb (keyB s.data.toList)) := by
  unfold FewS at hs
  have hc := c262 keyBA ((⟨#[32]⟩ ++ s) ++ ⟨#[32]⟩) (Nat.le_of_ble_eq_true (by kernel_rfl))
  have e : Go.Lib.contains keyBA.data.toList ((⟨#[32]⟩ ++ s : ByteArray) ++ ⟨#[32]⟩).data.toList = keyB s.data.toList := by
    unfold keyB
    rw [inL_eq]
    congr 1
  rw [e] at hc
  refine pcall_sub (cxp pl0) rfl tab_ok hm rfl Tryz.func244 (by kernel_rfl) rfl (Nz rfl) (by kernel_rfl) ?_
  refine Yi (by show (((1 + s.size : Nat)) : Int) ≤ _; omega) ?_
  refine Yi (by show (((⟨#[32]⟩ ++ s : ByteArray).size + 1 : Nat) : Int) ≤ _; rw [ByteArray.size_append]; show (((1 + s.size) + 1 : Nat) : Int) ≤ _; omega) ?_
  refine Xi .pure (Xi _ (Yi (hc) ?_))
  exact .refl _
theorem c214 (s : ByteArray) (hs : FewS s) : PC 214 [vs s] (vb (isNameL s.data.toList)) := by
  have hk := c244 s hs
  have hw := c215 s 243 wordC c243 (by unfold FewS at hs; simp; omega)
  have hsz : s.size = s.data.toList.length := by simp
  have en : isNameL s.data.toList = (!s.data.toList.isEmpty && decide (s.data.toList.length ≤ 32) && smallC (s.data.toList.headD 0) && s.data.toList.all wordC && !keyB s.data.toList) := rfl
  by_cases h0 : s = ⟨#[]⟩
  · subst h0
    refine pcall_sub (cxp pl0) rfl tab_ok hm rfl Tryz.func214 (by kernel_rfl) rfl (Nz rfl) (by kernel_rfl) ?_
    refine Yi ?_ ?_
    · intro h; exact absurd rfl (show (⟨#[]⟩ : ByteArray) ≠ ⟨#[]⟩ from h)
    · intro _; exact .refl _
  have h0' : s.data.toList ≠ [] := fun e => h0 (by
    have : s.data = #[] := by rw [← Array.toList_inj]; exact e
    cases s; simp_all)
  have hlen : 0 < s.data.toList.length := List.length_pos_iff.2 h0'
  have hemp : s.data.toList.isEmpty = false := by
    cases hl : s.data.toList with
    | nil => exact absurd hl h0'
    | cons a l => rfl
  have hhd : s.data.toList.headD 0 = s.data.toList[0] := headD_zero _ hlen
  have hsm := c217 s.data.toList[0]
  refine pcall_sub (cxp pl0) rfl tab_ok hm rfl Tryz.func214 (by kernel_rfl) rfl (Nz rfl) (by kernel_rfl) ?_
  refine Yi ?_ ?_
  rotate_left
  · intro h; exact absurd h0 h
  intro _
  refine Yi ?_ ?_
  rotate_left
  · intro h
    have h : ¬ ((s.size : Nat) : Int) ≤ 32 := h
    exact .of_eq (congrArg vb (show false = isNameL s.data.toList by rw [en, decide_eq_false (by omega : ¬ s.data.toList.length ≤ 32)]; simp))
  intro h
  have h : ((s.size : Nat) : Int) ≤ 32 := h
  refine Xi s.data.toList[0] (Yi ⟨Int.le_refl _, at_data s 0 hlen⟩ ?_)
  refine Or.elim (Bool.eq_false_or_eq_true (smallC s.data.toList[0])) (fun e1 => ?_) (fun e1 => ?_)
  rotate_left
  · rw [e1] at hsm
    refine Xi .pure (Xi _ (Yi (hsm) ?_))
    exact .of_eq (congrArg vb (show false = isNameL s.data.toList by rw [en, hhd, e1]; simp))
  rw [e1] at hsm
  refine Xi .pure (Xi _ (Yi (hsm) ?_))
  refine Or.elim (Bool.eq_false_or_eq_true (s.data.toList.all wordC)) (fun e2 => ?_) (fun e2 => ?_)
  rotate_left
  · rw [e2] at hw
    refine Xi .pure (Xi _ (Yi (hw) ?_))
    exact .of_eq (congrArg vb (show false = isNameL s.data.toList by rw [en, e2]; simp))
  rw [e2] at hw
  refine Xi .pure (Xi _ (Yi (hw) ?_))
  have ef : isNameL s.data.toList = !keyB s.data.toList := by rw [en, hemp, hhd, e1, e2, decide_eq_true (by omega : s.data.toList.length ≤ 32)]; rfl
  refine Or.elim (Bool.eq_false_or_eq_true (keyB s.data.toList)) (fun e3 => ?_) (fun e3 => ?_)
  · rw [e3] at hk
    refine Xi .pure (Xi _ (Yi (hk) ?_))
    exact .of_eq (congrArg vb (show false = isNameL s.data.toList by rw [ef, e3]; rfl))
  · rw [e3] at hk
    refine Xi .pure (Xi _ (Yi (hk) ?_))
    exact .of_eq (congrArg vb (show true = isNameL s.data.toList by rw [ef, e3]; rfl))
end Go.Eng

namespace Go.Eng
open Go.Proofs
abbrev verV : Option Int → AV
  | some n => .tup [vi n, vb true]
  | none => .tup [vi 0, vb false]
theorem wrap_u8 {z : Int} (h0 : 0 ≤ z) (h1 : z < 256) : IntKind.u8.wrap z = z := by
  show z % 256 = z
  omega
theorem digit_rng {c : UInt8} (h : digitC c = true) : 48 ≤ c.toNat ∧ c.toNat ≤ 57 := by
  unfold digitC at h
  simp only [Bool.and_eq_true, decide_eq_true_eq] at h
  exact ⟨UInt8.le_iff_toNat_le.1 h.1, UInt8.le_iff_toNat_le.1 h.2⟩
theorem numL_take (r : List UInt8) (i : Nat) (h : i < r.length) : numL (r.take (i + 1)) = 10 * numL (r.take i) + ((r[i].toNat : Int) - 48) := by
  unfold numL; rw [List.take_add_one, List.getElem?_eq_getElem h, List.foldl_append]; rfl
theorem c213 (s : ByteArray) (hs : FewS s) : PC 213 [vs s] (verV (verL s.data.toList)) := by
  unfold FewS at hs
  have hc := c242 s ⟨#[118]⟩
  by_cases hp : ∃ r, s.data.toList = 118 :: r
  · obtain ⟨r, hr⟩ := hp
    have e1 : Go.Lib.hasPrefix s.data.toList (⟨#[118]⟩ : ByteArray).data.toList = true := by rw [hr]; rfl
    have e2 : Go.Lib.trimPrefix s.data.toList (⟨#[118]⟩ : ByteArray).data.toList = r := by unfold Go.Lib.trimPrefix; rw [e1, if_pos rfl, hr]; rfl
    rw [e1, e2] at hc
    have hv : verL s.data.toList = if (r.isEmpty || decide (3 < r.length) || (decide (1 < r.length) && decide (r.headD 0 = 48)) || !r.all digitC) = true then none else some (numL r) := by rw [hr]; rfl
    have hrl : r.length < s.size := by
      have : s.size = s.data.toList.length := by simp
      rw [this, hr]; simp
    generalize hB : (⟨r.toArray⟩ : ByteArray) = rB at hc
    have hBl : rB.data.toList = r := by rw [← hB]
    have hBs : rB.size = r.length := by rw [← hB]; rfl
    have hw := c215 rB 218 digitC c218 (by rw [hBl]; omega)
    rw [hBl] at hw
    have no : ∀ {b : Bool}, b = true → (if b = true then none else some (numL r)) = (none : Option Int) := fun h => if_pos h
    refine pcall_sub (cxp (plcut [2, 4])) rfl tab_ok hm rfl Tryz.func213 (by kernel_rfl) rfl (Nz rfl) (by kernel_rfl) ?_
    refine Xi .pure (Xi _ (Yi (hc) ?_))
    refine Xi ⟨[(0, vs rB), (4, vb true)], [], hfree⟩ (Yi ?_ ?_)
    · exact ⟨⟨Zr, Zr, trivial⟩, trivial, fun _ => .inl rfl, trivial⟩
    refine Yi ?_ ?_
    · intro h
      have h : rB = ⟨#[]⟩ := h
      have : r = [] := by rw [← hBl, h]
      exact .of_eq (congrArg verV (show (none : Option Int) = verL s.data.toList by rw [hv, this]; rfl))
    intro h
    have h : ¬ rB = ⟨#[]⟩ := h
    have hne : r ≠ [] := fun e => h (by rw [← hB, e])
    have hlen : 0 < r.length := List.length_pos_iff.2 hne
    have hemp : r.isEmpty = false := by
      cases hl : r with
      | nil => exact absurd hl hne
      | cons a l => rfl
    refine Yi ?_ ?_
    · intro h2
      have h2 : (3 : Int) < ((rB.size : Nat) : Int) := h2
      exact .of_eq (congrArg verV (show (none : Option Int) = verL s.data.toList by rw [hv, no]; rw [decide_eq_true (by omega : 3 < r.length)]; simp))
    intro h2
    have h2 : ¬ (3 : Int) < ((rB.size : Nat) : Int) := h2
    have hl3 : r.length ≤ 3 := by omega
    have d3 : decide (3 < r.length) = false := decide_eq_false (by omega)
    refine Yi ?_ ?_
    · intro h3
      have h3 : (1 : Int) < ((rB.size : Nat) : Int) := h3
      have hat0 : rB.data[(0 : Int).toNat]? = some r[0] := by
        show rB.data[0]? = _
        rw [← Array.getElem?_toList, hBl]; exact List.getElem?_eq_getElem hlen
      refine Xi r[0] (Yi ⟨Int.le_refl _, hat0⟩ ?_)
      have hh := headD_zero r hlen
      refine Yi ?_ ?_
      · intro h4
        have h4 : (r[0].toNat : Int) = 48 := h4
        have : r[0] = 48 := UInt8.toNat_inj.1 (by show r[0].toNat = 48; omega)
        exact .of_eq (congrArg verV (show (none : Option Int) = verL s.data.toList by rw [hv, hh, this, decide_eq_true (by omega : 1 < r.length)]; simp))
      intro h4
      have h4 : ¬ (r[0].toNat : Int) = 48 := h4
      have eo : (decide (1 < r.length) && decide (r.headD 0 = 48)) = false := by rw [hh, decide_eq_false (show ¬ r[0] = 48 from fun e => h4 (by rw [e]; rfl)), Bool.and_false]
      have hv2 : verL s.data.toList = if (!r.all digitC) = true then none else some (numL r) := by rw [hv, hemp, d3, eo]; rfl
      refine Or.elim (Bool.eq_false_or_eq_true (r.all digitC)) (fun e3 => ?_) (fun e3 => ?_)
      rotate_left
      · rw [e3] at hw
        refine Xi .pure (Xi _ (Yi (hw) ?_))
        exact .of_eq (congrArg verV (show (none : Option Int) = verL s.data.toList by rw [hv2, e3]; rfl))
      rw [e3] at hw
      refine Xi .pure (Xi _ (Yi (hw) ?_))
      have hv3 : verL s.data.toList = some (numL r) := by rw [hv2, e3]; rfl
      refine Xi ⟨[(0, vs rB)], [], hfree⟩ (Yi ?_ ?_)
      · exact ⟨⟨Zr, trivial⟩, trivial, fun _ => .inl rfl, trivial⟩
      have z0 : numL (r.take 0) = 0 := rfl
      refine Xi {i : Nat // i ≤ r.length ∧ 0 ≤ numL (r.take i) ∧ (i = 0 → numL (r.take i) ≤ 0) ∧ (i ≤ 1 → numL (r.take i) ≤ 9) ∧ (i ≤ 2 → numL (r.take i) ≤ 99) ∧ numL (r.take i) ≤ 999} (Xi (fun i => ⟨[(0, vs rB), (5, vi (numL (r.take i.1))), (39, vi rB.size), (40, vi i.1)], [], hfree⟩) (Xi (fun i => r.length - i.1) (Yi (Xi ⟨0, Nat.zero_le _, by omega, fun _ => by omega, fun _ => by omega, fun _ => by omega, by omega⟩ ?_) ?_)))
      · exact ⟨⟨Zr, Zr, Zr, Zr, trivial⟩, trivial, fun _ => .inl rfl, trivial⟩
      intro ⟨i, i1, i2, i3, i4, i5, i6⟩
      refine Yi ?_ ?_
      · intro h
        have h : (i : Int) < (rB.size : Nat) := h
        have h : i < r.length := by omega
        have hdg : digitC r[i] = true := List.all_eq_true.1 e3 _ (List.getElem_mem h)
        have hdr := digit_rng hdg
        have hnx := numL_take r i h
        have hwr : IntKind.u8.wrap ((r[i].toNat : Int) - 48) = (r[i].toNat : Int) - 48 := wrap_u8 (by omega) (by omega)
        have hat : rB.data[((i : Nat) : Int).toNat]? = some r[i] := by rw [Int.toNat_natCast, ← Array.getElem?_toList, hBl]; exact List.getElem?_eq_getElem h
        refine Yi (by show InI64 (10 * numL (r.take i)); unfold InI64; omega) ?_
        refine Xi r[i] (Yi ⟨by show (0 : Int) ≤ i; omega, hat⟩ ?_)
        refine Yi (by show InI64 (IntKind.u8.wrap ((r[i].toNat : Int) - 48)); rw [hwr]; unfold InI64; omega) ?_
        refine Yi (by show InI64 (10 * numL (r.take i) + IntKind.u8.wrap ((r[i].toNat : Int) - 48)); rw [hwr]; unfold InI64; omega) ?_
        refine Yi (by show InI64 ((i : Int) + 1); unfold InI64; omega) ?_
        have e5 : vi (10 * numL (r.take i) + IntKind.u8.wrap ((r[i].toNat : Int) - 48)) = vi (numL (r.take (i + 1))) := by rw [hwr, hnx]
        refine Xi ⟨i + 1, by omega, by omega, fun _ => by omega, fun _ => by omega, fun _ => by omega, by omega⟩ ?_
        exact ⟨by show r.length - (i + 1) < r.length - i; omega, ⟨Zr, ⟨e5, rfl⟩, Zr, Zr, trivial⟩, trivial, fun _ => .inl rfl, trivial⟩
      · intro h
        have h : ¬ (i : Int) < (rB.size : Nat) := h
        have e6 : AV.tup [vi (numL (r.take i)), vb true] = verV (verL s.data.toList) := by rw [hv3, List.take_of_length_le (by omega)]
        exact .of_eq e6
    · intro h3
      have h3 : ¬ (1 : Int) < ((rB.size : Nat) : Int) := h3
      have eo : (decide (1 < r.length) && decide (r.headD 0 = 48)) = false := by rw [decide_eq_false (by omega : ¬ 1 < r.length)]; rfl
      have hv2 : verL s.data.toList = if (!r.all digitC) = true then none else some (numL r) := by rw [hv, hemp, d3, eo]; rfl
      refine Or.elim (Bool.eq_false_or_eq_true (r.all digitC)) (fun e3 => ?_) (fun e3 => ?_)
      rotate_left
      · rw [e3] at hw
        refine Xi .pure (Xi _ (Yi (hw) ?_))
        exact .of_eq (congrArg verV (show (none : Option Int) = verL s.data.toList by rw [hv2, e3]; rfl))
      rw [e3] at hw
      refine Xi .pure (Xi _ (Yi (hw) ?_))
      have hv3 : verL s.data.toList = some (numL r) := by rw [hv2, e3]; rfl
      refine Xi ⟨[(0, vs rB)], [], hfree⟩ (Yi ?_ ?_)
      · exact ⟨⟨Zr, trivial⟩, trivial, fun _ => .inl rfl, trivial⟩
      have z0 : numL (r.take 0) = 0 := rfl
      refine Xi {i : Nat // i ≤ r.length ∧ 0 ≤ numL (r.take i) ∧ (i = 0 → numL (r.take i) ≤ 0) ∧ (i ≤ 1 → numL (r.take i) ≤ 9) ∧ (i ≤ 2 → numL (r.take i) ≤ 99) ∧ numL (r.take i) ≤ 999} (Xi (fun i => ⟨[(0, vs rB), (5, vi (numL (r.take i.1))), (39, vi rB.size), (40, vi i.1)], [], hfree⟩) (Xi (fun i => r.length - i.1) (Yi (Xi ⟨0, Nat.zero_le _, by omega, fun _ => by omega, fun _ => by omega, fun _ => by omega, by omega⟩ ?_) ?_)))
      · exact ⟨⟨Zr, Zr, Zr, Zr, trivial⟩, trivial, fun _ => .inl rfl, trivial⟩
      intro ⟨i, i1, i2, i3, i4, i5, i6⟩
      refine Yi ?_ ?_
      · intro h
        have h : (i : Int) < (rB.size : Nat) := h
        have h : i < r.length := by omega
        have hdg : digitC r[i] = true := List.all_eq_true.1 e3 _ (List.getElem_mem h)
        have hdr := digit_rng hdg
        have hnx := numL_take r i h
        have hwr : IntKind.u8.wrap ((r[i].toNat : Int) - 48) = (r[i].toNat : Int) - 48 := wrap_u8 (by omega) (by omega)
        have hat : rB.data[((i : Nat) : Int).toNat]? = some r[i] := by rw [Int.toNat_natCast, ← Array.getElem?_toList, hBl]; exact List.getElem?_eq_getElem h
        refine Yi (by show InI64 (10 * numL (r.take i)); unfold InI64; omega) ?_
        refine Xi r[i] (Yi ⟨by show (0 : Int) ≤ i; omega, hat⟩ ?_)
        refine Yi (by show InI64 (IntKind.u8.wrap ((r[i].toNat : Int) - 48)); rw [hwr]; unfold InI64; omega) ?_
        refine Yi (by show InI64 (10 * numL (r.take i) + IntKind.u8.wrap ((r[i].toNat : Int) - 48)); rw [hwr]; unfold InI64; omega) ?_
        refine Yi (by show InI64 ((i : Int) + 1); unfold InI64; omega) ?_
        have e5 : vi (10 * numL (r.take i) + IntKind.u8.wrap ((r[i].toNat : Int) - 48)) = vi (numL (r.take (i + 1))) := by rw [hwr, hnx]
        refine Xi ⟨i + 1, by omega, by omega, fun _ => by omega, fun _ => by omega, fun _ => by omega, by omega⟩ ?_
        exact ⟨by show r.length - (i + 1) < r.length - i; omega, ⟨Zr, ⟨e5, rfl⟩, Zr, Zr, trivial⟩, trivial, fun _ => .inl rfl, trivial⟩
      · intro h
        have h : ¬ (i : Int) < (rB.size : Nat) := h
        have e6 : AV.tup [vi (numL (r.take i)), vb true] = verV (verL s.data.toList) := by rw [hv3, List.take_of_length_le (by omega)]
        exact .of_eq e6
  · have e1 : Go.Lib.hasPrefix s.data.toList (⟨#[118]⟩ : ByteArray).data.toList = false := by
      cases hl : s.data.toList with
      | nil => rfl
      | cons a l =>
        have : a ≠ 118 := fun e => hp ⟨l, by rw [hl, e]⟩
        show (List.isPrefixOf [118] (a :: l)) = false
        rw [List.isPrefixOf_cons_cons]
        have : ((118 : UInt8) == a) = false := by rw [beq_eq_false_iff_ne]; exact fun e => this e.symm
        rw [this]; rfl
    have hv : verL s.data.toList = none := by
      cases hl : s.data.toList with
      | nil => rfl
      | cons a l =>
        have : a ≠ 118 := fun e => hp ⟨l, by rw [hl, e]⟩
        show (if a = 118 then _ else none) = none
        rw [if_neg this]
    rw [e1] at hc
    refine pcall_sub (cxp pl0) rfl tab_ok hm rfl Tryz.func213 (by kernel_rfl) rfl (Nz rfl) (by kernel_rfl) ?_
    refine Xi .pure (Xi _ (Yi (hc) ?_))
    exact .of_eq (congrArg verV hv.symm)
end Go.Eng

namespace Go.Eng
open Go.Proofs
abbrev majV : Option Int → AV
  | some n => .tup [vi n, vi 0]
  | none => .tup [vi 0, vi 4]
theorem splitL_len (c : UInt8) : ∀ (s x : List UInt8), x ∈ splitL c s → x.length ≤ s.length
  | [], x, h => by
    rw [splitL] at h; rw [List.mem_singleton.1 h]; exact Nat.le_refl _
  | b :: r, x, h => by
    have ih := splitL_len c r
    rw [splitL] at h
    split at h
    · rcases List.mem_cons.1 h with rfl | h
      · exact Nat.zero_le _
      · have := ih x h; rw [List.length_cons]; omega
    · split at h
      · rw [List.mem_singleton.1 h]; rw [List.length_cons]; simp
      · rename_i y l e
        rcases List.mem_cons.1 h with rfl | h
        · have := ih y (by rw [e]; exact List.mem_cons_self ..); rw [List.length_cons, List.length_cons]; omega
        · have := ih x (by rw [e]; exact List.mem_cons_of_mem _ h); rw [List.length_cons]; omega
theorem part_few {p x : ByteArray} (hp : FewS p) (hx : x ∈ partsB p) : FewS x := by
  have h : x.data.toList ∈ splitL 47 p.data.toList := by rw [← parts_eq]; exact List.mem_map.2 ⟨x, hx, rfl⟩
  have := splitL_len 47 _ _ h
  unfold FewS at *
  have e1 : x.size = x.data.toList.length := by simp
  have e2 : p.size = p.data.toList.length := by simp
  omega
theorem parts_len (p : ByteArray) : (partsB p).length = (splitL 47 p.data.toList).length := by rw [← parts_eq, List.length_map]
theorem parts_pos (p : ByteArray) : 0 < (partsB p).length := by
  rw [show (partsB p).length = Go.Lib.countB p b47 + 1 from Go.Lib.splitB_all b47 (by decide) 0 _ p rfl]; omega
theorem parts_few (p : ByteArray) : (partsB p).length ≤ p.size + 1 := by
  rw [show (partsB p).length = Go.Lib.countB p b47 + 1 from Go.Lib.splitB_all b47 (by decide) 0 _ p rfl]
  have := Go.Lib.countB_le b47 (by decide) p.size p (Nat.le_refl _); omega
theorem parts_last (p : ByteArray) (h : (partsB p).length - 1 < (partsB p).length) : (splitL 47 p.data.toList).getLastD [] = ((partsB p)[(partsB p).length - 1]).data.toList := by
  rw [← parts_eq, List.getLastD_eq_getLast?, List.getLast?_eq_getElem?, List.length_map, List.getElem?_map, List.getElem?_eq_getElem h]; rfl
theorem parts_all (p : ByteArray) : (splitL 47 p.data.toList).all segOk = (partsB p).all fun x => segOk x.data.toList := by
  rw [← parts_eq, List.all_map]; rfl
theorem c186 (p : ByteArray) (hp : FewS p) : PC 186 [vs p] (majV (pathMajor p)) := by
  have hps := parts_few p
  have hpos := parts_pos p
  have hp1 : (partsB p).length - 1 < (partsB p).length := by omega
  have hsz : p.size = p.data.toList.length := by simp
  have hfp : ∀ {x}, x ∈ partsB p → FewS x := fun h => part_few hp h
  unfold FewS at hp
  have hg1 : ((partsB p).map encS)[((((partsB p).map encS).length : Int) - 1).toNat]? = some (encS (partsB p)[(partsB p).length - 1]) := by
    rw [List.length_map, show (((partsB p).length : Int) - 1).toNat = (partsB p).length - 1 by omega]; exact map_at (List.getElem?_eq_getElem hp1)
  have hv := c213 (partsB p)[(partsB p).length - 1] (hfp (List.getElem_mem hp1))
  have em : pathMajor p = match verL ((partsB p)[(partsB p).length - 1]).data.toList with
    | none => none
    | some n => if (decide (64 < p.data.toList.length) || decide ((partsB p).length < 2)) = true then none else if ((partsB p).all fun x => segOk x.data.toList) = true then some n else none := by
    unfold pathMajor majorL
    rw [parts_last p hp1, parts_all, ← parts_len]
    cases verL ((partsB p)[(partsB p).length - 1]).data.toList with
    | none => rfl
    | some n => rfl
  cases hve : verL ((partsB p)[(partsB p).length - 1]).data.toList with
  | none =>
    rw [hve] at hv em
    refine pcall_sub (cxp (plcut [2, 3])) rfl tab_ok hm rfl Tryz.func186 (by kernel_rfl) rfl (Nz rfl) (by kernel_rfl) ?_
    refine Xi .pure (Xi _ (Yi (c212 p hp) ?_))
    refine Xi ⟨[(0, vs p), (4, sl encS (partsB p))], [], hfree⟩ (Yi ?_ ?_)
    · exact ⟨⟨Zr, Zr, trivial⟩, trivial, fun _ => .inl rfl, trivial⟩
    refine Yi (by show InI64 ((((partsB p).map encS).length : Int) - 1); unfold InI64; rw [List.length_map]; omega) ?_
    refine Xi (encS (partsB p)[(partsB p).length - 1]) (Yi (Yi (by show (0 : Int) ≤ (((partsB p).map encS).length : Int) - 1; rw [List.length_map]; omega) hg1) (Yi rfl ?_))
    refine Xi .pure (Xi _ (Yi (hv) ?_))
    refine Xi ⟨[(0, vs p), (4, sl encS (partsB p)), (5, vi 0), (6, vb false)], [], hfree⟩ (Yi ?_ ?_)
    · exact ⟨⟨Zr, Zr, Zr, Zr, trivial⟩, trivial, fun _ => .inl rfl, trivial⟩
    exact .of_eq (congrArg majV em.symm)
  | some n =>
    rw [hve] at hv em
    have em : pathMajor p = if (decide (64 < p.data.toList.length) || decide ((partsB p).length < 2)) = true then none else if ((partsB p).all fun x => segOk x.data.toList) = true then some n else none := em
    refine pcall_sub (cxp (plcut [2, 3, 5])) rfl tab_ok hm rfl Tryz.func186 (by kernel_rfl) rfl (Nz rfl) (by kernel_rfl) ?_
    refine Xi .pure (Xi _ (Yi (c212 p hp) ?_))
    refine Xi ⟨[(0, vs p), (4, sl encS (partsB p))], [], hfree⟩ (Yi ?_ ?_)
    · exact ⟨⟨Zr, Zr, trivial⟩, trivial, fun _ => .inl rfl, trivial⟩
    refine Yi (by show InI64 ((((partsB p).map encS).length : Int) - 1); unfold InI64; rw [List.length_map]; omega) ?_
    refine Xi (encS (partsB p)[(partsB p).length - 1]) (Yi (Yi (by show (0 : Int) ≤ (((partsB p).map encS).length : Int) - 1; rw [List.length_map]; omega) hg1) (Yi rfl ?_))
    refine Xi .pure (Xi _ (Yi (hv) ?_))
    refine Xi ⟨[(0, vs p), (4, sl encS (partsB p)), (5, vi n), (6, vb true)], [], hfree⟩ (Yi ?_ ?_)
    · exact ⟨⟨Zr, Zr, Zr, Zr, trivial⟩, trivial, fun _ => .inl rfl, trivial⟩
    refine Yi ?_ ?_
    · intro h
      have h : (64 : Int) < ((p.size : Nat) : Int) := h
      exact .of_eq (congrArg majV (show (none : Option Int) = pathMajor p by rw [em, decide_eq_true (by omega : 64 < p.data.toList.length)]; rfl))
    intro h
    have h : ¬ (64 : Int) < ((p.size : Nat) : Int) := h
    have d1 : decide (64 < p.data.toList.length) = false := decide_eq_false (by omega)
    refine Yi ?_ ?_
    · intro h2
      have h2 : (((partsB p).map encS).length : Int) < 2 := h2
      rw [List.length_map] at h2
      exact .of_eq (congrArg majV (show (none : Option Int) = pathMajor p by rw [em, d1, decide_eq_true (by omega : (partsB p).length < 2)]; rfl))
    intro h2
    have h2 : ¬ (((partsB p).map encS).length : Int) < 2 := h2
    have d2 : decide ((partsB p).length < 2) = false := decide_eq_false (by rw [List.length_map] at h2; omega)
    have em2 : pathMajor p = if ((partsB p).all fun x => segOk x.data.toList) = true then some n else none := by rw [em, d1, d2]; rfl
    refine Xi ⟨[(4, sl encS (partsB p)), (5, vi n)], [], hfree⟩ (Yi ?_ ?_)
    · exact ⟨⟨Zr, Zr, trivial⟩, trivial, fun _ => .inl rfl, trivial⟩
    refine Xi {i : Nat // i ≤ (partsB p).length ∧ ∀ j (hj : j < (partsB p).length), j < i → segOk ((partsB p)[j]).data.toList = true} (Xi (fun i => ⟨[(5, vi n), (33, sl encS (partsB p)), (34, vi ((partsB p).map encS).length), (35, vi i.1)], [], hfree⟩) (Xi (fun i => (partsB p).length - i.1) (Yi (Xi ⟨0, Nat.zero_le _, fun j _ h => by omega⟩ ?_) ?_)))
    · exact ⟨⟨Zr, Zr, Zr, Zr, trivial⟩, trivial, fun _ => .inl rfl, trivial⟩
    intro ⟨i, i1, i2⟩
    refine Yi ?_ ?_
    · intro h
      have h : (i : Int) < ((partsB p).map encS).length := h
      have h : i < (partsB p).length := by simpa using h
      have hg : (partsB p)[i]? = some (partsB p)[i] := List.getElem?_eq_getElem h
      refine Xi (encS (partsB p)[i]) (Yi (Yi (by show (0 : Int) ≤ i; omega) (by simp [hg])) (Yi rfl ?_))
      have hfi := hfp (List.getElem_mem h)
      have hn := c214 (partsB p)[i] hfi
      have ha := c215 (partsB p)[i] 216 segC c216 (by unfold FewS at hfi; have e1 : (partsB p)[i].size = (partsB p)[i].data.toList.length := by simp
                                                      omega)
      have no : segOk ((partsB p)[i]).data.toList = false → (none : Option Int) = pathMajor p := fun e => by
        rw [em2, if_neg]
        intro hall
        have := List.all_eq_true.1 hall _ (List.getElem_mem h)
        rw [e] at this; cases this
      refine Or.elim (Bool.eq_false_or_eq_true (isNameL ((partsB p)[i]).data.toList)) (fun e1 => ?_) (fun e1 => ?_)
      rotate_left
      · rw [e1] at hn
        refine Xi .pure (Xi _ (Yi (hn) ?_))
        exact .of_eq (congrArg majV (no (by unfold segOk; rw [e1]; rfl)))
      rw [e1] at hn
      refine Xi .pure (Xi _ (Yi (hn) ?_))
      refine Or.elim (Bool.eq_false_or_eq_true (((partsB p)[i]).data.toList.all segC)) (fun e2 => ?_) (fun e2 => ?_)
      rotate_left
      · rw [e2] at ha
        refine Xi .pure (Xi _ (Yi (ha) ?_))
        exact .of_eq (congrArg majV (no (by unfold segOk; rw [e1]; exact e2)))
      rw [e2] at ha
      refine Xi .pure (Xi _ (Yi (ha) ?_))
      refine Yi (by show InI64 ((i : Int) + 1); unfold InI64; omega) ?_
      refine Xi ⟨i + 1, by omega, fun j hj hji => ?_⟩ ?_
      · rcases Nat.lt_or_ge j i with z | z
        · exact i2 j hj z
        · have : j = i := by omega
          subst this; unfold segOk; rw [e1]; exact e2
      · exact ⟨by show (partsB p).length - (i + 1) < (partsB p).length - i; omega, ⟨Zr, Zr, Zr, Zr, trivial⟩, trivial, fun _ => .inl rfl, trivial⟩
    · intro h
      have h : ¬ (i : Int) < ((partsB p).map encS).length := h
      have h : ¬ i < (partsB p).length := by simpa using h
      have e : some n = pathMajor p := by
        rw [em2, if_pos]
        exact List.all_eq_true.2 fun x hx => by
          obtain ⟨j, hj, rfl⟩ := List.getElem_of_mem hx
          exact i2 j hj (by omega)
      exact .of_eq (congrArg majV e)
end Go.Eng

namespace Go.Eng
open Go.Proofs
theorem c187 (p : ByteArray) (hp : FewS p) : PC 187 [vs p] (vb (pathMajor p).isSome) := by
  have hc := c186 p hp
  cases h : pathMajor p with
  | none =>
    rw [h] at hc
    refine pcall_sub (cxp pl0) rfl tab_ok hm rfl Tryz.func187 (by kernel_rfl) rfl (Nz rfl) (by kernel_rfl) ?_
    refine Xi .pure (Xi _ (Yi (hc) ?_))
    refine Yi ?_ ?_
    · intro h; exact absurd (show (4 : Int) = 0 from h) (by decide)
    · intro _; exact .refl _
  | some n =>
    rw [h] at hc
    refine pcall_sub (cxp pl0) rfl tab_ok hm rfl Tryz.func187 (by kernel_rfl) rfl (Nz rfl) (by kernel_rfl) ?_
    refine Xi .pure (Xi _ (Yi (hc) ?_))
    refine Yi ?_ ?_
    · intro _; exact .refl _
    · intro h; exact absurd rfl h
theorem splitL_mem (c : UInt8) : ∀ s : List UInt8, 2 ≤ (splitL c s).length → c ∈ s
  | [], h => by rw [splitL] at h; simp at h
  | b :: r, h => by
    rw [splitL] at h
    by_cases e : b = c
    · exact e ▸ List.mem_cons_self ..
    · rw [if_neg e] at h
      refine List.mem_cons_of_mem _ (splitL_mem c r ?_)
      cases hs : splitL c r with
      | nil => rw [hs] at h; simp at h
      | cons x l => rw [hs] at h; simpa using h
theorem last_rng {p : ByteArray} {m : Int} (h : pathMajor p = some m) : 0 ≤ Go.Lib.lastIndex p.data.toList [47] ∧ Go.Lib.lastIndex p.data.toList [47] ≤ p.size := by
  have h2 : 2 ≤ (splitL 47 p.data.toList).length := by
    unfold pathMajor majorL at h
    split at h
    · cases h
    · split at h
      · cases h
      · rename_i hn
        simp only [Bool.or_eq_true, decide_eq_true_eq] at hn
        omega
  have hm := splitL_mem 47 _ h2
  obtain ⟨i, hi, e⟩ := List.getElem_of_mem hm
  have hsz : p.size = p.data.toList.length := by simp
  unfold Go.Lib.lastIndex
  rw [if_pos (by simp only [List.length_singleton]; omega)]
  have hocc : Go.Lib.occAt p.data.toList [47] i = true := by
    unfold Go.Lib.occAt
    rw [List.drop_eq_getElem_cons hi, e]; simp
  rcases Go.Lib.lastOcc_spec p.data.toList [47] (p.data.toList.length - [(47 : UInt8)].length + 1) with ⟨_, h3⟩ | ⟨j, h3, h4, _⟩
  · have := h3 i (by simp only [List.length_singleton]; omega)
    rw [hocc] at this; cases this
  · rw [h4]; simp only [List.length_singleton] at h3; omega
abbrev lineNm (p : ByteArray) : ByteArray := p.extract 0 (Go.Lib.lastIndex p.data.toList [47]).toNat
theorem c155 : Line lineNm := by
  intro p hp
  have hc := c186 p hp
  have hi := c187 p hp
  unfold lineV
  cases h : pathMajor p with
  | none =>
    rw [h] at hc hi
    refine pcall_sub (cxp pl0) rfl tab_ok hm rfl Tryz.func155 (by kernel_rfl) rfl (Nz rfl) (by kernel_rfl) ?_
    refine Xi .pure (Xi _ (Yi (hc) ?_))
    refine Xi .pure (Xi _ (Yi (hi) ?_))
    exact .refl _
  | some n =>
    rw [h] at hc hi
    obtain ⟨l1, l2⟩ := last_rng h
    have hl : PC 188 [vs p, vs b47] (vi (Go.Lib.lastIndex p.data.toList [47])) := c188 p b47 hp
    refine pcall_sub (cxp pl0) rfl tab_ok hm rfl Tryz.func155 (by kernel_rfl) rfl (Nz rfl) (by kernel_rfl) ?_
    refine Xi .pure (Xi _ (Yi (hc) ?_))
    refine Xi .pure (Xi _ (Yi (hi) ?_))
    refine Yi ?_ ?_
    · intro h; exact absurd rfl h
    intro _
    refine Xi .pure (Xi _ (Yi (hl) ?_))
    refine Yi ⟨Int.le_refl _, l1, l2⟩ ?_
    exact .refl _
end Go.Eng
