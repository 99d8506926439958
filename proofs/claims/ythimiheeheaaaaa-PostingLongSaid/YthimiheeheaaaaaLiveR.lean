/-
  Reading a set from bytes, in plain Lean. No condition.
-/
import Derived.Test.YthimiheeheaaaaaLiveP
namespace Go.LiveP
open Go.Gw Go.NumP
set_option linter.unusedVariables false
set_option linter.unusedSimpArgs false
theorem shr8 {x : Int} {r : Nat} (h : r < 8) : x.fdiv (2 ^ (min (Int.toNat ((r : Nat) : Int)) (IntKind.bits .u8))) = x / ((2 ^ r : Nat) : Int) := by
  rw [show min (Int.toNat ((r : Nat) : Int)) (IntKind.bits .u8) = r by simp [IntKind.bits]; omega]
  rw [fdiv_pow x r ((2 ^ r : Nat) : Int) (by simp) (Int.natCast_nonneg _)]
/-- the bit at a place -/
def bitT (t : List UInt8) (i : Nat) : Bool := bl t (i / 8) / ((2 ^ (i % 8) : Nat) : Int) % 2 == 1
def maskT (t : List UInt8) (n i : Nat) : List Bool := (List.range n).map fun x => decide (x < i) && bitT t x
def badT (t : List UInt8) (n : Nat) : Bool := (List.range (8 * t.length)).any fun i => decide (n ≤ i) && bitT t i
theorem maskT_len (t : List UInt8) (n i : Nat) : (maskT t n i).length = n := by simp [maskT]
theorem maskT_get {t : List UInt8} {n i x : Nat} (h : x < n) : (maskT t n i).getD x false = (decide (x < i) && bitT t x) := by
  simp [maskT, List.getD_eq_getElem?_getD, h]
theorem maskT_zero (t : List UInt8) (n : Nat) : maskT t n 0 = List.replicate n false := by
  refine List.ext_getElem (by simp [maskT]) fun j h1 h2 => ?_
  simp [maskT]
theorem lvB_mask {t : List UInt8} {n i : Nat} (h : i < n) : lvB (maskT t n i) ((i : Nat) : Int) = true := by
  rw [lvB_in (by omega) (by rw [maskT_len]; omega), Int.toNat_natCast, maskT_get h]; simp
theorem mask_kill {t : List UInt8} {n i : Nat} (hb : bitT t i = true) (hl : lvB (maskT t n i) ((i : Nat) : Int) = true) : killG (maskT t n i) ((i : Nat) : Int) = maskT t n (i + 1) := by
  have h := (lvB_yes hl).2.1
  rw [maskT_len] at h
  rw [killG_yes hl, Int.toNat_natCast]
  refine List.ext_getElem (by simp [maskT]) fun j h1 h2 => ?_
  rw [List.getElem_set]
  simp only [maskT, List.getElem_map, List.getElem_range]
  split
  · rename_i e; subst e; rw [hb]; simp
  · rename_i e
    congr 1
    rw [Bool.eq_iff_iff]; simp; omega
theorem mask_skip {t : List UInt8} {n i : Nat} (hb : bitT t i = false) : maskT t n (i + 1) = maskT t n i := by
  unfold maskT
  refine List.map_congr_left fun x hx => ?_
  rcases Decidable.em (x = i) with rfl | h
  · rw [hb]; simp
  · congr 1
    rw [Bool.eq_iff_iff]; simp; omega
theorem bad_of {t : List UInt8} {n i : Nat} (hi : i < 8 * t.length) (hb : bitT t i = true) (hk : n ≤ i) : badT t n = true := by
  unfold badT
  rw [List.any_eq_true]
  exact ⟨i, List.mem_range.2 hi, by rw [hb, decide_eq_true hk]; rfl⟩
theorem bad_kill {t : List UInt8} {n i : Nat} (hi : i < 8 * t.length) (hb : bitT t i = true) (hl : lvB (maskT t n i) ((i : Nat) : Int) = false) : badT t n = true := by
  refine bad_of hi hb ?_
  rcases Nat.lt_or_ge i n with h | h
  · rw [lvB_mask h] at hl; cases hl
  · exact h
theorem bad_no {t : List UInt8} {n : Nat} (h : ∀ x, x < 8 * t.length → bitT t x = true → x < n) : badT t n = false := by
  unfold badT
  rw [List.any_eq_false]
  intro x hx
  rw [Bool.and_eq_true, decide_eq_true_eq]
  intro hc
  have := h x (List.mem_range.1 hx) hc.2
  omega
/-- the error of reading, the set -/
def readE (s : List UInt8) : Int :=
  if (cntP s).2.2 ≠ 0 then (cntP s).2.2 else if newE (cntP s).1 ≠ 0 then newE (cntP s).1
  else if ((cntR s).length : Int) < ((cntP s).1 + 7) / 8 then 2 else if ((cntR s).length : Int) > ((cntP s).1 + 7) / 8 then 5
  else if badT (cntR s) (cntP s).1.toNat = true then 3 else 0
def readG (s : List UInt8) : List Bool := maskT (cntR s) (cntP s).1.toNat (8 * (cntR s).length)
/-- the reference: which are gone -/
def qT (t : List UInt8) (m : Nat) : List Int := ((List.range m).filter (bitT t)).map fun x : Nat => ((x : Nat) : Int)
theorem qT_yes {t : List UInt8} {m : Nat} (h : bitT t m = true) : qT t (m + 1) = qT t m ++ [((m : Nat) : Int)] := by
  unfold qT; rw [List.range_succ, List.filter_append, List.map_append]; simp [h]
theorem qT_no {t : List UInt8} {m : Nat} (h : bitT t m = false) : qT t (m + 1) = qT t m := by
  unfold qT; rw [List.range_succ, List.filter_append, List.map_append]; simp [h]
theorem qT_len (t : List UInt8) (m : Nat) : (qT t m).length ≤ m := by
  unfold qT; rw [List.length_map]
  exact Nat.le_trans (List.length_filter_le _ _) (by simp)
theorem bit_half {t : List UInt8} {i k : Nat} {c : Int} (hk : k < 8) (hc : c = bl t i / ((2 ^ k : Nat) : Int)) : bitT t (8 * i + k) = (c % 2 == 1) := by
  unfold bitT
  rw [show (8 * i + k) / 8 = i by omega, show (8 * i + k) % 8 = k by omega, hc]
theorem half_half {x : Int} {k : Nat} : x / ((2 ^ k : Nat) : Int) / 2 = x / ((2 ^ (k + 1) : Nat) : Int) := by
  rw [Int.ediv_ediv_of_nonneg (Int.natCast_nonneg _), Nat.pow_succ, Int.natCast_mul]; rfl
def readQ (s : List UInt8) : List Int := qT (cntR s) (8 * (cntR s).length)
end Go.LiveP
