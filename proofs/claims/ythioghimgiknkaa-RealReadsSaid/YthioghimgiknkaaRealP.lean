/-
  The order of the 64 bits of floats, as plain numbers. No condition; no program in sight.
-/
import Ieee.Arith
import GoSem.Core.Float
namespace Go.RealP
set_option linter.unusedVariables false
set_option linter.unusedSimpArgs false
open Ieee

def W63 : Nat := 9223372036854775808
def INF : Nat := 9218868437227405312
/-- how far from 0 -/
def rk (n : Nat) : Nat := n % W63
def nan (n : Nat) : Bool := decide (INF < rk n)
def neg (n : Nat) : Bool := n / W63 % 2 == 1
/-- the place in the order -/
def sv (n : Nat) : Int := if neg n then -(rk n : Int) else (rk n : Int)
/-- the number that stands in the order -/
def keyN (n : Nat) : Nat := if nan n then 18446744073709551615 else if rk n = 0 then W63 else if W63 ≤ n then 18446744073709551615 - n else n + W63
def lessB (a b : Nat) : Bool := decide (keyN a < keyN b)
def withinB (x lo hi : Nat) : Bool := !lessB x lo && !lessB hi x

theorem double_sw : double.signWeight = W63 := by decide
theorem double_inf : double.infRung = INF := by decide
theorem double_bin : double.binade = 4503599627370496 := by decide

/-- the value of a rung, in the least unit -/
def val (r : Nat) : Nat := if r < 4503599627370496 then r else (4503599627370496 + r % 4503599627370496) * 2 ^ (r / 4503599627370496 - 1)

theorem val_lt {r s : Nat} (h : r < s) : val r < val s := by
  unfold val
  have pos : ∀ k, 0 < 2 ^ k := fun k => Nat.two_pow_pos k
  split
  · rename_i hr
    split
    · exact h
    · rename_i hs
      have : 4503599627370496 + s % 4503599627370496 ≤ (4503599627370496 + s % 4503599627370496) * 2 ^ (s / 4503599627370496 - 1) := Nat.le_mul_of_pos_right _ (pos _)
      omega
  · rename_i hr
    rw [if_neg (by omega)]
    by_cases e : r / 4503599627370496 = s / 4503599627370496
    · rw [e]
      exact Nat.mul_lt_mul_of_pos_right (by omega) (pos _)
    · have hlt : r / 4503599627370496 < s / 4503599627370496 := by omega
      obtain ⟨d, hd⟩ : ∃ d, s / 4503599627370496 - 1 = (r / 4503599627370496 - 1) + 1 + d := ⟨s / 4503599627370496 - 1 - (r / 4503599627370496 - 1) - 1, by omega⟩
      rw [hd, Nat.pow_add, Nat.pow_add]
      have h1 : (4503599627370496 + r % 4503599627370496) * 2 ^ (r / 4503599627370496 - 1) < 9007199254740992 * 2 ^ (r / 4503599627370496 - 1) := Nat.mul_lt_mul_of_pos_right (by omega) (pos _)
      have h2 : 9007199254740992 * 2 ^ (r / 4503599627370496 - 1) = 4503599627370496 * (2 ^ (r / 4503599627370496 - 1) * 2 ^ 1) := by
        rw [Nat.pow_one, ← Nat.mul_assoc, Nat.mul_right_comm]
      have h3 : 4503599627370496 * (2 ^ (r / 4503599627370496 - 1) * 2 ^ 1) ≤ (4503599627370496 + s % 4503599627370496) * (2 ^ (r / 4503599627370496 - 1) * 2 ^ 1 * 2 ^ d) := by
        refine Nat.mul_le_mul (by omega) (Nat.le_mul_of_pos_right _ (pos _))
      omega

theorem val_cmp (r s : Nat) : compare (val r) (val s) = compare r s := by
  rcases Nat.lt_trichotomy r s with h | h | h
  · rw [Nat.compare_eq_lt.2 (val_lt h), Nat.compare_eq_lt.2 h]
  · subst h; simp
  · rw [Nat.compare_eq_gt.2 (val_lt h), Nat.compare_eq_gt.2 h]

theorem val_zero : val 0 = 0 := by simp [val]
theorem val_pos {r : Nat} (h : 0 < r) : 0 < val r := by have := val_lt h; rwa [val_zero] at this
theorem val_iff (r s : Nat) : (val r < val s ↔ r < s) ∧ (val r = val s ↔ r = s) := by
  rcases Nat.lt_trichotomy r s with h | h | h
  · have := val_lt h; omega
  · subst h; omega
  · have := val_lt h; omega

theorem cmp_of (x y x' y' : Int) (h1 : x < y ↔ x' < y') (h2 : x = y ↔ x' = y') : compare x y = compare x' y' := by
  simp only [compare, compareOfLessAndEq, h1, h2]

def sg (s : Bool) (v : Nat) : Int := if s then -(v : Int) else (v : Int)

theorem cmp_sg (s t : Bool) (r r' : Nat) : compare (sg s (val r)) (sg t (val r')) = compare (sg s r) (sg t r') := by
  have h := val_iff r r'
  have h' := val_iff r' r
  have z := val_iff r 0
  have z' := val_iff r' 0
  rw [val_zero] at z z'
  refine cmp_of _ _ _ _ ?_ ?_ <;> cases s <;> cases t <;> simp only [sg, if_true, if_false, Bool.false_eq_true] <;> omega

theorem cmp_mul (x y : Int) (c : Nat) (hc : 0 < c) : compare (x * c) (y * c) = compare x y := by
  have hc' : (0 : Int) < c := by omega
  refine cmp_of _ _ _ _ ?_ ?_
  · exact Int.mul_lt_mul_right hc'
  · constructor
    · intro h; exact Int.eq_of_mul_eq_mul_right (by omega) h
    · intro h; rw [h]

theorem sg_mul (s : Bool) (m c : Nat) : sg s m * (c : Int) = sg s (m * c) := by
  cases s <;> simp [sg, Int.neg_mul]

theorem signed_sg (s : Bool) (m k : Nat) : signed s m k = sg s (m * 2 ^ k) := by
  unfold signed sg; rw [Nat.shiftLeft_eq]

theorem read_fin {n : Nat} (h : rk n < INF) : ∃ m p : Nat, double.read n = .number (neg n) m (double.leastPlace + (p : Int)) ∧ m * 2 ^ p = val (rk n) := by
  unfold Format.read
  simp only [double_sw, double_inf, double_bin]
  unfold rk at h
  by_cases hb : n % W63 < 4503599627370496
  · rw [if_pos hb]
    refine ⟨n % W63, 0, by simp [neg], ?_⟩
    unfold val rk
    rw [if_pos hb]; omega
  · rw [if_neg hb, if_pos h]
    refine ⟨4503599627370496 + n % W63 % 4503599627370496, n % W63 / 4503599627370496 - 1, rfl, ?_⟩
    unfold val rk
    rw [if_neg hb]

theorem read_inf {n : Nat} (h : rk n = INF) : double.read n = .infinity (neg n) := by
  unfold Format.read
  simp only [double_sw, double_inf, double_bin]
  unfold rk at h
  rw [if_neg (by rw [h]; decide), if_neg (by omega), if_pos h]
  rfl

theorem read_nan {n : Nat} (h : INF < rk n) : ∃ f, double.read n = .nan (neg n) f := by
  unfold Format.read
  simp only [double_sw, double_inf, double_bin]
  unfold rk at h
  have : 4503599627370496 < INF := by decide
  rw [if_neg (by omega), if_neg (by omega), if_neg (by omega)]
  exact ⟨_, rfl⟩

theorem sv_sg (n : Nat) : sv n = sg (neg n) (rk n) := rfl

theorem order_num (s t : Bool) (m n : Nat) (L : Int) (p q : Nat) : (Datum.number s m (L + (p : Int))).order (.number t n (L + (q : Int))) = some (compare (sg s (m * 2 ^ p)) (sg t (n * 2 ^ q))) := by
  simp only [Datum.order, signed_sg]
  congr 1
  rcases Nat.le_total p q with h | h
  · have e1 : min (L + (p : Int)) (L + (q : Int)) = L + p := by omega
    rw [e1, show (L + (p : Int) - (L + p)).toNat = 0 by omega, show (L + (q : Int) - (L + p)).toNat = q - p by omega]
    rw [← cmp_mul _ _ (2 ^ p) (Nat.two_pow_pos p), sg_mul, sg_mul, Nat.pow_zero, Nat.mul_one, Nat.mul_assoc, ← Nat.pow_add, Nat.sub_add_cancel h]
  · have e1 : min (L + (p : Int)) (L + (q : Int)) = L + q := by omega
    rw [e1, show (L + (p : Int) - (L + q)).toNat = p - q by omega, show (L + (q : Int) - (L + q)).toNat = 0 by omega]
    rw [← cmp_mul _ _ (2 ^ q) (Nat.two_pow_pos q), sg_mul, sg_mul, Nat.pow_zero, Nat.mul_one, Nat.mul_assoc, ← Nat.pow_add, Nat.sub_add_cancel h]

/-- two floats in the machine's order -/
theorem order_spec (a b : Nat) : double.order a b = if nan a || nan b then none else some (compare (sv a) (sv b)) := by
  unfold Format.order
  by_cases ha : INF < rk a
  · obtain ⟨f, e⟩ := read_nan ha
    simp [e, Datum.order, nan, ha]
  by_cases hb : INF < rk b
  · obtain ⟨f, e⟩ := read_nan hb
    rw [e]
    simp only [nan, hb, decide_true, Bool.or_true, if_true]
    cases double.read a <;> simp [Datum.order]
  simp only [nan, ha, hb, decide_false, Bool.or_false, Bool.false_eq_true, if_false]
  rcases Nat.lt_or_ge (rk a) INF with ha' | ha'
  · obtain ⟨m, p, ea, hm⟩ := read_fin ha'
    rcases Nat.lt_or_ge (rk b) INF with hb' | hb'
    · obtain ⟨n, q, eb, hn⟩ := read_fin hb'
      rw [ea, eb, order_num, hm, hn, cmp_sg, ← sv_sg, ← sv_sg]
    · have hb2 : rk b = INF := by omega
      rw [ea, read_inf hb2]
      simp only [Datum.order, sv_sg, hb2]
      congr 1
      cases neg b <;> simp only [sg, if_true, if_false, Bool.false_eq_true]
      · symm
        simp only [compare, compareOfLessAndEq]
        rw [if_pos (by split <;> omega)]
      · symm
        simp only [compare, compareOfLessAndEq]
        rw [if_neg (by split <;> omega), if_neg (by split <;> omega)]
  · have ha2 : rk a = INF := by omega
    rw [read_inf ha2]
    rcases Nat.lt_or_ge (rk b) INF with hb' | hb'
    · obtain ⟨n, q, eb, hn⟩ := read_fin hb'
      rw [eb]
      simp only [Datum.order, sv_sg, ha2]
      congr 1
      cases neg a <;> simp only [sg, if_true, if_false, Bool.false_eq_true]
      · symm
        simp only [compare, compareOfLessAndEq]
        rw [if_neg (by split <;> omega), if_neg (by split <;> omega)]
      · symm
        simp only [compare, compareOfLessAndEq]
        rw [if_pos (by split <;> omega)]
    · have hb2 : rk b = INF := by omega
      rw [read_inf hb2]
      simp only [Datum.order, sv_sg, ha2, hb2]
      congr 1
      cases neg a <;> cases neg b <;> decide

theorem order_self (a : Nat) : (double.order a a != some .eq) = nan a := by
  rw [order_spec]
  cases h : nan a <;> simp
theorem order_zero (a : Nat) : (double.order a 0 == some .eq) = decide (rk a = 0) := by
  rw [order_spec]
  have h0 : nan 0 = false := by decide
  have s0 : sv 0 = 0 := by decide
  rw [h0, s0, Bool.or_false]
  cases h : nan a
  · have key : compare (sv a) 0 = .eq ↔ rk a = 0 := by
      rw [Int.compare_eq_eq]
      unfold sv
      split <;> omega
    simp only [Bool.false_eq_true, if_false]
    by_cases e : rk a = 0
    · simp [e, key.2 e]
    · have : compare (sv a) 0 ≠ .eq := fun h => e (key.1 h)
      simp [e, this]
  · have : INF < rk a := by simpa [nan] using h
    have : ¬ rk a = 0 := by have := (by decide : 0 < INF); omega
    simp [this]

/-- the keys stand as the numbers do -/
theorem key_lt_iff {a b : Nat} (ha : a < 18446744073709551616) (hb : b < 18446744073709551616) (na : nan a = false) (nb : nan b = false) : keyN a < keyN b ↔ sv a < sv b := by
  have hi : INF < W63 := by decide
  have hw : W63 = 9223372036854775808 := rfl
  have e : ∀ n, n < 18446744073709551616 → neg n = decide (W63 ≤ n) := by
    intro n hn
    unfold neg
    rw [hw]
    have : n / 9223372036854775808 = if 9223372036854775808 ≤ n then 1 else 0 := by split <;> omega
    rw [this]; split <;> simp [*]
  have na' : ¬ INF < rk a := by simpa [nan] using na
  have nb' : ¬ INF < rk b := by simpa [nan] using nb
  unfold keyN sv
  rw [na, nb, e a ha, e b hb]
  simp only [Bool.false_eq_true, if_false, decide_eq_true_eq]
  unfold rk at *
  rw [hw] at *
  repeat' split
  all_goals omega
theorem key_eq_nan {a : Nat} (h : nan a = true) : keyN a = 18446744073709551615 := by simp [keyN, h]
theorem key_lt_top {a : Nat} (ha : a < 18446744073709551616) (h : nan a = false) : keyN a < 18446744073709551615 := by
  have hi : INF < 9223372036854775807 := by decide
  have hw : W63 = 9223372036854775808 := rfl
  have na' : ¬ INF < rk a := by simpa [nan] using h
  unfold keyN
  rw [h]
  unfold rk at *
  rw [hw] at *
  simp only [Bool.false_eq_true, if_false]
  repeat' split
  all_goals omega
theorem key_le {a : Nat} (ha : a < 18446744073709551616) : keyN a ≤ 18446744073709551615 := by
  cases h : nan a
  · have := key_lt_top ha h; omega
  · rw [key_eq_nan h]; omega

end Go.RealP
