/-
  What the walks of layer 7 give, in plain numbers. No condition beyond those that are named.
-/
import Derived.Test.YthioghimgiknkaaFacts
import Derived.Test.YthioghimgiknkaaRealP
namespace Go.RealP
set_option linter.unusedVariables false
set_option linter.unusedSimpArgs false
open Go.Gw
protected theorem ret_int {k : IntKind} {a b : Int} (h : a = b) : Ending.returned (.int k a) = .returned (.int k b) := by rw [h]
protected theorem ret_bool {a b : Bool} (h : a = b) : Ending.returned (.bool a) = .returned (.bool b) := by rw [h]
theorem sign_i64 {n : Nat} (hn : n < 18446744073709551616) : decide (IntKind.wrap .i64 ((n : Nat) : Int) < 0) = decide (W63 ≤ n) := by
  rw [IntKind.wrap_i64]
  unfold W63
  rw [decide_eq_decide]
  omega
theorem not_u64 {n : Nat} (hn : n < 18446744073709551616) : IntKind.wrap .u64 ((BitVec.ofInt (IntKind.bits .u64) 18446744073709551615 ^^^ BitVec.ofInt (IntKind.bits .u64) ((n : Nat) : Int)).toNat : Int) = ((18446744073709551615 - n : Nat) : Int) := by
  show IntKind.wrap .u64 ((BitVec.ofInt 64 18446744073709551615 ^^^ BitVec.ofInt 64 ((n : Nat) : Int)).toNat : Int) = _
  have e1 : BitVec.ofInt 64 18446744073709551615 = BitVec.allOnes 64 := by decide
  have e2 : BitVec.ofInt 64 ((n : Nat) : Int) = BitVec.ofNat 64 n := by simp
  rw [e1, e2, BitVec.allOnes_xor, BitVec.toNat_not, BitVec.toNat_ofNat, Nat.mod_eq_of_lt hn, IntWalk.u64_in _ (by omega)]
theorem or_u64 {n : Nat} (hn : n < 9223372036854775808) : IntKind.wrap .u64 ((BitVec.ofInt (IntKind.bits .u64) ((n : Nat) : Int) ||| BitVec.ofInt (IntKind.bits .u64) 9223372036854775808).toNat : Int) = ((n + 9223372036854775808 : Nat) : Int) := by
  show IntKind.wrap .u64 ((BitVec.ofInt 64 ((n : Nat) : Int) ||| BitVec.ofInt 64 9223372036854775808).toNat : Int) = _
  have e1 : BitVec.ofInt 64 9223372036854775808 = BitVec.ofNat 64 (2 ^ 63) := by decide
  have e2 : BitVec.ofInt 64 ((n : Nat) : Int) = BitVec.ofNat 64 n := by simp
  rw [e1, e2, BitVec.toNat_or, BitVec.toNat_ofNat, BitVec.toNat_ofNat, Nat.mod_eq_of_lt (by omega), Nat.mod_eq_of_lt (by decide)]
  have : n ||| 2 ^ 63 = n + 9223372036854775808 := by
    have := Nat.two_pow_add_eq_or_of_lt (i := 63) (b := n) (by omega) 1
    rw [Nat.or_comm, show (2 : Nat) ^ 63 = 2 ^ 63 * 1 by omega, ← this]; omega
  rw [this, IntWalk.u64_in _ (by omega)]
theorem key_nan {n : Nat} (h : (FloatKind.f64.format.order n n != some .eq) = true) : (18446744073709551615 : Int) = ((keyN n : Nat) : Int) := by
  rw [key_eq_nan (by rw [← order_self]; exact h)]; rfl
theorem key_zero {n : Nat} (h : (FloatKind.f64.format.order n n != some .eq) = false) (h2 : (FloatKind.f64.format.order n 0 == some .eq) = true) : (9223372036854775808 : Int) = ((keyN n : Nat) : Int) := by
  have h1 : nan n = false := by rw [← order_self]; exact h
  have h3 : decide (rk n = 0) = true := by rw [← order_zero]; exact h2
  have h4 : rk n = 0 := of_decide_eq_true h3
  simp [keyN, h1, h4, W63]
theorem key_neg {n : Nat} (hn : n < 18446744073709551616) (h : (FloatKind.f64.format.order n n != some .eq) = false) (h2 : (FloatKind.f64.format.order n 0 == some .eq) = false) (h3 : W63 ≤ n) :
    IntKind.wrap .u64 ((BitVec.ofInt (IntKind.bits .u64) 18446744073709551615 ^^^ BitVec.ofInt (IntKind.bits .u64) ((n : Nat) : Int)).toNat : Int) = ((keyN n : Nat) : Int) := by
  have h1 : nan n = false := by rw [← order_self]; exact h
  have h4 : ¬ rk n = 0 := by have h5 : decide (rk n = 0) = false := by (rw [← order_zero]; exact h2)
                             exact of_decide_eq_false h5
  rw [not_u64 hn, keyN, h1]
  simp [h4, h3]
theorem key_pos {n : Nat} (h : (FloatKind.f64.format.order n n != some .eq) = false) (h2 : (FloatKind.f64.format.order n 0 == some .eq) = false) (h3 : ¬ W63 ≤ n) :
    IntKind.wrap .u64 ((BitVec.ofInt (IntKind.bits .u64) ((n : Nat) : Int) ||| BitVec.ofInt (IntKind.bits .u64) 9223372036854775808).toNat : Int) = ((keyN n : Nat) : Int) := by
  have h1 : nan n = false := by rw [← order_self]; exact h
  have h4 : ¬ rk n = 0 := by have h5 : decide (rk n = 0) = false := by (rw [← order_zero]; exact h2)
                             exact of_decide_eq_false h5
  have hw : W63 = 9223372036854775808 := rfl
  rw [or_u64 (by omega), keyN, h1, if_neg (by simp), if_neg h4, if_neg h3, hw]
theorem less_key (a b : Nat) : decide (((keyN a : Nat) : Int) < ((keyN b : Nat) : Int)) = lessB a b := by
  unfold lessB; rw [decide_eq_decide]; omega
/-- below 0, by the bits -/
def bel (n : Nat) : Bool := decide (((n : Nat) : Int) ≥ 9223372036854775808) && decide (((rk n : Nat) : Int) > 0)
theorem bel_sv {n : Nat} (hn : n < 18446744073709551616) : bel n = decide (sv n < 0) := by
  unfold bel sv neg rk W63
  rw [Bool.eq_iff_iff]
  simp only [Bool.and_eq_true, decide_eq_true_eq, beq_iff_eq]
  split <;> omega
theorem sv_abs {n : Nat} (_hn : n < 18446744073709551616) : (sv n < 0 → sv n = -(rk n : Int)) ∧ (¬ sv n < 0 → sv n = (rk n : Int)) := by
  unfold sv; split <;> omega
theorem lessB_sv {a b : Nat} (ha : a < 18446744073709551616) (hb : b < 18446744073709551616) (h1 : nan a = false) (h2 : nan b = false) : lessB a b = decide (sv a < sv b) := by
  unfold lessB; rw [decide_eq_decide]; exact key_lt_iff ha hb h1 h2
theorem rless_1 {a b : Nat} (_ha : a < 18446744073709551616) (hb : b < 18446744073709551616) (h1 : nan a = true) : false = lessB a b := by
  unfold lessB; rw [key_eq_nan h1]; have := key_le hb; symm; rw [decide_eq_false_iff_not]; omega
theorem rless_2 {a b : Nat} (ha : a < 18446744073709551616) (_hb : b < 18446744073709551616) (h1 : nan a = false) (h2 : nan b = true) : true = lessB a b := by
  unfold lessB; rw [key_eq_nan h2]; have := key_lt_top ha h1; symm; rw [decide_eq_true_eq]; omega
theorem rless_3 {a b : Nat} (ha : a < 18446744073709551616) (hb : b < 18446744073709551616) (h1 : nan a = false) (h2 : nan b = false) (h3 : (!(bel a == bel b)) = true) : bel a = lessB a b := by
  rw [lessB_sv ha hb h1 h2]
  rw [bel_sv ha, bel_sv hb] at h3
  rw [bel_sv ha]
  rw [decide_eq_decide]
  by_cases x : sv a < 0 <;> by_cases y : sv b < 0 <;> simp [x, y] at h3 <;> omega
theorem rless_4 {a b : Nat} (ha : a < 18446744073709551616) (hb : b < 18446744073709551616) (h1 : nan a = false) (h2 : nan b = false) (h3 : (!(bel a == bel b)) = false) (h4 : bel a = true) :
    decide (((rk a : Nat) : Int) > ((rk b : Nat) : Int)) = lessB a b := by
  rw [lessB_sv ha hb h1 h2]
  rw [h4, bel_sv hb] at h3
  rw [bel_sv ha] at h4
  have x : sv a < 0 := of_decide_eq_true h4
  have y : sv b < 0 := by simpa using h3
  have := (sv_abs ha).1 x
  have := (sv_abs hb).1 y
  rw [decide_eq_decide]; omega
theorem rless_5 {a b : Nat} (ha : a < 18446744073709551616) (hb : b < 18446744073709551616) (h1 : nan a = false) (h2 : nan b = false) (h3 : (!(bel a == bel b)) = false) (h4 : bel a = false) :
    decide (((rk a : Nat) : Int) < ((rk b : Nat) : Int)) = lessB a b := by
  rw [lessB_sv ha hb h1 h2]
  rw [h4, bel_sv hb] at h3
  rw [bel_sv ha] at h4
  have x : ¬ sv a < 0 := of_decide_eq_false h4
  have y : ¬ sv b < 0 := by simpa using h3
  have := (sv_abs ha).2 x
  have := (sv_abs hb).2 y
  rw [decide_eq_decide]; omega
theorem orders_4 (a b : Nat) : (decide (((keyN a : Nat) : Int) < ((keyN b : Nat) : Int)) == lessB a b) = true := by rw [less_key]; simp
theorem orders_5 (a b : Nat) (h : (!lessB a b) = true) : ((((keyN a : Nat) : Int) == ((keyN b : Nat) : Int)) == !lessB b a) = true := by
  unfold lessB at *
  have : ¬ keyN a < keyN b := by simpa using h
  rw [beq_iff_eq, Bool.eq_iff_iff]
  simp
  omega
theorem orders_6 (a b : Nat) (h : (!lessB a b) = false) : ((((keyN a : Nat) : Int) == ((keyN b : Nat) : Int)) == false) = true := by
  unfold lessB at *
  have : keyN a < keyN b := by simpa using h
  rw [beq_iff_eq]
  simp
  omega
theorem less_trans {a b c : Nat} (h1 : lessB a b = true) (h2 : lessB b c = true) : lessB a c = true := by
  unfold lessB at *; simp only [decide_eq_true_eq] at *; omega
theorem less_asymm {a b : Nat} (h1 : lessB a b = true) : lessB b a = false := by
  unfold lessB at *; simp only [decide_eq_true_eq, decide_eq_false_iff_not] at *; omega
theorem total_1 {a b c : Nat} (_ha : a < 18446744073709551616) (_hb : b < 18446744073709551616) (_hc : c < 18446744073709551616)
    (h : (lessB a b && (lessB b a || (lessB b c && !lessB a c))) = true) : false = true := by
  cases h1 : lessB a b
  · simp [h1] at h
  · have h2 := less_asymm h1
    cases h3 : lessB b c
    · simp [h1, h2, h3] at h
    · have h4 := less_trans h1 h3
      simp [h1, h2, h3, h4] at h
theorem total_2 {a b c : Nat} (_ha : a < 18446744073709551616) (hb : b < 18446744073709551616) (_hc : c < 18446744073709551616) {X : Prop} (_h : X)
    (h : (FloatKind.f64.format.order a a != some .eq) = true) : (!lessB a b && ((FloatKind.f64.format.order b b != some .eq) || lessB b a)) = true := by
  have h1 : nan a = true := by rw [← order_self]; exact h
  have e : (FloatKind.f64.format.order b b != some .eq) = nan b := order_self b
  rw [e]
  have hk := key_eq_nan h1
  cases h2 : nan b
  · have := key_lt_top hb h2
    simp only [lessB, hk, Bool.false_or, Bool.and_eq_true, Bool.not_eq_true', decide_eq_false_iff_not, decide_eq_true_eq]
    omega
  · have := key_eq_nan h2
    simp [lessB, hk, this]
theorem total_3 {a b c : Nat} (ha : a < 18446744073709551616) (hb : b < 18446744073709551616) (_hc : c < 18446744073709551616) {X : Prop} (_h : X)
    (h : (FloatKind.f64.format.order a a != some .eq) = false) : ((FloatKind.f64.format.order b b != some .eq) || (lessB a b == (FloatKind.f64.format.order a b == some .lt))) = true := by
  have h1 : nan a = false := by rw [← order_self]; exact h
  have e : (FloatKind.f64.format.order b b != some .eq) = nan b := order_self b
  have e2 : FloatKind.f64.format.order a b = if nan a || nan b then none else some (compare (sv a) (sv b)) := order_spec a b
  rw [e, e2]
  cases h2 : nan b
  · rw [lessB_sv ha hb h1 h2]
    simp only [h1, Bool.or_false, Bool.false_eq_true, if_false, Bool.false_or, beq_iff_eq]
    rw [Bool.eq_iff_iff]
    simp [Int.compare_eq_lt]
  · simp
end Go.RealP
