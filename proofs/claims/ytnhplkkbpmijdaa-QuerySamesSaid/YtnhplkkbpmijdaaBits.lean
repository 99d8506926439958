/-
  Single bit operations as sums and remainders. No condition beyond those that each theorem names.
-/
import Derived.Test.YtnhplkkbpmijdaaFacts
namespace Go.Gw
set_option linter.unusedVariables false
set_option linter.unusedSimpArgs false
theorem ofInt_nat {N : Nat} {x : Int} (h0 : 0 ≤ x) (h1 : x < 2 ^ N) : (BitVec.ofInt N x).toNat = x.toNat := by
  rw [BitVec.toNat_ofInt]
  congr 1
  exact Int.emod_eq_of_lt h0 (by simpa using h1)
theorem ofInt_mod {N : Nat} (x : Int) : ((BitVec.ofInt N x).toNat : Int) = x % 2 ^ N := by
  rw [BitVec.toNat_ofInt]
  have : (0 : Int) ≤ x % ((2 ^ N : Nat) : Int) := Int.emod_nonneg _ (by have := Nat.two_pow_pos N; omega)
  rw [Int.toNat_of_nonneg this]
  simp
theorem and_nat {N : Nat} (x : Int) (n : Nat) (hn : n ≤ N) : ((BitVec.ofInt N x &&& BitVec.ofInt N (2 ^ n - 1)).toNat : Int) = x % 2 ^ n := by
  have hp : 0 < 2 ^ n := Nat.two_pow_pos n
  have hle : 2 ^ n ≤ 2 ^ N := Nat.pow_le_pow_right (by omega) hn
  have hc : (((2 : Nat) ^ n : Nat) : Int) = (2 : Int) ^ n := by simp
  have hc2 : (((2 : Nat) ^ N : Nat) : Int) = (2 : Int) ^ N := by simp
  have e : (BitVec.ofInt N (2 ^ n - 1)).toNat = 2 ^ n - 1 := by
    rw [ofInt_nat (by omega) (by omega)]; omega
  rw [BitVec.toNat_and, e, Nat.and_two_pow_sub_one_eq_mod, Int.natCast_emod, ofInt_mod]
  rw [hc]
  exact Int.emod_emod_of_dvd _ (by rw [← hc, ← hc2]; exact Int.natCast_dvd_natCast.2 (Nat.pow_dvd_pow 2 hn))
theorem or_nat {N : Nat} {a y : Int} (n : Nat) (ha : 0 ≤ a) (hd : a % 2 ^ n = 0) (h0 : 0 ≤ y) (h1 : y < 2 ^ n) (hN : a + y < 2 ^ N) : ((BitVec.ofInt N a ||| BitVec.ofInt N y).toNat : Int) = a + y := by
  have hc : (((2 : Nat) ^ n : Nat) : Int) = (2 : Int) ^ n := by simp
  rw [BitVec.toNat_or, ofInt_nat ha (by omega), ofInt_nat h0 (by omega)]
  obtain ⟨q, hq⟩ : ∃ q : Nat, a.toNat = 2 ^ n * q := by
    have hdv : ((2 ^ n : Nat) : Int) ∣ a := by rw [hc]; exact Int.dvd_of_emod_eq_zero hd
    obtain ⟨z, hz⟩ := hdv
    have hz0 : 0 ≤ z := by
      rcases Int.lt_or_le z 0 with h | h
      · exfalso
        have h2 : (0 : Int) < ((2 ^ n : Nat) : Int) := by have := Nat.two_pow_pos n; omega
        have := Int.mul_neg_of_pos_of_neg h2 h
        omega
      · exact h
    refine ⟨z.toNat, ?_⟩
    rw [hz, Int.toNat_mul (by omega) hz0]
    have : ((2 ^ n : Nat) : Int).toNat = 2 ^ n := Int.toNat_natCast _
    rw [this]
  have hy : y.toNat < 2 ^ n := by omega
  rw [hq, ← Nat.two_pow_add_eq_or_of_lt hy, ← hq]
  omega
theorem or_comm_nat {N : Nat} (a b : Int) : (BitVec.ofInt N a ||| BitVec.ofInt N b) = (BitVec.ofInt N b ||| BitVec.ofInt N a) := BitVec.or_comm ..

theorem and_i64 (x : Int) (n : Nat) (m : Int) (hm : m = 2 ^ n - 1) (hn : n ≤ 62) : IntKind.wrap .i64 ((BitVec.ofInt (IntKind.bits .i64) x &&& BitVec.ofInt (IntKind.bits .i64) m).toNat : Int) = x % (m + 1) := by
  subst hm
  have h := and_nat (N := 64) x n (by omega)
  have hc : (((2 : Nat) ^ n : Nat) : Int) = (2 : Int) ^ n := by simp
  have hp : 0 < 2 ^ n := Nat.two_pow_pos n
  have hle : 2 ^ n ≤ 2 ^ 62 := Nat.pow_le_pow_right (by omega) hn
  have b1 := Int.emod_nonneg x (show ((2 : Int) ^ n) ≠ 0 by omega)
  have b2 := Int.emod_lt_of_pos x (show (0 : Int) < 2 ^ n by omega)
  show IntKind.wrap .i64 ((BitVec.ofInt 64 x &&& BitVec.ofInt 64 (2 ^ n - 1)).toNat : Int) = _
  rw [h, IntWalk.i64_in _ (by omega), Int.sub_add_cancel]
theorem and_u8 (x : Int) (n : Nat) (m : Int) (hm : m = 2 ^ n - 1) (hn : n ≤ 8) : IntKind.wrap .u8 ((BitVec.ofInt (IntKind.bits .u8) x &&& BitVec.ofInt (IntKind.bits .u8) m).toNat : Int) = x % (m + 1) := by
  subst hm
  have h := and_nat (N := 8) x n (by omega)
  have hc : (((2 : Nat) ^ n : Nat) : Int) = (2 : Int) ^ n := by simp
  have hp : 0 < 2 ^ n := Nat.two_pow_pos n
  have hle : 2 ^ n ≤ 2 ^ 8 := Nat.pow_le_pow_right (by omega) hn
  have b1 := Int.emod_nonneg x (show ((2 : Int) ^ n) ≠ 0 by omega)
  have b2 := Int.emod_lt_of_pos x (show (0 : Int) < 2 ^ n by omega)
  show IntKind.wrap .u8 ((BitVec.ofInt 8 x &&& BitVec.ofInt 8 (2 ^ n - 1)).toNat : Int) = _
  rw [h, IntWalk.u8_in _ (by omega), Int.sub_add_cancel]
theorem and_u32 (x : Int) (n : Nat) (m : Int) (hm : m = 2 ^ n - 1) (hn : n ≤ 32) : IntKind.wrap .u32 ((BitVec.ofInt (IntKind.bits .u32) x &&& BitVec.ofInt (IntKind.bits .u32) m).toNat : Int) = x % (m + 1) := by
  subst hm
  have h := and_nat (N := 32) x n (by omega)
  have hc : (((2 : Nat) ^ n : Nat) : Int) = (2 : Int) ^ n := by simp
  have hp : 0 < 2 ^ n := Nat.two_pow_pos n
  have hle : 2 ^ n ≤ 2 ^ 32 := Nat.pow_le_pow_right (by omega) hn
  have b1 := Int.emod_nonneg x (show ((2 : Int) ^ n) ≠ 0 by omega)
  have b2 := Int.emod_lt_of_pos x (show (0 : Int) < 2 ^ n by omega)
  show IntKind.wrap .u32 ((BitVec.ofInt 32 x &&& BitVec.ofInt 32 (2 ^ n - 1)).toNat : Int) = _
  rw [h, IntWalk.u32_in _ (by omega), Int.sub_add_cancel]
/-- 0xc0 of a byte -/
theorem and_c0 (x : Int) (h0 : 0 ≤ x) (h1 : x ≤ 255) : IntKind.wrap .u8 ((BitVec.ofInt (IntKind.bits .u8) x &&& BitVec.ofInt (IntKind.bits .u8) 192).toNat : Int) = x / 64 * 64 := by
  obtain ⟨n, rfl⟩ := Int.eq_ofNat_of_zero_le h0
  have hn : n < 256 := by omega
  have key : ∀ n : Fin 256, IntKind.wrap .u8 ((BitVec.ofInt 8 ((n.val : Nat) : Int) &&& BitVec.ofInt 8 192).toNat : Int) = ((n.val : Nat) : Int) / 64 * 64 := by decide +kernel
  exact key ⟨n, hn⟩
theorem or_i64 {a y : Int} (n : Nat) (m : Int) (hm : m = 2 ^ n) (ha : 0 ≤ a) (hd : a % m = 0) (h0 : 0 ≤ y) (h1 : y < m) (hN : a + y < 9223372036854775808) :
    IntKind.wrap .i64 ((BitVec.ofInt (IntKind.bits .i64) a ||| BitVec.ofInt (IntKind.bits .i64) y).toNat : Int) = a + y := by
  subst hm
  show IntKind.wrap .i64 ((BitVec.ofInt 64 a ||| BitVec.ofInt 64 y).toNat : Int) = _
  rw [or_nat n ha hd h0 h1 (by omega), IntWalk.i64_in _ (by omega)]
theorem or_u8 {a y : Int} (n : Nat) (m : Int) (hm : m = 2 ^ n) (ha : 0 ≤ a) (hd : a % m = 0) (h0 : 0 ≤ y) (h1 : y < m) (hN : a + y < 256) :
    IntKind.wrap .u8 ((BitVec.ofInt (IntKind.bits .u8) a ||| BitVec.ofInt (IntKind.bits .u8) y).toNat : Int) = a + y := by
  subst hm
  show IntKind.wrap .u8 ((BitVec.ofInt 8 a ||| BitVec.ofInt 8 y).toNat : Int) = _
  rw [or_nat n ha hd h0 h1 (by omega), IntWalk.u8_in _ (by omega)]
theorem or_u64 {a y : Int} (n : Nat) (m : Int) (hm : m = 2 ^ n) (ha : 0 ≤ a) (hd : a % m = 0) (h0 : 0 ≤ y) (h1 : y < m) (hN : a + y < 18446744073709551616) :
    IntKind.wrap .u64 ((BitVec.ofInt (IntKind.bits .u64) a ||| BitVec.ofInt (IntKind.bits .u64) y).toNat : Int) = a + y := by
  subst hm
  show IntKind.wrap .u64 ((BitVec.ofInt 64 a ||| BitVec.ofInt 64 y).toNat : Int) = _
  rw [or_nat n ha hd h0 h1 (by omega), IntWalk.u64_in _ (by omega)]
theorem or_u32 {a y : Int} (n : Nat) (m : Int) (hm : m = 2 ^ n) (ha : 0 ≤ a) (hd : a % m = 0) (h0 : 0 ≤ y) (h1 : y < m) (hN : a + y < 4294967296) :
    IntKind.wrap .u32 ((BitVec.ofInt (IntKind.bits .u32) a ||| BitVec.ofInt (IntKind.bits .u32) y).toNat : Int) = a + y := by
  subst hm
  show IntKind.wrap .u32 ((BitVec.ofInt 32 a ||| BitVec.ofInt 32 y).toNat : Int) = _
  rw [or_nat n ha hd h0 h1 (by omega), IntWalk.u32_in _ (by omega)]
theorem and_u64 (x : Int) (n : Nat) (m : Int) (hm : m = 2 ^ n - 1) (hn : n ≤ 64) : IntKind.wrap .u64 ((BitVec.ofInt (IntKind.bits .u64) x &&& BitVec.ofInt (IntKind.bits .u64) m).toNat : Int) = x % (m + 1) := by
  subst hm
  show IntKind.wrap .u64 ((BitVec.ofInt 64 x &&& BitVec.ofInt 64 (2 ^ n - 1)).toNat : Int) = _
  rw [and_nat x n hn, show (2 : Int) ^ n - 1 + 1 = 2 ^ n by omega]
  have hp : (0 : Int) < 2 ^ n := Int.pow_pos (by decide)
  have h1 := Int.emod_nonneg x (show (2 : Int) ^ n ≠ 0 by omega)
  have h2 := Int.emod_lt_of_pos x hp
  have h3 : (2 : Int) ^ n ≤ 2 ^ 64 := by exact_mod_cast Nat.pow_le_pow_right (by decide) hn
  exact IntWalk.u64_in _ (by omega)
/-- a conversion that cuts -/
theorem cut_u8 (x : Nat) : IntKind.wrap .u8 (x : Int) = ((x % 256 : Nat) : Int) := by rw [IntKind.wrap_u8]; omega
theorem cut_u16 (x : Nat) : IntKind.wrap .u16 (x : Int) = ((x % 65536 : Nat) : Int) := by rw [IntKind.wrap_u16]; omega
theorem cut_u32 (x : Nat) : IntKind.wrap .u32 (x : Int) = ((x % 4294967296 : Nat) : Int) := by rw [IntKind.wrap_u32]; omega
end Go.Gw
