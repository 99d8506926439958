/-
  The reference's turned bit, as bytes. No condition beyond those that each theorem names.
-/
import Derived.Test.YtfbcmggdleoojaaSealL
namespace Go.SealP
open Go.Gw Go.NumP Go.CrcP
set_option linter.unusedVariables false
set_option linter.unusedSimpArgs false

theorem shl8 {r : Nat} (h : r < 8) : IntKind.wrap .u8 (1 * 2 ^ (min (Int.toNat ((r : Nat) : Int)) (IntKind.bits .u8))) = ((2 ^ r : Nat) : Int) := by
  have key : ∀ r : Fin 8, IntKind.wrap .u8 (1 * 2 ^ (min (Int.toNat ((r.val : Nat) : Int)) (IntKind.bits .u8))) = ((2 ^ r.val : Nat) : Int) := by decide +kernel
  exact key ⟨r, h⟩
theorem ofInt8 {a : Nat} (h : a < 256) : (BitVec.ofInt 8 (a : Int)).toNat = a := by
  rw [BitVec.ofInt_natCast, BitVec.toNat_ofNat, Nat.mod_eq_of_lt h]
theorem xor_u8 {a b : Nat} (ha : a < 256) (hb : b < 256) : IntKind.wrap .u8 ((BitVec.ofInt (IntKind.bits .u8) (a : Int) ^^^ BitVec.ofInt (IntKind.bits .u8) (b : Int)).toNat : Int) = ((a ^^^ b : Nat) : Int) := by
  show IntKind.wrap .u8 ((BitVec.ofInt 8 (a : Int) ^^^ BitVec.ofInt 8 (b : Int)).toNat : Int) = _
  rw [BitVec.toNat_xor, ofInt8 ha, ofInt8 hb]
  exact IntWalk.u8_in _ (by have := Nat.xor_lt_two_pow (n := 8) ha hb; omega)
theorem pow8 {r : Nat} (h : r < 8) : 2 ^ r < 256 := Nat.pow_lt_pow_right (a := 2) (by decide) h
theorem turn_xor {s : List UInt8} {j : Nat} {r : Nat} (h : r < 8) : IntKind.wrap .u8 ((BitVec.ofInt (IntKind.bits .u8) ((numsOf s).getD j 0) ^^^ BitVec.ofInt (IntKind.bits .u8) ((2 ^ r : Nat) : Int)).toNat : Int) = ((bn s j ^^^ 2 ^ r : Nat) : Int) := by
  rw [numsOf_get]
  have := xor_u8 (bn_lt s j) (pow8 h)
  rwa [show ((bn s j : Nat) : Int) = bl s j from rfl] at this
theorem turn_lt (s : List UInt8) (j : Nat) {r : Nat} (h : r < 8) : bn s j ^^^ 2 ^ r < 256 := Nat.xor_lt_two_pow (n := 8) (bn_lt s j) (pow8 h)
theorem set_bd {l : List Int} {j : Nat} {x : Int} (h : ∀ y ∈ l, 0 ≤ y ∧ y ≤ 255) (hx : 0 ≤ x ∧ x ≤ 255) : ∀ y ∈ l.set j x, 0 ≤ y ∧ y ≤ 255 := by
  intro y hy
  rcases List.mem_or_eq_of_mem_set hy with h1 | h1
  · exact h y h1
  · subst h1; exact hx
theorem turn_none {s : List UInt8} {bit : Int} (h : bit < 0 ∨ 8 * (s.length : Int) ≤ bit) : turnP s bit = s := by unfold turnP; rw [if_pos h]
theorem turn_some {s : List UInt8} {bit : Int} (h0 : 0 ≤ bit) (h1 : bit < 8 * (s.length : Int)) : bytesOf ((numsOf s).set (Int.toNat (bit / 8)) ((bn s (Int.toNat (bit / 8)) ^^^ 2 ^ Int.toNat (bit % 8) : Nat) : Int)) = turnP s bit := by
  unfold turnP
  rw [if_neg (by omega)]
  unfold bytesOf
  rw [List.map_set]
  congr 1
  exact numsOf_bytes s
theorem turn_len (s : List UInt8) (bit : Int) : (turnP s bit).length = s.length := by unfold turnP; split <;> simp
theorem seal_no {kind : Int} {s : List UInt8} (h : kind < 0 ∨ 255 < kind) : sealE kind = 1 ∧ sealT kind s = [] := by
  have : ¬ isKind kind := fun z => by have := z.1; have := z.2; omega
  exact ⟨by unfold sealE; rw [if_neg this], by unfold sealT; rw [if_neg this]⟩
theorem seal_yes {kind : Int} (h0 : 0 ≤ kind) (h1 : kind ≤ 255) : sealE kind = 0 := by unfold sealE; rw [if_pos ⟨h0, h1⟩]
theorem kind_of {kind : Int} (h : sealE kind = 0) : isKind kind := by
  unfold sealE at h; split at h
  · assumption
  · cases h
end Go.SealP
