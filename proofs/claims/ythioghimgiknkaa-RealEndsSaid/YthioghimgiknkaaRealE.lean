/-
  The first and the last of a list, in plain numbers. No condition.
-/
import Derived.Test.YthioghimgiknkaaRealB
import Derived.Test.YthioghimgiknkaaMem
namespace Go.RealP
set_option linter.unusedVariables false
set_option linter.unusedSimpArgs false
open Go.Gw
def endsAt (l : List Nat) : Nat → Nat × Nat
  | 0 => (0, 0)
  | k + 1 => (bif ((((k : Nat) : Int) == 0) || lessB (l.getD k 0) (endsAt l k).1) then l.getD k 0 else (endsAt l k).1, bif ((((k : Nat) : Int) == 0) || lessB (endsAt l k).2 (l.getD k 0)) then l.getD k 0 else (endsAt l k).2)
theorem endsAt_bd {l : List Nat} (hl : ∀ j, l.getD j 0 < 18446744073709551616) : ∀ k, (endsAt l k).1 < 18446744073709551616 ∧ (endsAt l k).2 < 18446744073709551616
  | 0 => by simp [endsAt]
  | k + 1 => by
    have ih := endsAt_bd hl k
    have h := hl k
    constructor <;> simp only [endsAt, cond_eq_ite] <;> split <;> omega
/-- the reference's: from the first number on -/
def refAt (l : List Nat) : Nat → Nat × Nat
  | 0 => (l.getD 0 0, l.getD 0 0)
  | k + 1 => (bif lessB (l.getD k 0) (refAt l k).1 then l.getD k 0 else (refAt l k).1, bif lessB (refAt l k).2 (l.getD k 0) then l.getD k 0 else (refAt l k).2)
theorem refAt_bd {l : List Nat} (hl : ∀ j, l.getD j 0 < 18446744073709551616) : ∀ k, (refAt l k).1 < 18446744073709551616 ∧ (refAt l k).2 < 18446744073709551616
  | 0 => by have h := hl 0; simp only [refAt]; omega
  | k + 1 => by
    have ih := refAt_bd hl k
    have h := hl k
    constructor <;> simp only [refAt, cond_eq_ite] <;> split <;> omega
theorem less_irrefl (a : Nat) : lessB a a = false := by simp [lessB]
theorem refAt_ends (l : List Nat) : ∀ k, refAt l (k + 1) = endsAt l (k + 1)
  | 0 => by simp [refAt, endsAt]
  | k + 1 => by
    rw [refAt, endsAt, refAt_ends l k]
    have : (((k + 1 : Nat) : Int) == 0) = false := by simp; omega
    rw [this]; rfl
theorem refAt_pos {l : List Nat} (h : 0 < l.length) : refAt l l.length = endsAt l l.length := by
  obtain ⟨k, hk⟩ : ∃ k, l.length = k + 1 := ⟨l.length - 1, by omega⟩
  rw [hk]; exact refAt_ends l k
theorem ret3 {a b a' b' : Int} {c c' : Bool} {k k' : IntKind} (h1 : a = a') (h2 : b = b') (h3 : c = c') : Ending.returned (.tuple #[.int k a, .int k' b, .bool c]) = .returned (.tuple #[.int k a', .int k' b', .bool c']) := by rw [h1, h2, h3]
theorem len_gt (l : List Nat) : decide (((l.length : Nat) : Int) > 0) = decide (0 < l.length) := by rw [decide_eq_decide]; omega
end Go.RealP
