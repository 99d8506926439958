/-
  Postings of every so-many-th document. No condition beyond those that each theorem names.
-/
import Derived.Test.YthimiheeheaaaaaTow
import Derived.IntWalk
namespace Go.PostP
open Go.Gw Go.NumP Go.LiveP Go.PackP
set_option linter.unusedVariables false
set_option linter.unusedSimpArgs false
def lonL (s k : Nat) : PS := (List.range k).map fun j => (((j * s : Nat) : Int), [((j % 7 : Nat) : Int)])
theorem lonL_len (s k : Nat) : (lonL s k).length = k := by simp [lonL]
theorem lonL_snoc (s k : Nat) : lonL s (k + 1) = lonL s k ++ [(((k * s : Nat) : Int), [((k % 7 : Nat) : Int)])] := by
  unfold lonL; rw [List.range_succ, List.map_append]; rfl
theorem lonL_get {s k j : Nat} (h : j < k) : (lonL s k).getD j zp = (((j * s : Nat) : Int), [((j % 7 : Nat) : Int)]) := by
  unfold lonL
  rw [List.getD_eq_getElem?_getD, List.getElem?_map, List.getElem?_range h]; rfl
theorem ckP_lon {s : Nat} (hs : 1 ≤ s) (hs2 : s ≤ 40) : ∀ (m k : Nat) (last : Int), k + m ≤ 20000 → last < ((k * s : Nat) : Int) → ckP last ((List.range' k m).map fun j => (((j * s : Nat) : Int), [((j % 7 : Nat) : Int)])) = 0
  | 0, k, last, _, _ => rfl
  | m + 1, k, last, h, h2 => by
    rw [List.range'_succ, List.map_cons, ckP]
    have h3 : k * s ≤ 20000 * 40 := Nat.mul_le_mul (by omega) hs2
    have h4 : (k + 1) * s = k * s + s := by rw [Nat.succ_mul]
    dsimp only
    rw [if_neg (by omega), if_neg (by simp only [List.length_cons, List.length_nil]; omega), if_neg (by
      rw [ckA, if_neg (by omega), if_neg (by omega), ckA]; decide)]
    exact ckP_lon hs hs2 m (k + 1) _ (by omega) (by omega)
theorem lon_ok {s n : Nat} (hs : 1 ≤ s) (hs2 : s ≤ 40) (hn : n ≤ 20000) : ckP (-1) (lonL s n) = 0 := by
  have := ckP_lon hs hs2 n 0 (-1) (by omega) (by omega)
  unfold lonL
  rwa [← List.range_eq_range'] at this
theorem lon_dcs {s n j : Nat} (h : j < n) : (dcs (lonL s n)).getD j 0 = ((j * s : Nat) : Int) := by
  rw [dcs_at (by rw [lonL_len]; exact h), lonL_get h]
def cg (g : Int) (s : Nat) : Nat := (g.toNat + s - 1) / s
theorem cg_iff {g : Int} {s j : Nat} (hs : 1 ≤ s) (hg : 0 ≤ g) : j < cg g s ↔ ((j * s : Nat) : Int) < g := by
  unfold cg
  rw [show (j < (g.toNat + s - 1) / s) ↔ (j + 1 ≤ (g.toNat + s - 1) / s) from Iff.rfl, Nat.le_div_iff_mul_le (by omega), Nat.succ_mul]
  omega
theorem cg_le {g : Int} {s : Nat} (hs : 1 ≤ s) (hg : 0 ≤ g) : ((cg g s * s : Nat) : Int) ≤ g + s := by
  have := Nat.div_mul_le_self (g.toNat + s - 1) s
  unfold cg
  omega
theorem cg_small {g : Int} {s : Nat} (hs : 1 ≤ s) (hg : 0 ≤ g) : ((cg g s : Nat) : Int) ≤ g + s := by
  have h1 := cg_le hs hg
  have : cg g s * 1 ≤ cg g s * s := Nat.mul_le_mul_left _ hs
  omega
theorem cg_quo {g : Int} {s : Nat} (hs : 1 ≤ s) (hs2 : s ≤ 40) (hg : 0 ≤ g) (hg2 : g ≤ 1048576) : IntKind.wrap .i64 ((g + ((s : Nat) : Int) - 1).tdiv ((s : Nat) : Int)) = ((cg g s : Nat) : Int) := by
  rw [IntWalk.i64_quo _ _ (by omega)]
  unfold cg
  rw [Int.natCast_ediv]
  congr 1
  omega
theorem mul_quo {m s : Nat} (hs : 1 ≤ s) (h : m * s ≤ 1000000000) : IntKind.wrap .i64 ((((m * s : Nat) : Int)).tdiv ((s : Nat) : Int)) = ((m : Nat) : Int) := by
  rw [IntWalk.i64_quo _ _ (by omega), ← Int.natCast_ediv, Nat.mul_div_cancel _ (by omega)]
theorem nat_mul {a b : Nat} (h : a * b ≤ 1000000000) : IntKind.wrap .i64 (((a : Nat) : Int) * ((b : Nat) : Int)) = ((a * b : Nat) : Int) := by
  rw [← Int.natCast_mul]; exact IntWalk.i64_in _ (by omega)
theorem max_mul {m c s : Nat} (hs : 1 ≤ s) : (if ((m * s : Nat) : Int) < ((c * s : Nat) : Int) then ((c * s : Nat) : Int) else ((m * s : Nat) : Int)) = (((max m c) * s : Nat) : Int) := by
  rcases Nat.lt_or_ge m c with h | h
  · have : m * s < c * s := Nat.mul_lt_mul_of_pos_right h (by omega)
    rw [if_pos (by omega), Nat.max_eq_right (by omega)]
  · have : c * s ≤ m * s := Nat.mul_le_mul_right _ h
    rw [if_neg (by omega), Nat.max_eq_left h]
theorem max_mul2 {m c s : Nat} (hs : 1 ≤ s) : (if ((m * s : Nat) : Int) < (((max m c) * s : Nat) : Int) then (((max m c) * s : Nat) : Int) else ((m * s : Nat) : Int)) = (((max m c) * s : Nat) : Int) := by
  rw [max_mul hs, ← Nat.max_assoc, Nat.max_self]
theorem lon_iff {s M n : Nat} (hs : 1 ≤ s) : (((min M n : Nat) : Int) < (((lonL s n).length : Nat) : Int)) ↔ (((M * s : Nat) : Int) < ((n * s : Nat) : Int)) := by
  rw [lonL_len]
  rcases Nat.lt_or_ge M n with h | h
  · have : M * s < n * s := Nat.mul_lt_mul_of_pos_right h (by omega)
    omega
  · have : n * s ≤ M * s := Nat.mul_le_mul_right _ h
    omega
theorem post_lon {s M n : Nat} (h : M < n) : postP (lonL s n) ((min M n : Nat) : Int) = (((M * s : Nat) : Int), [((M % 7 : Nat) : Int)]) := by
  rw [show min M n = M by omega, post_eq (by rw [lonL_len]; exact h), lonL_get h]
theorem adv_lon {s m n : Nat} {a g : Int} (hs : 1 ≤ s) (hg : 0 ≤ g) (ha : a.toNat = min m n) : advP (lonL s n) a g = ((min (max m (cg g s)) n : Nat) : Int) := by
  unfold advP
  rw [ha]
  have hl : (dcs (lonL s n)).length = n := by rw [dcs_len, lonL_len]
  have := fge_skip (l := dcs (lonL s n)) (d := g) (min (max m (cg g s)) n - min m n) (min m n) (by omega) fun i h1 h2 => by
    rw [lon_dcs (by omega)]
    exact (cg_iff hs hg).1 (by omega)
  rw [this, show min m n + (min (max m (cg g s)) n - min m n) = min (max m (cg g s)) n by omega]
  by_cases h : max m (cg g s) < n
  · rw [fge_ge (by omega) (by
      rw [lon_dcs (by omega)]
      intro z
      have := (cg_iff hs hg).2 z
      omega)]
  · rw [fge_end (by omega)]
theorem bne_t2 {B : Prop} [Decidable B] (h : B) : false = (!(decide B == true)) := by rw [decide_eq_true h]; rfl
theorem bne_f2 {B : Prop} [Decidable B] (h : ¬ B) : false = (!(decide B == false)) := by rw [decide_eq_false h]; rfl
end Go.PostP
