/-
  The reference's numbers: what it writes and reads is what the program does. No condition beyond those that each theorem names.
-/
import Derived.Test.YtmjkbmlcclmdkaaDoorNum
namespace Go.NumP
open Go.Gw
set_option linter.unusedVariables false
set_option linter.unusedSimpArgs false

theorem bytesOf_app (a b : List Int) : bytesOf (a ++ b) = bytesOf a ++ bytesOf b := by simp [bytesOf]
theorem bytesOf_len (a : List Int) : (bytesOf a).length = a.length := by simp [bytesOf]
theorem bytesOf_cons (a : Int) (b : List Int) : bytesOf [a] ++ bytesOf b = bytesOf (a :: b) := by simp [bytesOf]
theorem sz_step {x : Nat} (h : 256 ≤ x) (hx : x < 18446744073709551616) : sz x = sz (x / 256) + 1 := by
  unfold sz
  repeat' split
  all_goals omega
theorem digs_flip_len (f : Int) (x : Nat) : (bytesOf (List.map (flipI f) (digs (sz x) x))).length = sz x := by rw [bytesOf_len, List.length_map, digs_len]
theorem places_eq1 {x : Nat} {f c : Int} (h : x < 256) (hc : c = flipI f ((x % 256 : Nat) : Int)) : bytesOf [c] = bytesOf (List.map (flipI f) (digs (sz x) x)) := by
  have : sz x = 1 := by unfold sz; rw [if_pos h]
  rw [this, hc]; rfl
theorem places_eq {x : Nat} {f c : Int} (h : 256 ≤ x) (hx : x < 18446744073709551616) (hc : c = flipI f ((x % 256 : Nat) : Int)) :
    bytesOf (List.map (flipI f) (digs (sz (x / 256)) (x / 256))) ++ bytesOf [c] = bytesOf (List.map (flipI f) (digs (sz x) x)) := by
  rw [sz_step h hx, digs, List.map_append, bytesOf_app, hc]; rfl
def longP (b : Int) : Int := if 240 ≤ b ∧ b ≤ 247 then b - 239 else if 8 ≤ b ∧ b ≤ 15 then 16 - b else if 16 ≤ b ∧ b < 240 then 0 else -1
theorem longP_cases (b : Int) : (240 ≤ b ∧ b ≤ 247 ∧ longP b = b - 239) ∨ (8 ≤ b ∧ b ≤ 15 ∧ longP b = 16 - b) ∨ (16 ≤ b ∧ b < 240 ∧ longP b = 0) ∨ ((b < 8 ∨ 247 < b) ∧ longP b = -1) := by
  unfold longP
  repeat' split
  all_goals omega
theorem flip_flip {f x : Int} : flipI f (flipI f x) = x := by unfold flipI; split <;> omega
theorem digs_rdx (f : Int) (s : List UInt8) : ∀ k, digs k (rdx f s k) = (List.range k).map fun i => flipI f (bl s (i + 1))
  | 0 => rfl
  | k + 1 => by
    have hb := flip_bd (f := f) (bl_bd s (k + 1))
    rw [digs, rdx, List.range_succ, List.map_append]
    have e1 : (256 * rdx f s k + (flipI f (bl s (k + 1))).toNat) / 256 = rdx f s k := by omega
    have e2 : (((256 * rdx f s k + (flipI f (bl s (k + 1))).toNat) % 256 : Nat) : Int) = flipI f (bl s (k + 1)) := by omega
    rw [e1, e2, digs_rdx f s k]; rfl
theorem rdx_top (f : Int) (s : List UInt8) : ∀ j, ∃ r, r < 256 ^ j ∧ rdx f s (j + 1) = (flipI f (bl s 1)).toNat * 256 ^ j + r
  | 0 => ⟨0, by simp, by simp [rdx]⟩
  | j + 1 => by
    obtain ⟨r, hr, e⟩ := rdx_top f s j
    have hb := flip_bd (f := f) (bl_bd s (j + 1 + 1))
    refine ⟨256 * r + (flipI f (bl s (j + 1 + 1))).toNat, by rw [Nat.pow_succ]; omega, ?_⟩
    rw [rdx, e, Nat.pow_succ, Nat.mul_add, ← Nat.mul_assoc, Nat.mul_comm 256, Nat.mul_assoc, Nat.mul_comm 256 (256 ^ j)]
    omega
theorem take_bl {s : List UInt8} {n : Nat} (h : n ≤ s.length) : s.take n = bytesOf ((List.range n).map (bl s)) := by
  apply List.ext_getElem
  · simp [bytesOf]; omega
  · intro j h1 h2
    have : j < s.length := by simp at h1; omega
    simp [bytesOf, bl, List.getD_eq_getElem?_getD, List.getElem?_eq_getElem this]
/-- the number is written as it was read just if its first digit is not 0 or its only one -/
theorem num_fits {s : List UInt8} {k : Nat} {f n : Int} (h1 : ¬ (16 ≤ bl s 0 ∧ bl s 0 < 240)) (h2 : ¬ (bl s 0 < 8 ∨ 247 < bl s 0)) (hk : k = headK (bl s 0)) (hf : f = headF (bl s 0)) (hl : k < s.length)
    (hn : n = if bl s 0 < 16 then -113 - (rdx f s k : Int) else (rdx f s k : Int) + 112) : bytesOf (numB n) = s.take (k + 1) ↔ ¬ (1 < k ∧ flipI f (bl s 1) = 0) := by
  have hk0 := headK_bd h1 h2
  rw [← hk] at hk0
  have hb := flip_bd (f := f) (bl_bd s 1)
  obtain ⟨j, rfl⟩ : ∃ j, k = j + 1 := ⟨k - 1, by omega⟩
  obtain ⟨r, hr, e⟩ := rdx_top f s j
  have hlt := rdx_lt f s (j + 1)
  have hnum : numB n = (if bl s 0 < 16 then 16 - (sz (rdx f s (j + 1)) : Int) else 239 + (sz (rdx f s (j + 1)) : Int)) :: (digs (sz (rdx f s (j + 1))) (rdx f s (j + 1))).map (flipI f) := by
    by_cases hq : bl s 0 < 16
    · rw [if_pos hq] at hn
      have : f = 255 := by rw [hf]; unfold headF; rw [if_pos hq]
      rw [numB, if_neg (by omega), if_pos (by omega), if_pos hq, this, show (-113 - n).toNat = rdx f s (j + 1) by omega, this]
    · rw [if_neg hq] at hn
      have : f = 0 := by rw [hf]; unfold headF; rw [if_neg hq]
      rw [numB, if_pos (by omega), if_neg hq, this, map_flip0, show (n - 112).toNat = rdx f s (j + 1) by omega, this]
  constructor
  · intro h ⟨h3, h4⟩
    have hs : sz (rdx f s (j + 1)) ≤ j := sz_le (by omega) (by omega) (by rw [e, h4]; simpa using hr)
    have := congrArg List.length h
    rw [bytesOf_len, hnum, List.length_cons, List.length_map, digs_len, List.length_take] at this
    omega
  · intro h
    have hs : sz (rdx f s (j + 1)) = j + 1 := by
      by_cases hj : j = 0
      · subst hj
        have hlt' : rdx f s 1 < 256 := by simpa using hlt
        show sz (rdx f s 1) = 1
        unfold sz; rw [if_pos hlt']
      · refine sz_of (by omega) (by omega) ?_ hlt
        rw [e]
        have : 1 ≤ (flipI f (bl s 1)).toNat := by
          have : flipI f (bl s 1) ≠ 0 := fun h5 => h ⟨by omega, h5⟩
          omega
        calc 256 ^ j = 1 * 256 ^ j := (Nat.one_mul _).symm
          _ ≤ (flipI f (bl s 1)).toNat * 256 ^ j := Nat.mul_le_mul_right _ this
          _ ≤ _ := Nat.le_add_right _ _
    rw [hnum, hs, digs_rdx, take_bl (by omega), List.range_succ_eq_map (n := j + 1), List.map_cons, List.map_map, List.map_map]
    congr 1
    have e0 : (if bl s 0 < 16 then 16 - ((j + 1 : Nat) : Int) else 239 + ((j + 1 : Nat) : Int)) = bl s 0 := by
      rw [hk]; unfold headK; split <;> omega
    rw [e0]
    congr 1
    apply List.map_congr_left
    intro q _
    exact flip_flip

theorem num1 {n : Int} (h : -112 ≤ n ∧ n ≤ 111) (c : Int) (hc : c = 128 + n) : bytesOf [c] = bytesOf (numB n) := by
  rw [numB, if_neg (by omega), if_neg (by omega), hc]
theorem num2 {n c : Int} (h : 111 < n) (hc : c = 239 + (sz (n - 112).toNat : Int)) : bytesOf [c] ++ bytesOf (List.map (flipI 0) (digs (sz (n - 112).toNat) (n - 112).toNat)) = bytesOf (numB n) := by
  rw [numB, if_pos h, map_flip0, bytesOf_cons, hc]
theorem num3 {n c : Int} {x : Nat} (h : n < -112) (hx : (x : Int) = -113 - n) (hc : c = 16 - (sz x : Int)) : bytesOf [c] ++ bytesOf (List.map (flipI 255) (digs (sz x) x)) = bytesOf (numB n) := by
  have e : (-113 - n).toNat = x := by omega
  rw [numB, if_neg (by omega), if_pos h, bytesOf_cons, hc, e]
theorem cntP_yes {s : List UInt8} (h : (numP s).2.2 = 0) (h2 : (numP s).1 < 0) : cntP s = (0, 0, 3) := by unfold cntP; rw [if_pos ⟨h, h2⟩]
theorem cntP_no {s : List UInt8} (h : ¬ ((numP s).2.2 = 0 ∧ (numP s).1 < 0)) : cntP s = numP s := by unfold cntP; rw [if_neg h]
/-- what a number's reading gives: bounds -/
theorem numP_bd (s : List UInt8) : -9223372036854775808 ≤ (numP s).1 ∧ (numP s).1 ≤ 9223372036854775807 ∧ 0 ≤ (numP s).2.1 ∧ (numP s).2.1 ≤ 9 ∧ (numP s).2.1 ≤ (s.length : Int) ∧ ((numP s).2.2 = 0 → 1 ≤ (numP s).2.1) ∧ 0 ≤ (numP s).2.2 ∧ (numP s).2.2 ≤ 3 := by
  have hb := bl_bd s 0
  unfold numP
  by_cases h0 : s = []
  · rw [if_pos h0]; simp
  · rw [if_neg h0]
    have hp := List.length_pos_iff.2 h0
    by_cases h1 : 16 ≤ bl s 0 ∧ bl s 0 < 240
    · rw [if_pos h1]; dsimp only; omega
    · rw [if_neg h1]
      by_cases h2 : bl s 0 < 8 ∨ 247 < bl s 0
      · rw [if_pos h2]; dsimp only; omega
      · rw [if_neg h2]
        have hk := headK_bd h1 h2
        repeat' split
        all_goals (dsimp only; omega)

theorem numP_err {s : List UInt8} (h : (numP s).2.2 ≠ 0) : (numP s).1 = 0 ∧ (numP s).2.1 = 0 := by
  unfold numP at h ⊢
  repeat' split at h
  all_goals first | (simp at h; done) | skip
  · rw [if_pos (by assumption)]; exact ⟨rfl, rfl⟩
  · rw [if_neg (by assumption), if_neg (by assumption), if_pos (by assumption)]; exact ⟨rfl, rfl⟩
  · rw [if_neg (by assumption), if_neg (by assumption), if_neg (by assumption), if_pos (by assumption)]; exact ⟨rfl, rfl⟩
  · rw [if_neg (by assumption), if_neg (by assumption), if_neg (by assumption), if_neg (by assumption), if_pos (by assumption)]; exact ⟨rfl, rfl⟩
  · rw [if_neg (by assumption), if_neg (by assumption), if_neg (by assumption), if_neg (by assumption), if_neg (by assumption), if_pos (by assumption)]; exact ⟨rfl, rfl⟩
theorem cntP_err {s : List UInt8} (h : (cntP s).2.2 ≠ 0) : (cntP s).1 = 0 ∧ (cntP s).2.1 = 0 := by
  by_cases q : (numP s).2.2 = 0 ∧ (numP s).1 < 0
  · rw [cntP_yes q.1 q.2]; exact ⟨rfl, rfl⟩
  · rw [cntP_no q] at h ⊢; exact numP_err h
theorem cntP_bd (s : List UInt8) : 0 ≤ (cntP s).1 ∧ (cntP s).1 ≤ 9223372036854775807 ∧ 0 ≤ (cntP s).2.1 ∧ (cntP s).2.1 ≤ 9 ∧ (cntP s).2.1 ≤ (s.length : Int) ∧ ((cntP s).2.2 = 0 → 1 ≤ (cntP s).2.1) ∧ 0 ≤ (cntP s).2.2 ∧ (cntP s).2.2 ≤ 3 := by
  have h := numP_bd s
  by_cases q : (numP s).2.2 = 0 ∧ (numP s).1 < 0
  · rw [cntP_yes q.1 q.2]; simp
  · rw [cntP_no q]
    by_cases z : (numP s).2.2 = 0
    · omega
    · have := numP_err z; omega
/-- what a cursor leaves -/
def numR (s : List UInt8) : List UInt8 := s.drop (numP s).2.1.toNat
def cntR (s : List UInt8) : List UInt8 := s.drop (cntP s).2.1.toNat
theorem numR_err {s : List UInt8} (h : (numP s).2.2 ≠ 0) : numR s = s := by unfold numR; rw [(numP_err h).2]; rfl
theorem cntR_yes {s : List UInt8} (h : (numP s).2.2 = 0) (h2 : (numP s).1 < 0) : cntR s = s := by unfold cntR; rw [cntP_yes h h2]; rfl
theorem cntR_no {s : List UInt8} (h : ¬ ((numP s).2.2 = 0 ∧ (numP s).1 < 0)) : cntR s = numR s := by unfold cntR numR; rw [cntP_no h]

end Go.NumP
