/-
  Texts as bytes, as plain lists: what a cursor reads. No condition beyond those that each theorem names.
-/
import Derived.Test.YtmjkbmlcclmdkaaDoorSealP
namespace Go.TupP
open Go.Gw Go.NumP Go.SealP
set_option linter.unusedVariables false
set_option linter.unusedSimpArgs false
/-- the text that begins at a place, behind what is read already; the place behind it; the error -/
def txF (s : List UInt8) (k : Nat) (acc : List UInt8) : List UInt8 × Nat × Int :=
  if k < s.length then
    if bl s k ≠ 0 then txF s (k + 1) (acc ++ [s.getD k 0])
    else if k + 1 = s.length then ([], 0, 2)
    else if bl s (k + 1) = 1 then (acc, k + 2, 0)
    else if bl s (k + 1) ≠ 255 then ([], 0, 3)
    else txF s (k + 2) (acc ++ [0])
  else ([], 0, 2)
termination_by s.length - k
section
variable {s : List UInt8} {k : Nat} {acc : List UInt8}
theorem tx_end (h : ¬ k < s.length) : txF s k acc = ([], 0, 2) := by rw [txF, if_neg h]
theorem tx_char (h : k < s.length) (h1 : ¬ bl s k = 0) : txF s k acc = txF s (k + 1) (acc ++ [s.getD k 0]) := by rw [txF, if_pos h, if_pos h1]
theorem tx_short (h : k < s.length) (h1 : bl s k = 0) (h2 : k + 1 = s.length) : txF s k acc = ([], 0, 2) := by rw [txF, if_pos h, if_neg (fun z => z h1), if_pos h2]
theorem tx_done (h : k < s.length) (h1 : bl s k = 0) (h2 : ¬ k + 1 = s.length) (h3 : bl s (k + 1) = 1) : txF s k acc = (acc, k + 2, 0) := by rw [txF, if_pos h, if_neg (fun z => z h1), if_neg h2, if_pos h3]
theorem tx_form (h : k < s.length) (h1 : bl s k = 0) (h2 : ¬ k + 1 = s.length) (h3 : ¬ bl s (k + 1) = 1) (h4 : ¬ bl s (k + 1) = 255) : txF s k acc = ([], 0, 3) := by rw [txF, if_pos h, if_neg (fun z => z h1), if_neg h2, if_neg h3, if_pos h4]
theorem tx_zero (h : k < s.length) (h1 : bl s k = 0) (h2 : ¬ k + 1 = s.length) (h4 : bl s (k + 1) = 255) : txF s k acc = txF s (k + 2) (acc ++ [0]) := by rw [txF, if_pos h, if_neg (fun z => z h1), if_neg h2, if_neg (by omega), if_neg (fun z => z h4)]
end
def txS (s : List UInt8) : List UInt8 := (txF s 0 []).1
def txN (s : List UInt8) : Nat := (txF s 0 []).2.1
def txE (s : List UInt8) : Int := (txF s 0 []).2.2
/-- what is left behind the text: on an error all of it -/
def txR (s : List UInt8) : List UInt8 := s.drop (txN s)
theorem tx_bd (s : List UInt8) : ∀ (n k : Nat) (acc : List UInt8), s.length - k ≤ n → (txF s k acc).2.1 ≤ s.length ∧ ((txF s k acc).2.2 ≠ 0 → (txF s k acc).2.1 = 0 ∧ (txF s k acc).1 = []) ∧ 0 ≤ (txF s k acc).2.2 ∧ (txF s k acc).2.2 ≤ 3 ∧ (txF s k acc).1.length ≤ acc.length + (s.length - k) := by
  intro n
  induction n with
  | zero => intro k acc h; rw [tx_end (by omega)]; simp
  | succ n ih =>
    intro k acc h
    by_cases h0 : k < s.length
    · by_cases h1 : bl s k = 0
      · by_cases h2 : k + 1 = s.length
        · rw [tx_short h0 h1 h2]; simp
        · by_cases h3 : bl s (k + 1) = 1
          · rw [tx_done h0 h1 h2 h3]; simp; omega
          · by_cases h4 : bl s (k + 1) = 255
            · rw [tx_zero h0 h1 h2 h4]
              obtain ⟨a, b, c, d, e⟩ := ih (k + 2) (acc ++ [0]) (by omega)
              refine ⟨a, b, c, d, ?_⟩
              simp only [List.length_append, List.length_cons, List.length_nil] at e
              omega
            · rw [tx_form h0 h1 h2 h3 h4]; simp
      · rw [tx_char h0 h1]
        obtain ⟨a, b, c, d, e⟩ := ih (k + 1) (acc ++ [s.getD k 0]) (by omega)
        refine ⟨a, b, c, d, ?_⟩
        simp only [List.length_append, List.length_cons, List.length_nil] at e
        omega
    · rw [tx_end h0]; simp
theorem txN_le (s : List UInt8) : txN s ≤ s.length ∧ (txE s ≠ 0 → txN s = 0 ∧ txS s = []) ∧ 0 ≤ txE s ∧ txE s ≤ 3 ∧ (txS s).length ≤ s.length := by
  obtain ⟨a, b, c, d, e⟩ := tx_bd s s.length 0 [] (by omega)
  exact ⟨a, b, c, d, by simpa [txS] using e⟩
theorem seg_one {s : List UInt8} {k : Nat} (h : k < s.length) : List.drop k (List.take (k + 1) s) = [s.getD k 0] := by
  rw [List.drop_take, show k + 1 - k = 1 by omega, List.drop_eq_getElem_cons h, List.getD_eq_getElem?_getD, List.getElem?_eq_getElem h]; rfl
theorem bytes_app {l : List Int} {s acc : List UInt8} {k : Nat} (h : bytesOf l = acc) : bytesOf (l ++ [bl s k]) = acc ++ [s.getD k 0] := by
  subst h; unfold bytesOf bl; rw [List.map_append, List.map_cons, List.map_nil, Int.toNat_natCast]
  congr 2; simp
theorem bytes_cut {l : List Int} {z : Int} {acc : List UInt8} {n : Nat} (h : bytesOf l = acc) (hn : n = l.length) : List.take n (bytesOf (l ++ [z])) = acc := by
  subst h; subst hn; unfold bytesOf; rw [List.map_append, List.take_left' (by simp)]
theorem bd_app {l : List Int} {z : Int} (h : ∀ x ∈ l, 0 ≤ x ∧ x ≤ 255) (hz : 0 ≤ z ∧ z ≤ 255) : ∀ x ∈ l ++ [z], 0 ≤ x ∧ x ≤ 255 := by
  intro x hx
  rcases List.mem_append.1 hx with hx | hx
  · exact h x hx
  · rw [List.mem_singleton] at hx; subst hx; exact hz
end Go.TupP
namespace Go.TupP
def endE (s : List UInt8) : Int := if s = [] then 0 else 5
end Go.TupP
namespace Go.TupP
open Go.Gw Go.NumP Go.SealP
theorem end_five {s : List UInt8} (h : ¬ endE s = 0) : endE s = 5 := by unfold endE at *; split at h <;> simp_all
theorem end_iff (s : List UInt8) : ((endE s == 0) == decide (s = [])) = true := by unfold endE; split <;> simp [*]
theorem wake_c : cntR ([130, 97, 0, 1, 5] : List UInt8) = [97, 0, 1, 5] := by decide +kernel
theorem wake_f : txF [97, 0, 1, 5] 0 [] = ([97], 3, 0) := by
  rw [tx_char (by decide) (by decide), tx_done (by decide) (by decide) (by decide) (by decide)]; rfl
theorem wake_s : txS (cntR ([130, 97, 0, 1, 5] : List UInt8)) = [97] := by rw [wake_c]; unfold txS; rw [wake_f]
theorem wake_e : txE (cntR ([130, 97, 0, 1, 5] : List UInt8)) = 0 := by rw [wake_c]; unfold txE; rw [wake_f]
theorem wake_r : txR (cntR ([130, 97, 0, 1, 5] : List UInt8)) = [5] := by rw [wake_c]; unfold txR txN; rw [wake_f]; rfl
end Go.TupP
