/-
  What is written is read back, and what is read was written: numbers as bytes. No condition beyond those that each theorem names.
-/
import Derived.Test.YtmjkbmlcclmdkaaDoorNumR
namespace Go.NumP
open Go.Gw
set_option linter.unusedVariables false
set_option linter.unusedSimpArgs false
theorem numP_take {s : List UInt8} (h : (numP s).2.2 = 0) : bytesOf (numB (numP s).1) = s.take (numP s).2.1.toNat := by
  by_cases h0 : s = []
  · rw [numP, if_pos h0] at h; cases h
  by_cases h1 : 16 ≤ bl s 0 ∧ bl s 0 < 240
  · have hb := bl_bd s 0
    rw [numP, if_neg h0, if_pos h1]
    have hl : 0 < s.length := List.length_pos_iff.2 h0
    show bytesOf (numB (bl s 0 - 128)) = s.take 1
    rw [numB, if_neg (by omega), if_neg (by omega), take_bl hl, show (128 + (bl s 0 - 128)) = bl s 0 by omega]; rfl
  by_cases h2 : bl s 0 < 8 ∨ 247 < bl s 0
  · rw [numP, if_neg h0, if_neg h1, if_pos h2] at h; cases h
  have hk := headK_bd h1 h2
  by_cases hl : s.length ≤ headK (bl s 0)
  · rw [numP, if_neg h0, if_neg h1, if_neg h2, if_pos hl] at h; cases h
  have e := numP_tail h0 h1 h2 rfl rfl (by omega)
  rw [e] at h ⊢
  split at h
  · cases h
  · rename_i h3
    split at h
    · cases h
    · rename_i h4
      rw [if_neg h3, if_neg h4]
      exact (num_fits h1 h2 rfl rfl (by omega) rfl).2 h3
theorem cntP_take {s : List UInt8} (h : (cntP s).2.2 = 0) : bytesOf (numB (cntP s).1) = s.take (cntP s).2.1.toNat ∧ 0 ≤ (cntP s).1 := by
  by_cases q : (numP s).2.2 = 0 ∧ (numP s).1 < 0
  · rw [cntP_yes q.1 q.2] at h; cases h
  · rw [cntP_no q] at h ⊢; exact ⟨numP_take h, by omega⟩
theorem getD_appl {α : Type} {a b : List α} {i : Nat} {z : α} (h : i < a.length) : (a ++ b).getD i z = a.getD i z := by
  rw [List.getD_eq_getElem?_getD, List.getD_eq_getElem?_getD, List.getElem?_append_left h]
theorem getD_appr {α : Type} {a b : List α} {i : Nat} {z : α} (h : a.length ≤ i) : (a ++ b).getD i z = b.getD (i - a.length) z := by
  rw [List.getD_eq_getElem?_getD, List.getD_eq_getElem?_getD, List.getElem?_append_right h]
theorem rdx_digs (f : Int) (s : List UInt8) : ∀ k x, (∀ i, i < k → flipI f (bl s (i + 1)) = (digs k x).getD i 0) → rdx f s k = x % 256 ^ k
  | 0, x, _ => by simp [rdx, Nat.mod_one]
  | k + 1, x, h => by
    have hd := digs_len k (x / 256)
    have ih := rdx_digs f s k (x / 256) fun i hi => by
      rw [h i (by omega), digs, getD_appl (by omega)]
    have hlast := h k (by omega)
    rw [digs, getD_appr (by omega), hd] at hlast
    simp at hlast
    rw [rdx, ih, hlast, Nat.pow_succ, Nat.mul_comm (256 ^ k) 256, Nat.mod_mul]
    omega
theorem bl_app {a b : List UInt8} {i : Nat} (h : i < a.length) : bl (a ++ b) i = bl a i := by
  unfold bl; rw [getD_appl h]
theorem bl_bytes {l : List Int} {i : Nat} (hl : ∀ x ∈ l, 0 ≤ x ∧ x ≤ 255) (h : i < l.length) : bl (bytesOf l) i = l.getD i 0 := by
  have hx := hl _ (List.getElem_mem h)
  unfold bl bytesOf
  rw [List.getD_eq_getElem?_getD, List.getElem?_map, List.getElem?_eq_getElem h, List.getD_eq_getElem?_getD, List.getElem?_eq_getElem h]
  simp only [Option.map_some, Option.getD_some]
  have : (UInt8.ofNat l[i].toNat).toNat = l[i].toNat := by rw [UInt8.toNat_ofNat']; omega
  omega
theorem numP_back {n : Int} (hn : -9223372036854775808 ≤ n ∧ n ≤ 9223372036854775807) (r : List UInt8) : numP (bytesOf (numB n) ++ r) = (n, ((numB n).length : Int), 0) := by
  have hb := numB_bd n
  have hlen := numB_len n
  have hne : bytesOf (numB n) ++ r ≠ [] := by
    intro e
    have := congrArg List.length e
    rw [List.length_append, bytesOf_len, List.length_nil] at this; omega
  have hbl : ∀ i, i < (numB n).length → bl (bytesOf (numB n) ++ r) i = (numB n).getD i 0 := fun i hi => by
    rw [bl_app (by rw [bytesOf_len]; exact hi), bl_bytes hb hi]
  have h0 := hbl 0 (by omega)
  have htake : (bytesOf (numB n) ++ r).take (numB n).length = bytesOf (numB n) := by
    rw [← bytesOf_len (numB n), List.take_left]
  by_cases c1 : -112 ≤ n ∧ n ≤ 111
  · have e : numB n = [128 + n] := by rw [numB, if_neg (by omega), if_neg (by omega)]
    rw [e] at h0 ⊢
    have h0' : bl (bytesOf [128 + n] ++ r) 0 = 128 + n := by rw [h0]; rfl
    rw [e] at hne
    rw [numP, if_neg hne, if_pos (by omega), h0']
    simp; omega
  · -- long
    obtain ⟨x, f, hx, hf, hnum, hbx⟩ : ∃ (x : Nat) (f : Int), (f = 0 ∧ 111 < n ∧ n = (x : Int) + 112 ∨ f = 255 ∧ n < -112 ∧ n = -113 - (x : Int)) ∧ (f = 0 ∨ f = 255) ∧
        numB n = (if f = 255 then 16 - (sz x : Int) else 239 + (sz x : Int)) :: (digs (sz x) x).map (flipI f) ∧ x ≤ 9223372036854775695 := by
      by_cases c2 : 111 < n
      · refine ⟨(n - 112).toNat, 0, .inl ⟨rfl, c2, by omega⟩, .inl rfl, ?_, by omega⟩
        rw [numB, if_pos c2, map_flip0, if_neg (by decide)]
      · refine ⟨(-113 - n).toNat, 255, .inr ⟨rfl, by omega, by omega⟩, .inr rfl, ?_, by omega⟩
        rw [numB, if_neg c2, if_pos (by omega), if_pos rfl]
    have hsz := sz_bd x
    have hL : (numB n).length = sz x + 1 := by rw [hnum, List.length_cons, List.length_map, digs_len]
    generalize hs : bytesOf (numB n) ++ r = s at *
    have hb0 : bl s 0 = if f = 255 then 16 - (sz x : Int) else 239 + (sz x : Int) := by rw [h0, hnum]; rfl
    have h1 : ¬ (16 ≤ bl s 0 ∧ bl s 0 < 240) := by rw [hb0]; split <;> omega
    have h2 : ¬ (bl s 0 < 8 ∨ 247 < bl s 0) := by rw [hb0]; split <;> omega
    have hk : sz x = headK (bl s 0) := by rw [hb0]; unfold headK; rcases hf with rfl | rfl <;> simp <;> (try split) <;> omega
    have hff : f = headF (bl s 0) := by rw [hb0]; unfold headF; rcases hf with rfl | rfl <;> simp <;> omega
    have hls : s.length = (numB n).length + r.length := by rw [← hs, List.length_append, bytesOf_len]
    have hr : rdx f s (sz x) = x := by
      rw [rdx_digs f s (sz x) x fun i hi => ?_]
      · have : x < 256 ^ sz x := by
          have hcases : sz x = 1 ∨ sz x = 2 ∨ sz x = 3 ∨ sz x = 4 ∨ sz x = 5 ∨ sz x = 6 ∨ sz x = 7 ∨ sz x = 8 := by omega
          unfold sz at hcases ⊢
          (repeat' split) <;> simp <;> omega
        exact Nat.mod_eq_of_lt this
      · rw [hbl (i + 1) (by omega), hnum, List.getD_cons_succ]
        rw [List.getD_eq_getElem?_getD, List.getElem?_map, List.getD_eq_getElem?_getD]
        have hi' : i < (digs (sz x) x).length := by rw [digs_len]; exact hi
        rw [List.getElem?_eq_getElem hi']
        simp only [Option.map_some, Option.getD_some]
        exact flip_flip
    have hnn : n = if bl s 0 < 16 then -113 - (rdx f s (sz x) : Int) else (rdx f s (sz x) : Int) + 112 := by
      rw [hr, hb0]
      rcases hx with ⟨rfl, _, e⟩ | ⟨rfl, _, e⟩
      · simp only [show ¬ ((0 : Int) = 255) by decide, if_false]; rw [if_neg (by omega)]; exact e
      · simp only [if_true]; rw [if_pos (by omega)]; exact e
    have hfit := (num_fits h1 h2 hk hff (by omega) hnn).1 (by rw [← hL, htake])
    rw [numP_tail hne h1 h2 hk hff (by omega), if_neg hfit, if_neg (by rw [hr]; omega), ← hnn, hL]
    simp
theorem cntP_back {n : Int} (h0 : 0 ≤ n) (hn : n ≤ 9223372036854775807) (r : List UInt8) : cntP (bytesOf (numB n) ++ r) = (n, ((numB n).length : Int), 0) := by
  have := numP_back (n := n) (by omega) r
  rw [cntP_no (by rw [this]; simp only; omega), this]
theorem cntR_back {n : Int} (h0 : 0 ≤ n) (hn : n ≤ 9223372036854775807) (r : List UInt8) : cntR (bytesOf (numB n) ++ r) = r := by
  unfold cntR
  rw [cntP_back h0 hn]
  simp only [Int.toNat_natCast]
  rw [← bytesOf_len (numB n), List.drop_left]
end Go.NumP
