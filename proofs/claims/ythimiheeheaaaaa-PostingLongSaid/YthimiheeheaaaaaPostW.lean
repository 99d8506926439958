/-
  What awake packs and reads. No condition.
-/
import Derived.Test.YthimiheeheaaaaaPostP
namespace Go.PostP
open Go.Gw Go.NumP Go.LiveP Go.PackP
abbrev wakeL : PS := [(3, [0, 2]), (4, [1])]
theorem wake_pack : packP [(3, [0, 2]), (4, [1])] = [130, 2, 7, 130, 2, 6, 131, 2, 24] := by decide +kernel
theorem wake_ck : ckP (-1) [(3, [0, 2]), (4, [1])] = 0 := by decide +kernel
theorem wake_a : readP [130, 2, 7, 130, 2, 6, 131, 2, 24] = ([3, 1], 3, 0) := by
  rw [readP_ok (by decide +kernel)]
  rw [rdF_go (m := 2) (W := 2) (L := 1) (p := [7]) (q := [2, 7]) (by decide +kernel) (by decide +kernel) (by decide +kernel) (by decide +kernel) (by decide +kernel) (by decide +kernel) (by decide +kernel) (by decide +kernel) (by decide +kernel) (by decide +kernel)]
  rw [rdF_end (by decide +kernel)]
  decide +kernel
theorem wake_b : readP [130, 2, 6, 131, 2, 24] = ([2, 1], 3, 0) := by
  rw [readP_ok (by decide +kernel)]
  rw [rdF_go (m := 2) (W := 2) (L := 1) (p := [6]) (q := [2, 6]) (by decide +kernel) (by decide +kernel) (by decide +kernel) (by decide +kernel) (by decide +kernel) (by decide +kernel) (by decide +kernel) (by decide +kernel) (by decide +kernel) (by decide +kernel)]
  rw [rdF_end (by decide +kernel)]
  decide +kernel
theorem wake_c : readP [131, 2, 24] = ([0, 2, 1], 3, 0) := by
  rw [readP_ok (by decide +kernel)]
  rw [rdF_go (m := 3) (W := 2) (L := 1) (p := [24]) (q := [2, 24]) (by decide +kernel) (by decide +kernel) (by decide +kernel) (by decide +kernel) (by decide +kernel) (by decide +kernel) (by decide +kernel) (by decide +kernel) (by decide +kernel) (by decide +kernel)]
  rw [rdF_end (by decide +kernel)]
  decide +kernel
theorem wake_read : readX [130, 2, 7, 130, 2, 6, 131, 2, 24] = ([(3, [0, 2]), (4, [1])], 0) := by
  have b : sB [130, 2, 7, 130, 2, 6, 131, 2, 24] = [130, 2, 6, 131, 2, 24] := by unfold sB; rw [wake_a]; rfl
  have c : sC [130, 2, 7, 130, 2, 6, 131, 2, 24] = [131, 2, 24] := by unfold sC; rw [b, wake_b]; rfl
  have d : sD [130, 2, 7, 130, 2, 6, 131, 2, 24] = [] := by unfold sD; rw [c, wake_c]; rfl
  unfold readX
  rw [b, c, d, wake_a, wake_b, wake_c]
  decide +kernel
theorem wake_all : readX (packP [(3, [0, 2]), (4, [1])]) = ([(3, [0, 2]), (4, [1])], 0) := by rw [wake_pack, wake_read]
theorem take_full {l : List Int} {j : Nat} (h : l.length ≤ j) : l.take j = l := List.take_of_length_le h
theorem take_sums {l : List Int} {j : Nat} (h : j < l.length) : (sums l).take (j + 1) = (sums l).take j ++ [sumW l (j + 1)] := by
  rw [← sums_at h, take_snoc _ (by rw [sums_len]; exact h)]
theorem readX_cases (s : List UInt8) : (readX s).1 = [] ∧ (readX s).2 ≠ 0 ∨ (readX s).2 = 0 ∧ ckP (-1) (readX s).1 = 0 := by
  unfold readX
  split
  · exact .inl ⟨rfl, by assumption⟩
  · split
    · exact .inl ⟨rfl, by assumption⟩
    · split
      · exact .inl ⟨rfl, by assumption⟩
      · split
        · exact .inl ⟨rfl, by decide⟩
        · split
          · exact .inl ⟨rfl, by decide⟩
          · unfold finX
            split
            · exact .inl ⟨rfl, by decide⟩
            · split
              · exact .inl ⟨rfl, by decide⟩
              · rename_i h
                exact .inr ⟨rfl, Decidable.not_not.1 fun z => h (.inr z)⟩
theorem readX_small (s : List UInt8) : (readX s).1.length ≤ 1048576 ∧ ∀ j, j < (readX s).1.length → ((readX s).1.getD j zp).2.length ≤ 4096 := by
  rcases readX_cases s with ⟨h, _⟩ | ⟨_, h⟩
  · rw [h]; exact ⟨by decide, fun j hj => absurd hj (Nat.not_lt_zero _)⟩
  · obtain ⟨h1, h2⟩ := ckP_ok _ _ h (by decide) (by decide)
    exact ⟨by omega, fun j hj => (h2 _ (mem_at hj)).2.2.2.1⟩
theorem incP {L : PS} (h : ckP (-1) L = 0) : ∀ k, k ≤ L.length → ckP (prevP L k) (L.drop k) = 0 ∧ (k < L.length → prevP L k < (L.getD k zp).1 ∧ (L.getD k zp).1 < 1048576)
  | 0, _ => ⟨h, fun hk => by
      rw [show L = L.getD 0 zp :: L.drop 1 from ps_drop hk, ckP] at h
      rw [show prevP L 0 = -1 from rfl]
      split at h
      · cases h
      · split at h
        · cases h
        · omega⟩
  | k + 1, hk => by
    have ih := (incP h k (by omega)).1
    rw [ps_drop (by omega), ckP] at ih
    have h2 : ckP (prevP L (k + 1)) (L.drop (k + 1)) = 0 := by
      split at ih
      · cases ih
      · split at ih
        · cases ih
        · split at ih
          · rename_i q; exact absurd ih q
          · exact ih
    refine ⟨h2, fun hk2 => ?_⟩
    rw [ps_drop hk2, ckP] at h2
    split at h2
    · cases h2
    · split at h2
      · cases h2
      · omega
theorem incP' {L : PS} (h : ckP (-1) L = 0) (k : Nat) (hk : k < L.length) : prevP L k < (L.getD k zp).1 := ((incP h k (by omega)).2 hk).1
end Go.PostP
namespace Go.Gw
theorem atR_head {E : TypeId} {X : Nat → Value} {L : PS} {i n : Nat} (h : i < n) : atR E X L i (n - i) = ⟨E, 1, X i, (L.getD i zp).2.length, ivals .i64 (L.getD i zp).2⟩ :: atR E X L (i + 1) (n - (i + 1)) := by
  rw [show n - i = (n - (i + 1)) + 1 by omega]; rfl
theorem Mem.headOut {S : List Nat} {w0 w : World} {r : Row} {A B C D : List Row} (h : Mem S w0 w (A ++ (B ++ D))) (e : D = r :: C) : Mem S w0 w (r :: (A ++ (B ++ C))) := by
  subst e
  refine h.perm ?_
  have : (A ++ (B ++ r :: C)).Perm (r :: ((A ++ B) ++ C)) := by
    rw [← List.append_assoc]; exact List.perm_middle
  rwa [List.append_assoc] at this
end Go.Gw
