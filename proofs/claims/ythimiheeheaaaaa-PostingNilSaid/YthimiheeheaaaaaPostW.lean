/-
  What awake packs and reads. No condition.
-/
import Derived.Test.YthimiheeheaaaaaPostP
namespace Go.PostP
open Go.Gw Go.NumP Go.LiveP Go.PackP
abbrev wakeL : PS := [(3, [0, 2]), (4, [1])]
theorem wake_pack : packP [(3, [0, 2]), (4, [1])] = [130, 2, 7, 130, 2, 6, 131, 2, 24] := by decide +kernel
theorem wake_ck : ckP (-1) [(3, [0, 2]), (4, [1])] = 0 := by decide +kernel
theorem wake_a : readP [130, 2, 7, 130, 2, 6, 131, 2, 24] = ([3, 1], 3, 0) := by
  rw [readP_ok (by decide +kernel)]
  rw [rdF_go (m := 2) (W := 2) (L := 1) (p := [7]) (q := [2, 7]) (by decide +kernel) (by decide +kernel) (by decide +kernel) (by decide +kernel) (by decide +kernel) (by decide +kernel) (by decide +kernel) (by decide +kernel) (by decide +kernel) (by decide +kernel)]
  rw [rdF_end (by decide +kernel)]
  decide +kernel
theorem wake_b : readP [130, 2, 6, 131, 2, 24] = ([2, 1], 3, 0) := by
  rw [readP_ok (by decide +kernel)]
  rw [rdF_go (m := 2) (W := 2) (L := 1) (p := [6]) (q := [2, 6]) (by decide +kernel) (by decide +kernel) (by decide +kernel) (by decide +kernel) (by decide +kernel) (by decide +kernel) (by decide +kernel) (by decide +kernel) (by decide +kernel) (by decide +kernel)]
  rw [rdF_end (by decide +kernel)]
  decide +kernel
theorem wake_c : readP [131, 2, 24] = ([0, 2, 1], 3, 0) := by
  rw [readP_ok (by decide +kernel)]
  rw [rdF_go (m := 3) (W := 2) (L := 1) (p := [24]) (q := [2, 24]) (by decide +kernel) (by decide +kernel) (by decide +kernel) (by decide +kernel) (by decide +kernel) (by decide +kernel) (by decide +kernel) (by decide +kernel) (by decide +kernel) (by decide +kernel)]
  rw [rdF_end (by decide +kernel)]
  decide +kernel
theorem wake_read : readX [130, 2, 7, 130, 2, 6, 131, 2, 24] = ([(3, [0, 2]), (4, [1])], 0) := by
  have b : sB [130, 2, 7, 130, 2, 6, 131, 2, 24] = [130, 2, 6, 131, 2, 24] := by unfold sB; rw [wake_a]; rfl
  have c : sC [130, 2, 7, 130, 2, 6, 131, 2, 24] = [131, 2, 24] := by unfold sC; rw [b, wake_b]; rfl
  have d : sD [130, 2, 7, 130, 2, 6, 131, 2, 24] = [] := by unfold sD; rw [c, wake_c]; rfl
  unfold readX
  rw [b, c, d, wake_a, wake_b, wake_c]
  decide +kernel
theorem wake_all : readX (packP [(3, [0, 2]), (4, [1])]) = ([(3, [0, 2]), (4, [1])], 0) := by rw [wake_pack, wake_read]
end Go.PostP
