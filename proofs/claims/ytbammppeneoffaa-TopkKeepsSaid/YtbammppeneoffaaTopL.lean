/-
  The laws of tops: lists that are offered, step by step. No condition beyond those that each theorem names.
-/
import Derived.Test.YtbammppeneoffaaHitP
namespace Go.HitP
open Go.Gw
set_option linter.unusedVariables false
set_option linter.unusedSimpArgs false
theorem take_snoc {l : List Hit} {i : Nat} (h : i < l.length) : l.take (i + 1) = l.take i ++ [l.getD i hz] := by
  rw [List.take_succ_eq_append_getElem h, List.getD_eq_getElem?_getD, List.getElem?_eq_getElem h]; rfl
theorem rev_snoc {l : List Hit} {i : Nat} (h : i < l.length) : l.reverse.take (i + 1) = l.reverse.take i ++ [l.getD (l.length - 1 - i) hz] := by
  rw [take_snoc (by simpa using h)]
  congr 2
  rw [List.getD_eq_getElem?_getD, List.getD_eq_getElem?_getD, List.getElem?_reverse h]
theorem take_fin {l : List Hit} {i : Nat} (h : ¬ i < l.length) : l.take i = l := List.take_of_length_le (by omega)
theorem ord_xy {l : List Hit} {i : Nat} (h : ¬ i < l.length) : (srt (l.take i)).take 100 = (srt (l.reverse.take i)).take 100 := by
  rw [take_fin h, take_fin (l := l.reverse) (by simpa using h), srt_congr (List.reverse_perm l)]
theorem ord_z {l : List Hit} {i m : Nat} (h : ¬ i < l.length) (hl : l.length ≤ 100) (hm : m ≤ 100) : (srt (l.take i)).take m = ((srt (l.take i)).take 100).take (min m ((srt (l.take i)).take 100).length) := by
  rw [take_fin h, List.take_of_length_le (show (srt l).length ≤ 100 by rw [srt_len]; exact hl), ← List.take_eq_take_min]
theorem newE_bad {m : Int} (h : ¬ (1 ≤ m ∧ m ≤ 100)) : newE m ≠ 0 := by
  unfold newE
  split
  · decide
  · rw [if_pos (by omega)]; decide
end Go.HitP
namespace Go.HitP
open Go.Gw
theorem parts_zw {l k X Y : List Hit} {m i : Nat} (hX : X = (srt l).take m) (hY : Y = (srt k).take m) (h : ¬ i < Y.length) : (srt (l ++ k)).take m = (srt (X ++ Y.take i)).take m := by
  rw [take_fin h, hX, hY]; exact best_parts l k m
end Go.HitP
namespace Go.HitP
open Go.Gw
theorem pos_drop {x : Hit} {l : List Hit} {k : Nat} (h : k < l.length) : posH x (l.drop k) = if better x (l.getD k hz) = true then 0 else posH x (l.drop (k + 1)) + 1 := by
  rw [List.drop_eq_getElem_cons h, posH, List.getD_eq_getElem?_getD, List.getElem?_eq_getElem h]; rfl
theorem pos_step {x : Hit} {l : List Hit} {k : Nat} (hp : posH x l = k + posH x (l.drop k)) (h : k < l.length) (hb : better x (l.getD k hz) = false) : posH x l = (k + 1) + posH x (l.drop (k + 1)) := by
  rw [hp, pos_drop h, hb]; simp; omega
theorem pos_at1 {x : Hit} {l : List Hit} {k : Nat} (hp : posH x l = k + posH x (l.drop k)) (h : ¬ k < l.length) : posH x l = k := by
  rw [hp, List.drop_eq_nil_of_le (by omega)]; rfl
theorem pos_at2 {x : Hit} {l : List Hit} {k : Nat} (hp : posH x l = k + posH x (l.drop k)) (h : k < l.length) (hb : better x (l.getD k hz) = true) : posH x l = k := by
  rw [hp, pos_drop h, hb]; rfl
theorem put_end {x : Hit} {l : List Hit} {k : Nat} (h : posH x l = k) : (l.take k ++ [x]) ++ l.drop k = ins x l := by
  rw [ins_pos, h]; simp
theorem ins_take {l : List Hit} {i : Nat} (h : i < l.length) : ins (l.getD i hz) (srt (l.take i)) = srt (l.take (i + 1)) := by
  rw [take_snoc h, srt_snoc]
theorem keep_same {l : List Hit} {x : Hit} {m : Nat} : (srt (l ++ [x])).take m = (ins x (srt l)).take (min m (ins x (srt l)).length) := by
  rw [srt_snoc, ← List.take_eq_take_min]
theorem keep_same2 {L : List Hit} {m : Nat} : L.take m = L.take (min m L.length) := by
  rw [← List.take_eq_take_min]
theorem ins_len (x : Hit) (L : List Hit) : (ins x L).length = L.length + 1 := (ins_perm x L).length_eq
end Go.HitP
