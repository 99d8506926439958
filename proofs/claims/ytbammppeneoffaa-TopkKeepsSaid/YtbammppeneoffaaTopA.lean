/-
  The walks of Better.
-/
import Derived.Test.YtbammppeneoffaaHitP
import Derived.Test.YtbammppeneoffaaObj
import Derived.Test.YtbammppeneoffaaHeld
import Derived.Test.YtbammppeneoffaaLend
import Derived.Test.YtbammppeneoffaaIface
import Derived.Test.YtbammppeneoffaaChecked
namespace Go.Proofs.Ytbammppeneoffaa
open Go Go.Gw Go.HitP Go.RowKit
set_option linter.unusedVariables false
set_option linter.unusedSimpArgs false

theorem pE3 : Plain Try.prog 3 := ⟨.int .i64, by kernel_rfl, (fun _ h => by cases h), (fun _ _ h => by cases h)⟩
theorem pE9 : Plain Try.prog 9 := ⟨.string, by kernel_rfl, (fun _ h => by cases h), (fun _ _ h => by cases h)⟩

set_option maxHeartbeats 400000 in
theorem better_c (a b : Hit) (w : World) :
    Calls Try.prog 16 #[.agg #[.string (sb (a.key)), .int .i64 (a.score)], .agg #[.string (sb (b.key)), .int .i64 (b.score)]] w (fun e w' => e = .returned (.bool (better a b)) ∧ Mem [] w w' []) := by
  obtain ⟨R, hR⟩ : ∃ R : Ending → World → Prop, R = (fun e w' => e = .returned (.bool (better a b)) ∧ Mem [] w w' []) := ⟨_, rfl⟩
  rw [← hR]
  refine GoS.enter (n := 20) Try.func16 (by kernel_rfl) rfl [(0, .agg #[.string (sb (a.key)), .int .i64 (a.score)]), (1, .agg #[.string (sb (b.key)), .int .i64 (b.score)])] (by kernel_rfl) (by kernel_rfl) ?_
  have hM0 := Mem.start w
  obtain ⟨b1, w2, hr3, hM4⟩ := m_box (T := 31) (k := 2) (u := .agg #[.string (sb (a.key)), .int .i64 (a.score)]) rfl rfl hM0
  have hM5 : Mem [] w w2 [⟨31, 2, (obj b1), 1, [.string (sb (a.key)), .int .i64 (a.score)]⟩] := hM4
  have o11 : (Instr.box 31 (.agg #[.string (sb (a.key)), .int .i64 (a.score)])).run Try.prog w = .ok (.pointer (some (⟨b1, 0, none⟩))) w2 := hr3
  obtain ⟨b6, w7, hr8, hM9⟩ := m_box (T := 31) (k := 2) (u := .agg #[.string (sb (b.key)), .int .i64 (b.score)]) rfl rfl hM5
  have hM10 : Mem [] w w7 [⟨31, 2, (obj b6), 1, [.string (sb (b.key)), .int .i64 (b.score)]⟩, ⟨31, 2, (obj b1), 1, [.string (sb (a.key)), .int .i64 (a.score)]⟩] := hM9
  have o12 : (Instr.box 31 (.agg #[.string (sb (b.key)), .int .i64 (b.score)])).run Try.prog w2 = .ok (.pointer (some (⟨b6, 0, none⟩))) w7 := hr8
  have o13 : (Instr.loadAt 3 (.pointer (some (⟨b1, 1, none⟩)))).run Try.prog w7 = .ok (.int .i64 (a.score)) w7 := c_load pE3 (hM10.rd 1 rfl) (cel_obj b1 1) rfl
  have o14 : (Instr.loadAt 3 (.pointer (some (⟨b6, 1, none⟩)))).run Try.prog w7 = .ok (.int .i64 (b.score)) w7 := c_load pE3 (hM10.rd 0 rfl) (cel_obj b6 1) rfl
  refine GoS.run [2, 3, 9] [.n, .n, .u (.pointer (some (⟨b1, 0, none⟩))) (w2), .u (.pointer (some (⟨b6, 0, none⟩))) (w7), .n, .n, .n, .n, .n, .n, .h (.int .i64 (a.score)), .n, .h (.int .i64 (b.score)), .n, .n] _ [.code (csub (cd Try.f16) [1,0,1]), .code (csub (cd Try.f16) [1,1])] [(2, .pointer (some (⟨b1, 0, none⟩))), (3, .pointer (some (⟨b6, 0, none⟩))), (9, .bool (a.score != b.score))] w7 (by kernel_rfl) (.cons o11 (.cons o12 (.cons o13 (.cons o14 .nil)))) ?_
  refine GoS.cond (a.score != b.score) [.code (csub (cd Try.f16) [1,0,1,0]), .code (csub (cd Try.f16) [1,1])] [.code (csub (cd Try.f16) [1,0,1,1]), .code (csub (cd Try.f16) [1,1])] (by kernel_rfl) (fun h15 => ?_) (fun h15 => ?_)
  ·
    have h15p : ¬ (a.score = b.score) := bne_iff_ne.1 h15
    have o16 : (Instr.loadAt 3 (.pointer (some (⟨b1, 1, none⟩)))).run Try.prog w7 = .ok (.int .i64 (a.score)) w7 := c_load pE3 (hM10.rd 1 rfl) (cel_obj b1 1) rfl
    have o17 : (Instr.loadAt 3 (.pointer (some (⟨b6, 1, none⟩)))).run Try.prog w7 = .ok (.int .i64 (b.score)) w7 := c_load pE3 (hM10.rd 0 rfl) (cel_obj b6 1) rfl
    have hM18 : Mem [] w w7 [] := hM10.sub (List.Sublist.cons _ (List.Sublist.cons _ (List.Sublist.refl _)))
    refine GoS.run [4] [.n, .n, .n, .h (.int .i64 (a.score)), .n, .h (.int .i64 (b.score)), .n, .n, .n] _ [.code (csub (cd Try.f16) [1,0,1,0,1]), .code (csub (cd Try.f16) [1,1])] [(4, .bool (decide (a.score > b.score)))] w7 (by kernel_rfl) (.cons o16 (.cons o17 .nil)) ?_
    refine GoS.ret (fn := Try.f16) (v := (.bool (decide (a.score > b.score)))) Try.func16 (by kernel_rfl) ?_
    rw [hR]
    exact ⟨ret_bool (by first | exact (better_ne (by omega)).symm | exact (better_t1 (by omega)).symm | exact (better_f1 (by omega) (by omega)).symm | exact (better_eq (by omega)).symm | (rw [better_eq (by omega)]; first | assumption | (symm; assumption))), hM18.sub (List.nil_sublist _)⟩
  ·
    have h15p : a.score = b.score := p_eq h15
    refine GoS.run [2, 3] [.n] _ [.code (csub (cd Try.f16) [1,1])] [(2, .pointer (some (⟨b1, 0, none⟩))), (3, .pointer (some (⟨b6, 0, none⟩)))] w7 (by kernel_rfl) .nil ?_
    have o19 : (Instr.loadAt 9 (.pointer (some (⟨b1, 0, none⟩)))).run Try.prog w7 = .ok (.string (sb (a.key))) w7 := c_load pE9 (hM10.rd 1 rfl) (cel_obj b1 0) rfl
    have o20 : (Instr.loadAt 9 (.pointer (some (⟨b6, 0, none⟩)))).run Try.prog w7 = .ok (.string (sb (b.key))) w7 := c_load pE9 (hM10.rd 0 rfl) (cel_obj b6 0) rfl
    have o21 : (binOp .lss 9 (.string (sb (a.key))) (.string (sb (b.key)))).run Try.prog w7 = .ok (.bool (Op.bytesLess (a.key) (b.key))) w7 := f_strlt
    have hM22 : Mem [] w w7 [] := hM10.sub (List.Sublist.cons _ (List.Sublist.cons _ (List.Sublist.refl _)))
    refine GoS.run [4] [.n, .n, .n, .h (.string (sb (a.key))), .n, .h (.string (sb (b.key))), .h (.bool (Op.bytesLess (a.key) (b.key))), .n, .n] _ [.code (csub (cd Try.f16) [1,1,1])] [(4, .bool (Op.bytesLess (a.key) (b.key)))] w7 (by kernel_rfl) (.cons o19 (.cons o20 (.cons o21 .nil))) ?_
    refine GoS.ret (fn := Try.f16) (v := (.bool (Op.bytesLess (a.key) (b.key)))) Try.func16 (by kernel_rfl) ?_
    rw [hR]
    exact ⟨ret_bool (by first | exact (better_ne (by omega)).symm | exact (better_t1 (by omega)).symm | exact (better_f1 (by omega) (by omega)).symm | exact (better_eq (by omega)).symm | (rw [better_eq (by omega)]; first | assumption | (symm; assumption))), hM22.sub (List.nil_sublist _)⟩

set_option maxHeartbeats 400000 in
theorem rbetter_c (a b : Hit) (w : World) :
    Calls Try.prog 12 #[.agg #[.string (sb (a.key)), .int .i64 (a.score)], .agg #[.string (sb (b.key)), .int .i64 (b.score)]] w (fun e w' => e = .returned (.bool (better a b)) ∧ Mem [] w w' []) := by
  obtain ⟨R, hR⟩ : ∃ R : Ending → World → Prop, R = (fun e w' => e = .returned (.bool (better a b)) ∧ Mem [] w w' []) := ⟨_, rfl⟩
  rw [← hR]
  refine GoS.enter (n := 24) Try.func12 (by kernel_rfl) rfl [(0, .agg #[.string (sb (a.key)), .int .i64 (a.score)]), (1, .agg #[.string (sb (b.key)), .int .i64 (b.score)])] (by kernel_rfl) (by kernel_rfl) ?_
  have hM0 := Mem.start w
  obtain ⟨b1, w2, hr3, hM4⟩ := m_box (T := 31) (k := 2) (u := .agg #[.string (sb (a.key)), .int .i64 (a.score)]) rfl rfl hM0
  have hM5 : Mem [] w w2 [⟨31, 2, (obj b1), 1, [.string (sb (a.key)), .int .i64 (a.score)]⟩] := hM4
  have o11 : (Instr.box 31 (.agg #[.string (sb (a.key)), .int .i64 (a.score)])).run Try.prog w = .ok (.pointer (some (⟨b1, 0, none⟩))) w2 := hr3
  obtain ⟨b6, w7, hr8, hM9⟩ := m_box (T := 31) (k := 2) (u := .agg #[.string (sb (b.key)), .int .i64 (b.score)]) rfl rfl hM5
  have hM10 : Mem [] w w7 [⟨31, 2, (obj b6), 1, [.string (sb (b.key)), .int .i64 (b.score)]⟩, ⟨31, 2, (obj b1), 1, [.string (sb (a.key)), .int .i64 (a.score)]⟩] := hM9
  have o12 : (Instr.box 31 (.agg #[.string (sb (b.key)), .int .i64 (b.score)])).run Try.prog w2 = .ok (.pointer (some (⟨b6, 0, none⟩))) w7 := hr8
  have o13 : (Instr.loadAt 3 (.pointer (some (⟨b1, 1, none⟩)))).run Try.prog w7 = .ok (.int .i64 (a.score)) w7 := c_load pE3 (hM10.rd 1 rfl) (cel_obj b1 1) rfl
  have o14 : (Instr.loadAt 3 (.pointer (some (⟨b6, 1, none⟩)))).run Try.prog w7 = .ok (.int .i64 (b.score)) w7 := c_load pE3 (hM10.rd 0 rfl) (cel_obj b6 1) rfl
  refine GoS.run [2, 3, 10] [.n, .n, .u (.pointer (some (⟨b1, 0, none⟩))) (w2), .u (.pointer (some (⟨b6, 0, none⟩))) (w7), .n, .n, .n, .n, .n, .h (.int .i64 (a.score)), .n, .h (.int .i64 (b.score)), .n, .n] _ [.inRegion (cops (csub (cd Try.f12) [1,0])) [6,7,8,9,10,11,12,13,14,15,16,17,18,19], .code (csub (cd Try.f12) [1,1])] [(2, .pointer (some (⟨b1, 0, none⟩))), (3, .pointer (some (⟨b6, 0, none⟩))), (10, .bool (decide (a.score > b.score)))] w7 (by kernel_rfl) (.cons o11 (.cons o12 (.cons o13 (.cons o14 .nil)))) ?_
  refine GoS.fork 10 (decide (a.score > b.score)) (by kernel_rfl) (fun h15 => ?_) (fun h15 => ?_)
  ·
    have h15p : a.score > b.score := of_decide_eq_true h15
    have hM16 : Mem [] w w7 [] := hM10.sub (List.Sublist.cons _ (List.Sublist.cons _ (List.Sublist.refl _)))
    refine GoS.run [4] [.n, .n, .n, .n, .n, .n, .n, .n, .n, .n, .n, .n, .n, .n] _ [.inRegion (cops (csub (cd Try.f12) [1,0])) [], .code (csub (cd Try.f12) [1,1])] [(4, .bool true)] w7 (by kernel_rfl) .nil ?_
    refine GoS.run [4] [.n] _ [.code (csub (cd Try.f12) [1,1])] [(4, .bool true)] w7 (by kernel_rfl) .nil ?_
    refine GoS.ret (fn := Try.f12) (v := (.bool true)) Try.func12 (by kernel_rfl) ?_
    rw [hR]
    exact ⟨ret_bool (by first | exact (better_ne (by omega)).symm | exact (better_t1 (by omega)).symm | exact (better_f1 (by omega) (by omega)).symm | exact (better_eq (by omega)).symm | (rw [better_eq (by omega)]; first | assumption | (symm; assumption))), hM16.sub (List.nil_sublist _)⟩
  ·
    have h15p : ¬ (a.score > b.score) := of_decide_eq_false h15
    have o17 : (Instr.loadAt 3 (.pointer (some (⟨b1, 1, none⟩)))).run Try.prog w7 = .ok (.int .i64 (a.score)) w7 := c_load pE3 (hM10.rd 1 rfl) (cel_obj b1 1) rfl
    have o18 : (Instr.loadAt 3 (.pointer (some (⟨b6, 1, none⟩)))).run Try.prog w7 = .ok (.int .i64 (b.score)) w7 := c_load pE3 (hM10.rd 0 rfl) (cel_obj b6 1) rfl
    refine GoS.run [2, 3, 10, 16] [.n, .h (.int .i64 (a.score)), .n, .h (.int .i64 (b.score)), .n, .n] _ [.inRegion (cops (csub (cd Try.f12) [1,0])) [12,13,14,15,16,17,18,19], .code (csub (cd Try.f12) [1,1])] [(2, .pointer (some (⟨b1, 0, none⟩))), (3, .pointer (some (⟨b6, 0, none⟩))), (10, .bool false), (16, .bool (a.score == b.score))] w7 (by kernel_rfl) (.cons o17 (.cons o18 .nil)) ?_
    refine GoS.fork 16 (a.score == b.score) (by kernel_rfl) (fun h19 => ?_) (fun h19 => ?_)
    ·
      have h19p : a.score = b.score := eq_of_beq h19
      have o20 : (Instr.loadAt 9 (.pointer (some (⟨b1, 0, none⟩)))).run Try.prog w7 = .ok (.string (sb (a.key))) w7 := c_load pE9 (hM10.rd 1 rfl) (cel_obj b1 0) rfl
      have o21 : (Instr.loadAt 9 (.pointer (some (⟨b6, 0, none⟩)))).run Try.prog w7 = .ok (.string (sb (b.key))) w7 := c_load pE9 (hM10.rd 0 rfl) (cel_obj b6 0) rfl
      have o22 : (binOp .lss 9 (.string (sb (a.key))) (.string (sb (b.key)))).run Try.prog w7 = .ok (.bool (Op.bytesLess (a.key) (b.key))) w7 := f_strlt
      have hM23 : Mem [] w w7 [] := hM10.sub (List.Sublist.cons _ (List.Sublist.cons _ (List.Sublist.refl _)))
      refine GoS.run [4] [.n, .h (.string (sb (a.key))), .n, .h (.string (sb (b.key))), .h (.bool (Op.bytesLess (a.key) (b.key))), .n, .n, .n] _ [.inRegion (cops (csub (cd Try.f12) [1,0])) [], .code (csub (cd Try.f12) [1,1])] [(4, .bool (Op.bytesLess (a.key) (b.key)))] w7 (by kernel_rfl) (.cons o20 (.cons o21 (.cons o22 .nil))) ?_
      refine GoS.run [4] [.n] _ [.code (csub (cd Try.f12) [1,1])] [(4, .bool (Op.bytesLess (a.key) (b.key)))] w7 (by kernel_rfl) .nil ?_
      refine GoS.ret (fn := Try.f12) (v := (.bool (Op.bytesLess (a.key) (b.key)))) Try.func12 (by kernel_rfl) ?_
      rw [hR]
      exact ⟨ret_bool (by first | exact (better_ne (by omega)).symm | exact (better_t1 (by omega)).symm | exact (better_f1 (by omega) (by omega)).symm | exact (better_eq (by omega)).symm | (rw [better_eq (by omega)]; first | assumption | (symm; assumption))), hM23.sub (List.nil_sublist _)⟩
    ·
      have h19p : ¬ (a.score = b.score) := p_ne h19
      have hM24 : Mem [] w w7 [] := hM10.sub (List.Sublist.cons _ (List.Sublist.cons _ (List.Sublist.refl _)))
      refine GoS.run [4] [.n, .n, .n, .n, .n, .n, .n, .n] _ [.inRegion (cops (csub (cd Try.f12) [1,0])) [], .code (csub (cd Try.f12) [1,1])] [(4, .bool false)] w7 (by kernel_rfl) .nil ?_
      refine GoS.run [4] [.n] _ [.code (csub (cd Try.f12) [1,1])] [(4, .bool false)] w7 (by kernel_rfl) .nil ?_
      refine GoS.ret (fn := Try.f12) (v := (.bool false)) Try.func12 (by kernel_rfl) ?_
      rw [hR]
      exact ⟨ret_bool (by first | exact (better_ne (by omega)).symm | exact (better_t1 (by omega)).symm | exact (better_f1 (by omega) (by omega)).symm | exact (better_eq (by omega)).symm | (rw [better_eq (by omega)]; first | assumption | (symm; assumption))), hM24.sub (List.nil_sublist _)⟩


end Go.Proofs.Ytbammppeneoffaa
