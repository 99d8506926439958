/-
  The walk of first: the first character of bytes that are not none.
-/
import Derived.Test.YtnhplkkbpmijdaaUtfC
import Derived.Test.YtnhplkkbpmijdaaObj
namespace Go.Proofs.Ytnhplkkbpmijdaa
open Go Go.Gw Go.UtfP Go.TokP Go.RowKit
set_option linter.unusedVariables false
set_option linter.unusedSimpArgs false


set_option maxHeartbeats 400000 in
theorem first_c (s : List UInt8) (hs : 0 < s.length) (w : World) :
    Calls Try.prog 43 #[.string (sb s)] w (fun e w' => e = .returned (.tuple #[.int .i64 (firstP s).1, .int .i64 (firstP s).2]) ∧ w = w') := by
  obtain ⟨R, hR⟩ : ∃ R : Ending → World → Prop, R = (fun e w' => e = .returned (.tuple #[.int .i64 (firstP s).1, .int .i64 (firstP s).2]) ∧ w = w') := ⟨_, rfl⟩
  rw [← hR]
  refine GoS.enter (n := 64) Try.func43 (by kernel_rfl) rfl [(0, .string (sb s))] (by kernel_rfl) (by kernel_rfl) ?_
  have hb1 := bl_bd s 0
  have o2 : (Instr.index 9 (.string (sb s)) (.int .i64 0)).run Try.prog w = .ok (.int .u8 (bl s 0)) w := f_index 0 (by kernel_rfl) (by omega) (by omega)
  have o3 : (convert 5 3 (.int .u8 (bl s 0))).run Try.prog w = .ok (.int .i64 (bl s 0)) w := f_conv (u := .int .u8) (by kernel_rfl) (by kernel_rfl) (IntWalk.i64_in _ (by omega))
  refine GoS.run [0, 4, 10] [.n, .n, .n, .n, .n, .n, .n, .n, .h (.int .u8 (bl s 0)), .h (.int .i64 (bl s 0)), .n, .n, .n, .n, .n, .n, .n, .n, .n, .n, .n, .n, .n, .n] _ [.code (csub (cd Try.f43) [1,1,1,0,0,1]), .inBlock 0, .code (csub (cd Try.f43) [1,1,1,1])] [(0, .string (sb s)), (4, .int .i64 (bl s 0)), (10, .bool (decide ((bl s 0) < 128)))] w (by kernel_rfl) (.cons o2 (.cons o3 .nil)) ?_
  refine GoS.cond (decide ((bl s 0) < 128)) [.code (csub (cd Try.f43) [1,1,1,0,0,1,0]), .inBlock 0, .code (csub (cd Try.f43) [1,1,1,1])] [.code (csub (cd Try.f43) [1,1,1,0,0,1,1]), .inBlock 0, .code (csub (cd Try.f43) [1,1,1,1])] (by kernel_rfl) (fun h4 => ?_) (fun h4 => ?_)
  ·
    have h4p : (bl s 0) < 128 := of_decide_eq_true h4
    refine GoS.run [2, 3] [.n, .n, .n, .n, .n, .n] _ [.code (csub (cd Try.f43) [1,1,1,0,0,1,0,1]), .inBlock 0, .code (csub (cd Try.f43) [1,1,1,1])] [(2, .int .i64 (bl s 0)), (3, .int .i64 1)] w (by kernel_rfl) .nil ?_
    refine GoS.ret (fn := Try.f43) (v := (.tuple #[.int .i64 (bl s 0), .int .i64 1])) Try.func43 (by kernel_rfl) ?_
    rw [hR]
    have e : firstP s = ((bl s 0), 1) := by
      unfold firstP
      rw [if_pos h4p]
    exact ⟨ret_int2 (by rw [e]) (by rw [e]), rfl⟩
  ·
    have h4p : ¬ ((bl s 0) < 128) := of_decide_eq_false h4
    refine GoS.run [0, 4, 14] [.n, .n, .n, .n, .n, .n] _ [.code (csub (cd Try.f43) [1,1,1,0,0,1,1,1]), .inBlock 0, .code (csub (cd Try.f43) [1,1,1,1])] [(0, .string (sb s)), (4, .int .i64 (bl s 0)), (14, .bool (decide ((bl s 0) < 192)))] w (by kernel_rfl) .nil ?_
    refine GoS.cond (decide ((bl s 0) < 192)) [.code (csub (cd Try.f43) [1,1,1,0,0,1,1,1,0]), .inBlock 0, .code (csub (cd Try.f43) [1,1,1,1])] [.code (csub (cd Try.f43) [1,1,1,0,0,1,1,1,1]), .inBlock 0, .code (csub (cd Try.f43) [1,1,1,1])] (by kernel_rfl) (fun h5 => ?_) (fun h5 => ?_)
    ·
      have h5p : (bl s 0) < 192 := of_decide_eq_true h5
      refine GoS.run [2, 3] [.n, .n, .n, .n, .n] _ [.code (csub (cd Try.f43) [1,1,1,0,0,1,1,1,0,1]), .inBlock 0, .code (csub (cd Try.f43) [1,1,1,1])] [(2, .int .i64 0), (3, .int .i64 0)] w (by kernel_rfl) .nil ?_
      refine GoS.ret (fn := Try.f43) (v := (.tuple #[.int .i64 0, .int .i64 0])) Try.func43 (by kernel_rfl) ?_
      rw [hR]
      have e : firstP s = (0, 0) := by
        unfold firstP
        rw [if_neg h4p]
        rw [if_pos h5p]
      exact ⟨ret_int2 (by rw [e]) (by rw [e]), rfl⟩
    ·
      have h5p : ¬ ((bl s 0) < 192) := of_decide_eq_false h5
      refine GoS.run [0, 4, 17] [.n, .n, .n, .n, .n, .n] _ [.code (csub (cd Try.f43) [1,1,1,0,0,1,1,1,1,1]), .inBlock 0, .code (csub (cd Try.f43) [1,1,1,1])] [(0, .string (sb s)), (4, .int .i64 (bl s 0)), (17, .bool (decide ((bl s 0) < 224)))] w (by kernel_rfl) .nil ?_
      refine GoS.cond (decide ((bl s 0) < 224)) [.code (csub (cd Try.f43) [1,1,1,0,0,1,1,1,1,1,0]), .inBlock 0, .code (csub (cd Try.f43) [1,1,1,1])] [.code (csub (cd Try.f43) [1,1,1,0,0,1,1,1,1,1,1]), .inBlock 0, .code (csub (cd Try.f43) [1,1,1,1])] (by kernel_rfl) (fun h6 => ?_) (fun h6 => ?_)
      ·
        have h6p : (bl s 0) < 224 := of_decide_eq_true h6
        have o7 : (binOp .and 3 (.int .i64 (bl s 0)) (.int .i64 31)).run Try.prog w = .ok (.int .i64 ((bl s 0) % 32)) w := f_and (and_i64 _ 5 31 (by decide) (by decide))
        refine GoS.run [0, 2, 3, 5] [.n, .n, .h (.int .i64 ((bl s 0) % 32)), .n, .n, .n, .n] _ [.inBlock 0, .code (csub (cd Try.f43) [1,1,1,1])] [(0, .string (sb s)), (2, .int .i64 ((bl s 0) % 32)), (3, .int .i64 2), (5, .int .i64 128)] w (by kernel_rfl) (.cons o7 .nil) ?_
        have o12 : (Builtin.len_ #[9] 3 #[.string (sb s)]).run Try.prog w = .ok (.int .i64 ((s.length : Nat) : Int)) w := f_len (by kernel_rfl)
        refine GoS.run [0, 2, 3, 5, 35] [.n, .n, .n, .n, .n, .n, .h (.int .i64 ((s.length : Nat) : Int)), .n, .n] _ [.code (csub (cd Try.f43) [1,1,1,1,0,1]), .code (csub (cd Try.f43) [1,1,1,1,1])] [(0, .string (sb s)), (2, .int .i64 ((bl s 0) % 32)), (3, .int .i64 2), (5, .int .i64 128), (35, .bool (decide (2 > ((s.length : Nat) : Int))))] w (by kernel_rfl) (.cons o12 .nil) ?_
        refine GoS.cond (decide (2 > ((s.length : Nat) : Int))) [.code (csub (cd Try.f43) [1,1,1,1,0,1,0]), .code (csub (cd Try.f43) [1,1,1,1,1])] [.code (csub (cd Try.f43) [1,1,1,1,0,1,1]), .code (csub (cd Try.f43) [1,1,1,1,1])] (by kernel_rfl) (fun h13 => ?_) (fun h13 => ?_)
        ·
          have h13p : 2 > ((s.length : Nat) : Int) := of_decide_eq_true h13
          refine GoS.run [2, 3] [.n, .n, .n, .n, .n] _ [.code (csub (cd Try.f43) [1,1,1,1,0,1,0,1]), .code (csub (cd Try.f43) [1,1,1,1,1])] [(2, .int .i64 0), (3, .int .i64 0)] w (by kernel_rfl) .nil ?_
          refine GoS.ret (fn := Try.f43) (v := (.tuple #[.int .i64 0, .int .i64 0])) Try.func43 (by kernel_rfl) ?_
          rw [hR]
          have e : firstP s = (0, 0) := by
            unfold firstP
            rw [if_neg h4p]
            rw [if_neg h5p]
            rw [if_pos h6p]
            rw [if_pos (by first | exact Or.inl (by omega) | exact Or.inr (Or.inl (by omega)) | exact Or.inr (Or.inr (Or.inl (by omega))) | exact Or.inr (Or.inr (Or.inr (Or.inl (by omega)))) | exact Or.inr (Or.inr (Or.inr (Or.inr (Or.inl (by omega))))) | exact Or.inr (Or.inr (Or.inr (Or.inr (Or.inr (Or.inl (by omega)))))) | (simp_all; done))]
          exact ⟨ret_int2 (by rw [e]) (by rw [e]), rfl⟩
        ·
          have h13p : ¬ (2 > ((s.length : Nat) : Int)) := of_decide_eq_false h13
          refine GoS.run [0, 2, 3, 5] [.n] _ [.code (csub (cd Try.f43) [1,1,1,1,1])] [(0, .string (sb s)), (2, .int .i64 ((bl s 0) % 32)), (3, .int .i64 2), (5, .int .i64 128)] w (by kernel_rfl) .nil ?_
          have hb14 := bl_bd s 1
          have o15 : (Instr.index 9 (.string (sb s)) (.int .i64 1)).run Try.prog w = .ok (.int .u8 (bl s 1)) w := f_index 1 (by kernel_rfl) (by omega) (by omega)
          have o16 : (binOp .and 5 (.int .u8 (bl s 1)) (.int .u8 192)).run Try.prog w = .ok (.int .u8 ((bl s 1) / 64 * 64)) w := f_and (and_c0 _ (by omega) (by omega))
          refine GoS.run [0, 2, 3, 5, 6, 45] [.n, .n, .n, .n, .n, .n, .n, .n, .n, .n, .n, .n, .n, .n, .n, .n, .n, .n, .n, .n, .n, .n, .n, .h (.int .u8 (bl s 1)), .h (.int .u8 ((bl s 1) / 64 * 64)), .n, .n] _ [.code (csub (cd Try.f43) [1,1,1,1,1,0,1,0,0,1,0,0,0,1]), .code (csub (cd Try.f43) [1,1,1,1,1,0,1,0,0,1,0,0,1]), .inBlock 2, .code (csub (cd Try.f43) [1,1,1,1,1,0,1,0,0,1,1]), .inLoop (csub (cd Try.f43) [1,1,1,1,1,0,1,0,0]), .inBlock 1, .code (csub (cd Try.f43) [1,1,1,1,1,1])] [(0, .string (sb s)), (2, .int .i64 ((bl s 0) % 32)), (3, .int .i64 2), (5, .int .i64 128), (6, .int .i64 1), (45, .bool (((bl s 1) / 64 * 64) != 128))] w (by kernel_rfl) (.cons o15 (.cons o16 .nil)) ?_
          refine GoS.cond (((bl s 1) / 64 * 64) != 128) [.code (csub (cd Try.f43) [1,1,1,1,1,0,1,0,0,1,0,0,0,1,0]), .code (csub (cd Try.f43) [1,1,1,1,1,0,1,0,0,1,0,0,1]), .inBlock 2, .code (csub (cd Try.f43) [1,1,1,1,1,0,1,0,0,1,1]), .inLoop (csub (cd Try.f43) [1,1,1,1,1,0,1,0,0]), .inBlock 1, .code (csub (cd Try.f43) [1,1,1,1,1,1])] [.code (csub (cd Try.f43) [1,1,1,1,1,0,1,0,0,1,0,0,0,1,1]), .code (csub (cd Try.f43) [1,1,1,1,1,0,1,0,0,1,0,0,1]), .inBlock 2, .code (csub (cd Try.f43) [1,1,1,1,1,0,1,0,0,1,1]), .inLoop (csub (cd Try.f43) [1,1,1,1,1,0,1,0,0]), .inBlock 1, .code (csub (cd Try.f43) [1,1,1,1,1,1])] (by kernel_rfl) (fun h17 => ?_) (fun h17 => ?_)
          ·
            have h17p : ¬ (((bl s 1) / 64 * 64) = 128) := bne_iff_ne.1 h17
            refine GoS.run [2, 3] [.n, .n, .n, .n, .n] _ [.code (csub (cd Try.f43) [1,1,1,1,1,0,1,0,0,1,0,0,0,1,0,1]), .code (csub (cd Try.f43) [1,1,1,1,1,0,1,0,0,1,0,0,1]), .inBlock 2, .code (csub (cd Try.f43) [1,1,1,1,1,0,1,0,0,1,1]), .inLoop (csub (cd Try.f43) [1,1,1,1,1,0,1,0,0]), .inBlock 1, .code (csub (cd Try.f43) [1,1,1,1,1,1])] [(2, .int .i64 0), (3, .int .i64 0)] w (by kernel_rfl) .nil ?_
            refine GoS.ret (fn := Try.f43) (v := (.tuple #[.int .i64 0, .int .i64 0])) Try.func43 (by kernel_rfl) ?_
            rw [hR]
            have e : firstP s = (0, 0) := by
              unfold firstP
              rw [if_neg h4p]
              rw [if_neg h5p]
              rw [if_pos h6p]
              rw [if_pos (by first | exact Or.inl (by omega) | exact Or.inr (Or.inl (by omega)) | exact Or.inr (Or.inr (Or.inl (by omega))) | exact Or.inr (Or.inr (Or.inr (Or.inl (by omega)))) | exact Or.inr (Or.inr (Or.inr (Or.inr (Or.inl (by omega))))) | exact Or.inr (Or.inr (Or.inr (Or.inr (Or.inr (Or.inl (by omega)))))) | (simp_all; done))]
            exact ⟨ret_int2 (by rw [e]) (by rw [e]), rfl⟩
          ·
            have h17p : ((bl s 1) / 64 * 64) = 128 := p_eq h17
            refine GoS.run [0, 2, 3, 5, 6] [.n] _ [.code (csub (cd Try.f43) [1,1,1,1,1,0,1,0,0,1,0,0,1]), .inBlock 2, .code (csub (cd Try.f43) [1,1,1,1,1,0,1,0,0,1,1]), .inLoop (csub (cd Try.f43) [1,1,1,1,1,0,1,0,0]), .inBlock 1, .code (csub (cd Try.f43) [1,1,1,1,1,1])] [(0, .string (sb s)), (2, .int .i64 ((bl s 0) % 32)), (3, .int .i64 2), (5, .int .i64 128), (6, .int .i64 1)] w (by kernel_rfl) .nil ?_
            have o19 : (binOp .shl 3 (.int .i64 ((bl s 0) % 32)) (.int .u64 6)).run Try.prog w = .ok (.int .i64 (((bl s 0) % 32) * 64)) w := f_shl (by decide) (by rw [show min (Int.toNat 6) _ = 6 by decide, show (2 : Int) ^ 6 = 64 by decide]; exact IntWalk.i64_in _ (by omega))
            have hb18 := bl_bd s 1
            have o20 : (Instr.index 9 (.string (sb s)) (.int .i64 1)).run Try.prog w = .ok (.int .u8 (bl s 1)) w := f_index 1 (by kernel_rfl) (by omega) (by omega)
            have o21 : (binOp .and 5 (.int .u8 (bl s 1)) (.int .u8 63)).run Try.prog w = .ok (.int .u8 ((bl s 1) % 64)) w := f_and (and_u8 _ 6 63 (by decide) (by decide))
            have o22 : (convert 5 3 (.int .u8 ((bl s 1) % 64))).run Try.prog w = .ok (.int .i64 ((bl s 1) % 64)) w := f_conv (u := .int .u8) (by kernel_rfl) (by kernel_rfl) (IntWalk.i64_in _ (by omega))
            have o23 : (binOp .or 3 (.int .i64 (((bl s 0) % 32) * 64)) (.int .i64 ((bl s 1) % 64))).run Try.prog w = .ok (.int .i64 ((((bl s 0) % 32) * 64) + ((bl s 1) % 64))) w := f_or (or_i64 6 64 (by decide) (by omega) (by omega) (by omega) (by omega) (by omega))
            refine GoS.run [2, 3, 57] [.n, .n, .h (.int .i64 (((bl s 0) % 32) * 64)), .n, .n, .h (.int .u8 (bl s 1)), .h (.int .u8 ((bl s 1) % 64)), .h (.int .i64 ((bl s 1) % 64)), .h (.int .i64 ((((bl s 0) % 32) * 64) + ((bl s 1) % 64))), .n, .n, .n, .n, .n, .n, .n, .n, .n, .n, .n, .n, .n, .n, .n, .n, .n, .n, .n, .n, .n, .n, .n, .n, .n] _ [.inRegion (cops (csub (cd Try.f43) [1,1,1,1,1,1,0,0])) [4,5,6,7], .code (csub (cd Try.f43) [1,1,1,1,1,1,0,1]), .code (csub (cd Try.f43) [1,1,1,1,1,1,1])] [(2, .int .i64 ((((bl s 0) % 32) * 64) + ((bl s 1) % 64))), (3, .int .i64 2), (57, .bool (decide (((((bl s 0) % 32) * 64) + ((bl s 1) % 64)) < 128)))] w (by kernel_rfl) (.cons o19 (.cons o20 (.cons o21 (.cons o22 (.cons o23 .nil))))) ?_
            refine GoS.fork 57 (decide (((((bl s 0) % 32) * 64) + ((bl s 1) % 64)) < 128)) (by kernel_rfl) (fun h24 => ?_) (fun h24 => ?_)
            ·
              have h24p : ((((bl s 0) % 32) * 64) + ((bl s 1) % 64)) < 128 := of_decide_eq_true h24
              refine GoS.run [2, 3, 61] [.n, .n, .n, .n] _ [.inRegion (cops (csub (cd Try.f43) [1,1,1,1,1,1,0,0])) [], .code (csub (cd Try.f43) [1,1,1,1,1,1,0,1]), .code (csub (cd Try.f43) [1,1,1,1,1,1,1])] [(2, .int .i64 ((((bl s 0) % 32) * 64) + ((bl s 1) % 64))), (3, .int .i64 2), (61, .bool true)] w (by kernel_rfl) .nil ?_
              refine GoS.run [2, 3] [.n, .n, .n, .n, .n, .n, .n] _ [.code (csub (cd Try.f43) [1,1,1,1,1,1,0,1,0,1]), .code (csub (cd Try.f43) [1,1,1,1,1,1,1])] [(2, .int .i64 0), (3, .int .i64 0)] w (by kernel_rfl) .nil ?_
              refine GoS.ret (fn := Try.f43) (v := (.tuple #[.int .i64 0, .int .i64 0])) Try.func43 (by kernel_rfl) ?_
              rw [hR]
              have e : firstP s = (0, 0) := by
                unfold firstP
                rw [if_neg h4p]
                rw [if_neg h5p]
                rw [if_pos h6p]
                rw [if_pos (by first | exact Or.inl (by omega) | exact Or.inr (Or.inl (by omega)) | exact Or.inr (Or.inr (Or.inl (by omega))) | exact Or.inr (Or.inr (Or.inr (Or.inl (by omega)))) | exact Or.inr (Or.inr (Or.inr (Or.inr (Or.inl (by omega))))) | exact Or.inr (Or.inr (Or.inr (Or.inr (Or.inr (Or.inl (by omega)))))) | (simp_all; done))]
              exact ⟨ret_int2 (by rw [e]) (by rw [e]), rfl⟩
            ·
              have h24p : ¬ (((((bl s 0) % 32) * 64) + ((bl s 1) % 64)) < 128) := of_decide_eq_false h24
              refine GoS.run [2, 3, 57, 58] [.n] _ [.inRegion (cops (csub (cd Try.f43) [1,1,1,1,1,1,0,0])) [5,6,7], .code (csub (cd Try.f43) [1,1,1,1,1,1,0,1]), .code (csub (cd Try.f43) [1,1,1,1,1,1,1])] [(2, .int .i64 ((((bl s 0) % 32) * 64) + ((bl s 1) % 64))), (3, .int .i64 2), (57, .bool false), (58, .int .i64 ((((bl s 0) % 32) * 64) + ((bl s 1) % 64)))] w (by kernel_rfl) .nil ?_
              refine GoS.call [2, 3, 57] 44 #[.int .i64 ((((bl s 0) % 32) * 64) + ((bl s 1) % 64))] (some 59) [.inRegion (cops (csub (cd Try.f43) [1,1,1,1,1,1,0,0])) [6,7], .code (csub (cd Try.f43) [1,1,1,1,1,1,0,1]), .code (csub (cd Try.f43) [1,1,1,1,1,1,1])] [(2, .int .i64 ((((bl s 0) % 32) * 64) + ((bl s 1) % 64))), (3, .int .i64 2), (57, .bool false)] (by kernel_rfl) (whole_c ((((bl s 0) % 32) * 64) + ((bl s 1) % 64)) w) ?_
              rintro _ _ ⟨rfl, rfl⟩
              refine ⟨_, rfl, ?_⟩
              refine GoS.run [2, 3, 61] [.n, .n] _ [.inRegion (cops (csub (cd Try.f43) [1,1,1,1,1,1,0,0])) [], .code (csub (cd Try.f43) [1,1,1,1,1,1,0,1]), .code (csub (cd Try.f43) [1,1,1,1,1,1,1])] [(2, .int .i64 ((((bl s 0) % 32) * 64) + ((bl s 1) % 64))), (3, .int .i64 2), (61, .bool (!(whole ((((bl s 0) % 32) * 64) + ((bl s 1) % 64)))))] w (by kernel_rfl) .nil ?_
              refine GoS.run [2, 3, 61] [.n] _ [.code (csub (cd Try.f43) [1,1,1,1,1,1,0,1]), .code (csub (cd Try.f43) [1,1,1,1,1,1,1])] [(2, .int .i64 ((((bl s 0) % 32) * 64) + ((bl s 1) % 64))), (3, .int .i64 2), (61, .bool (!(whole ((((bl s 0) % 32) * 64) + ((bl s 1) % 64)))))] w (by kernel_rfl) .nil ?_
              refine GoS.cond (!(whole ((((bl s 0) % 32) * 64) + ((bl s 1) % 64)))) [.code (csub (cd Try.f43) [1,1,1,1,1,1,0,1,0]), .code (csub (cd Try.f43) [1,1,1,1,1,1,1])] [.code (csub (cd Try.f43) [1,1,1,1,1,1,0,1,1]), .code (csub (cd Try.f43) [1,1,1,1,1,1,1])] (by kernel_rfl) (fun h25 => ?_) (fun h25 => ?_)
              ·
                refine GoS.run [2, 3] [.n, .n, .n, .n, .n] _ [.code (csub (cd Try.f43) [1,1,1,1,1,1,0,1,0,1]), .code (csub (cd Try.f43) [1,1,1,1,1,1,1])] [(2, .int .i64 0), (3, .int .i64 0)] w (by kernel_rfl) .nil ?_
                refine GoS.ret (fn := Try.f43) (v := (.tuple #[.int .i64 0, .int .i64 0])) Try.func43 (by kernel_rfl) ?_
                rw [hR]
                have e : firstP s = (0, 0) := by
                  unfold firstP
                  rw [if_neg h4p]
                  rw [if_neg h5p]
                  rw [if_pos h6p]
                  rw [if_pos (by first | exact Or.inl (by omega) | exact Or.inr (Or.inl (by omega)) | exact Or.inr (Or.inr (Or.inl (by omega))) | exact Or.inr (Or.inr (Or.inr (Or.inl (by omega)))) | exact Or.inr (Or.inr (Or.inr (Or.inr (Or.inl (by omega))))) | exact Or.inr (Or.inr (Or.inr (Or.inr (Or.inr (Or.inl (by omega)))))) | (simp_all; done))]
                exact ⟨ret_int2 (by rw [e]) (by rw [e]), rfl⟩
              ·
                have h25p : 0 ≤ ((((bl s 0) % 32) * 64) + ((bl s 1) % 64)) ∧ ((((bl s 0) % 32) * 64) + ((bl s 1) % 64)) ≤ 1114111 ∧ (((((bl s 0) % 32) * 64) + ((bl s 1) % 64)) < 55296 ∨ ((((bl s 0) % 32) * 64) + ((bl s 1) % 64)) > 57343) := whole_iff.1 (p_nt h25)
                refine GoS.run [2, 3] [.n] _ [.code (csub (cd Try.f43) [1,1,1,1,1,1,1])] [(2, .int .i64 ((((bl s 0) % 32) * 64) + ((bl s 1) % 64))), (3, .int .i64 2)] w (by kernel_rfl) .nil ?_
                refine GoS.run [2, 3] [.n, .n, .n, .n, .n, .n, .n] _ [.code (csub (cd Try.f43) [1,1,1,1,1,1,1,1])] [(2, .int .i64 ((((bl s 0) % 32) * 64) + ((bl s 1) % 64))), (3, .int .i64 2)] w (by kernel_rfl) .nil ?_
                refine GoS.ret (fn := Try.f43) (v := (.tuple #[.int .i64 ((((bl s 0) % 32) * 64) + ((bl s 1) % 64)), .int .i64 2])) Try.func43 (by kernel_rfl) ?_
                rw [hR]
                have e : firstP s = (((((bl s 0) % 32) * 64) + ((bl s 1) % 64)), 2) := by
                  unfold firstP
                  rw [if_neg h4p]
                  rw [if_neg h5p]
                  rw [if_pos h6p]
                  rw [if_neg (by rintro (h | h | h | h) <;> first | omega | (simp_all; done))]
                exact ⟨ret_int2 (by rw [e]) (by rw [e]), rfl⟩
      ·
        have h6p : ¬ ((bl s 0) < 224) := of_decide_eq_false h6
        refine GoS.run [0, 4, 22] [.n, .n, .n, .n, .n, .n] _ [.code (csub (cd Try.f43) [1,1,1,0,0,1,1,1,1,1,1,1]), .inBlock 0, .code (csub (cd Try.f43) [1,1,1,1])] [(0, .string (sb s)), (4, .int .i64 (bl s 0)), (22, .bool (decide ((bl s 0) < 240)))] w (by kernel_rfl) .nil ?_
        refine GoS.cond (decide ((bl s 0) < 240)) [.code (csub (cd Try.f43) [1,1,1,0,0,1,1,1,1,1,1,1,0]), .inBlock 0, .code (csub (cd Try.f43) [1,1,1,1])] [.code (csub (cd Try.f43) [1,1,1,0,0,1,1,1,1,1,1,1,1]), .inBlock 0, .code (csub (cd Try.f43) [1,1,1,1])] (by kernel_rfl) (fun h8 => ?_) (fun h8 => ?_)
        ·
          have h8p : (bl s 0) < 240 := of_decide_eq_true h8
          have o9 : (binOp .and 3 (.int .i64 (bl s 0)) (.int .i64 15)).run Try.prog w = .ok (.int .i64 ((bl s 0) % 16)) w := f_and (and_i64 _ 4 15 (by decide) (by decide))
          refine GoS.run [0, 2, 3, 5] [.n, .n, .h (.int .i64 ((bl s 0) % 16)), .n, .n, .n, .n] _ [.inBlock 0, .code (csub (cd Try.f43) [1,1,1,1])] [(0, .string (sb s)), (2, .int .i64 ((bl s 0) % 16)), (3, .int .i64 3), (5, .int .i64 2048)] w (by kernel_rfl) (.cons o9 .nil) ?_
          have o26 : (Builtin.len_ #[9] 3 #[.string (sb s)]).run Try.prog w = .ok (.int .i64 ((s.length : Nat) : Int)) w := f_len (by kernel_rfl)
          refine GoS.run [0, 2, 3, 5, 35] [.n, .n, .n, .n, .n, .n, .h (.int .i64 ((s.length : Nat) : Int)), .n, .n] _ [.code (csub (cd Try.f43) [1,1,1,1,0,1]), .code (csub (cd Try.f43) [1,1,1,1,1])] [(0, .string (sb s)), (2, .int .i64 ((bl s 0) % 16)), (3, .int .i64 3), (5, .int .i64 2048), (35, .bool (decide (3 > ((s.length : Nat) : Int))))] w (by kernel_rfl) (.cons o26 .nil) ?_
          refine GoS.cond (decide (3 > ((s.length : Nat) : Int))) [.code (csub (cd Try.f43) [1,1,1,1,0,1,0]), .code (csub (cd Try.f43) [1,1,1,1,1])] [.code (csub (cd Try.f43) [1,1,1,1,0,1,1]), .code (csub (cd Try.f43) [1,1,1,1,1])] (by kernel_rfl) (fun h27 => ?_) (fun h27 => ?_)
          ·
            have h27p : 3 > ((s.length : Nat) : Int) := of_decide_eq_true h27
            refine GoS.run [2, 3] [.n, .n, .n, .n, .n] _ [.code (csub (cd Try.f43) [1,1,1,1,0,1,0,1]), .code (csub (cd Try.f43) [1,1,1,1,1])] [(2, .int .i64 0), (3, .int .i64 0)] w (by kernel_rfl) .nil ?_
            refine GoS.ret (fn := Try.f43) (v := (.tuple #[.int .i64 0, .int .i64 0])) Try.func43 (by kernel_rfl) ?_
            rw [hR]
            have e : firstP s = (0, 0) := by
              unfold firstP
              rw [if_neg h4p]
              rw [if_neg h5p]
              rw [if_neg h6p]
              rw [if_pos h8p]
              rw [if_pos (by first | exact Or.inl (by omega) | exact Or.inr (Or.inl (by omega)) | exact Or.inr (Or.inr (Or.inl (by omega))) | exact Or.inr (Or.inr (Or.inr (Or.inl (by omega)))) | exact Or.inr (Or.inr (Or.inr (Or.inr (Or.inl (by omega))))) | exact Or.inr (Or.inr (Or.inr (Or.inr (Or.inr (Or.inl (by omega)))))) | (simp_all; done))]
            exact ⟨ret_int2 (by rw [e]) (by rw [e]), rfl⟩
          ·
            have h27p : ¬ (3 > ((s.length : Nat) : Int)) := of_decide_eq_false h27
            refine GoS.run [0, 2, 3, 5] [.n] _ [.code (csub (cd Try.f43) [1,1,1,1,1])] [(0, .string (sb s)), (2, .int .i64 ((bl s 0) % 16)), (3, .int .i64 3), (5, .int .i64 2048)] w (by kernel_rfl) .nil ?_
            have hb28 := bl_bd s 1
            have o29 : (Instr.index 9 (.string (sb s)) (.int .i64 1)).run Try.prog w = .ok (.int .u8 (bl s 1)) w := f_index 1 (by kernel_rfl) (by omega) (by omega)
            have o30 : (binOp .and 5 (.int .u8 (bl s 1)) (.int .u8 192)).run Try.prog w = .ok (.int .u8 ((bl s 1) / 64 * 64)) w := f_and (and_c0 _ (by omega) (by omega))
            refine GoS.run [0, 2, 3, 5, 6, 45] [.n, .n, .n, .n, .n, .n, .n, .n, .n, .n, .n, .n, .n, .n, .n, .n, .n, .n, .n, .n, .n, .n, .n, .h (.int .u8 (bl s 1)), .h (.int .u8 ((bl s 1) / 64 * 64)), .n, .n] _ [.code (csub (cd Try.f43) [1,1,1,1,1,0,1,0,0,1,0,0,0,1]), .code (csub (cd Try.f43) [1,1,1,1,1,0,1,0,0,1,0,0,1]), .inBlock 2, .code (csub (cd Try.f43) [1,1,1,1,1,0,1,0,0,1,1]), .inLoop (csub (cd Try.f43) [1,1,1,1,1,0,1,0,0]), .inBlock 1, .code (csub (cd Try.f43) [1,1,1,1,1,1])] [(0, .string (sb s)), (2, .int .i64 ((bl s 0) % 16)), (3, .int .i64 3), (5, .int .i64 2048), (6, .int .i64 1), (45, .bool (((bl s 1) / 64 * 64) != 128))] w (by kernel_rfl) (.cons o29 (.cons o30 .nil)) ?_
            refine GoS.cond (((bl s 1) / 64 * 64) != 128) [.code (csub (cd Try.f43) [1,1,1,1,1,0,1,0,0,1,0,0,0,1,0]), .code (csub (cd Try.f43) [1,1,1,1,1,0,1,0,0,1,0,0,1]), .inBlock 2, .code (csub (cd Try.f43) [1,1,1,1,1,0,1,0,0,1,1]), .inLoop (csub (cd Try.f43) [1,1,1,1,1,0,1,0,0]), .inBlock 1, .code (csub (cd Try.f43) [1,1,1,1,1,1])] [.code (csub (cd Try.f43) [1,1,1,1,1,0,1,0,0,1,0,0,0,1,1]), .code (csub (cd Try.f43) [1,1,1,1,1,0,1,0,0,1,0,0,1]), .inBlock 2, .code (csub (cd Try.f43) [1,1,1,1,1,0,1,0,0,1,1]), .inLoop (csub (cd Try.f43) [1,1,1,1,1,0,1,0,0]), .inBlock 1, .code (csub (cd Try.f43) [1,1,1,1,1,1])] (by kernel_rfl) (fun h31 => ?_) (fun h31 => ?_)
            ·
              have h31p : ¬ (((bl s 1) / 64 * 64) = 128) := bne_iff_ne.1 h31
              refine GoS.run [2, 3] [.n, .n, .n, .n, .n] _ [.code (csub (cd Try.f43) [1,1,1,1,1,0,1,0,0,1,0,0,0,1,0,1]), .code (csub (cd Try.f43) [1,1,1,1,1,0,1,0,0,1,0,0,1]), .inBlock 2, .code (csub (cd Try.f43) [1,1,1,1,1,0,1,0,0,1,1]), .inLoop (csub (cd Try.f43) [1,1,1,1,1,0,1,0,0]), .inBlock 1, .code (csub (cd Try.f43) [1,1,1,1,1,1])] [(2, .int .i64 0), (3, .int .i64 0)] w (by kernel_rfl) .nil ?_
              refine GoS.ret (fn := Try.f43) (v := (.tuple #[.int .i64 0, .int .i64 0])) Try.func43 (by kernel_rfl) ?_
              rw [hR]
              have e : firstP s = (0, 0) := by
                unfold firstP
                rw [if_neg h4p]
                rw [if_neg h5p]
                rw [if_neg h6p]
                rw [if_pos h8p]
                rw [if_pos (by first | exact Or.inl (by omega) | exact Or.inr (Or.inl (by omega)) | exact Or.inr (Or.inr (Or.inl (by omega))) | exact Or.inr (Or.inr (Or.inr (Or.inl (by omega)))) | exact Or.inr (Or.inr (Or.inr (Or.inr (Or.inl (by omega))))) | exact Or.inr (Or.inr (Or.inr (Or.inr (Or.inr (Or.inl (by omega)))))) | (simp_all; done))]
              exact ⟨ret_int2 (by rw [e]) (by rw [e]), rfl⟩
            ·
              have h31p : ((bl s 1) / 64 * 64) = 128 := p_eq h31
              refine GoS.run [0, 2, 3, 5, 6] [.n] _ [.code (csub (cd Try.f43) [1,1,1,1,1,0,1,0,0,1,0,0,1]), .inBlock 2, .code (csub (cd Try.f43) [1,1,1,1,1,0,1,0,0,1,1]), .inLoop (csub (cd Try.f43) [1,1,1,1,1,0,1,0,0]), .inBlock 1, .code (csub (cd Try.f43) [1,1,1,1,1,1])] [(0, .string (sb s)), (2, .int .i64 ((bl s 0) % 16)), (3, .int .i64 3), (5, .int .i64 2048), (6, .int .i64 1)] w (by kernel_rfl) .nil ?_
              have o34 : (binOp .shl 3 (.int .i64 ((bl s 0) % 16)) (.int .u64 6)).run Try.prog w = .ok (.int .i64 (((bl s 0) % 16) * 64)) w := f_shl (by decide) (by rw [show min (Int.toNat 6) _ = 6 by decide, show (2 : Int) ^ 6 = 64 by decide]; exact IntWalk.i64_in _ (by omega))
              have hb32 := bl_bd s 1
              have o35 : (Instr.index 9 (.string (sb s)) (.int .i64 1)).run Try.prog w = .ok (.int .u8 (bl s 1)) w := f_index 1 (by kernel_rfl) (by omega) (by omega)
              have o36 : (binOp .and 5 (.int .u8 (bl s 1)) (.int .u8 63)).run Try.prog w = .ok (.int .u8 ((bl s 1) % 64)) w := f_and (and_u8 _ 6 63 (by decide) (by decide))
              have o37 : (convert 5 3 (.int .u8 ((bl s 1) % 64))).run Try.prog w = .ok (.int .i64 ((bl s 1) % 64)) w := f_conv (u := .int .u8) (by kernel_rfl) (by kernel_rfl) (IntWalk.i64_in _ (by omega))
              have o38 : (binOp .or 3 (.int .i64 (((bl s 0) % 16) * 64)) (.int .i64 ((bl s 1) % 64))).run Try.prog w = .ok (.int .i64 ((((bl s 0) % 16) * 64) + ((bl s 1) % 64))) w := f_or (or_i64 6 64 (by decide) (by omega) (by omega) (by omega) (by omega) (by omega))
              have hb33 := bl_bd s 2
              have o39 : (Instr.index 9 (.string (sb s)) (.int .i64 2)).run Try.prog w = .ok (.int .u8 (bl s 2)) w := f_index 2 (by kernel_rfl) (by omega) (by omega)
              have o40 : (binOp .and 5 (.int .u8 (bl s 2)) (.int .u8 192)).run Try.prog w = .ok (.int .u8 ((bl s 2) / 64 * 64)) w := f_and (and_c0 _ (by omega) (by omega))
              refine GoS.run [0, 2, 3, 5, 6, 45] [.n, .n, .h (.int .i64 (((bl s 0) % 16) * 64)), .n, .n, .h (.int .u8 (bl s 1)), .h (.int .u8 ((bl s 1) % 64)), .h (.int .i64 ((bl s 1) % 64)), .h (.int .i64 ((((bl s 0) % 16) * 64) + ((bl s 1) % 64))), .n, .n, .n, .n, .n, .n, .n, .n, .n, .n, .n, .n, .n, .n, .n, .n, .n, .n, .n, .n, .n, .n, .n, .n, .n, .h (.int .u8 (bl s 2)), .h (.int .u8 ((bl s 2) / 64 * 64)), .n, .n] _ [.code (csub (cd Try.f43) [1,1,1,1,1,0,1,0,0,1,0,0,0,1]), .code (csub (cd Try.f43) [1,1,1,1,1,0,1,0,0,1,0,0,1]), .inBlock 2, .code (csub (cd Try.f43) [1,1,1,1,1,0,1,0,0,1,1]), .inLoop (csub (cd Try.f43) [1,1,1,1,1,0,1,0,0]), .inBlock 1, .code (csub (cd Try.f43) [1,1,1,1,1,1])] [(0, .string (sb s)), (2, .int .i64 ((((bl s 0) % 16) * 64) + ((bl s 1) % 64))), (3, .int .i64 3), (5, .int .i64 2048), (6, .int .i64 2), (45, .bool (((bl s 2) / 64 * 64) != 128))] w (by kernel_rfl) (.cons o34 (.cons o35 (.cons o36 (.cons o37 (.cons o38 (.cons o39 (.cons o40 .nil))))))) ?_
              refine GoS.cond (((bl s 2) / 64 * 64) != 128) [.code (csub (cd Try.f43) [1,1,1,1,1,0,1,0,0,1,0,0,0,1,0]), .code (csub (cd Try.f43) [1,1,1,1,1,0,1,0,0,1,0,0,1]), .inBlock 2, .code (csub (cd Try.f43) [1,1,1,1,1,0,1,0,0,1,1]), .inLoop (csub (cd Try.f43) [1,1,1,1,1,0,1,0,0]), .inBlock 1, .code (csub (cd Try.f43) [1,1,1,1,1,1])] [.code (csub (cd Try.f43) [1,1,1,1,1,0,1,0,0,1,0,0,0,1,1]), .code (csub (cd Try.f43) [1,1,1,1,1,0,1,0,0,1,0,0,1]), .inBlock 2, .code (csub (cd Try.f43) [1,1,1,1,1,0,1,0,0,1,1]), .inLoop (csub (cd Try.f43) [1,1,1,1,1,0,1,0,0]), .inBlock 1, .code (csub (cd Try.f43) [1,1,1,1,1,1])] (by kernel_rfl) (fun h41 => ?_) (fun h41 => ?_)
              ·
                have h41p : ¬ (((bl s 2) / 64 * 64) = 128) := bne_iff_ne.1 h41
                refine GoS.run [2, 3] [.n, .n, .n, .n, .n] _ [.code (csub (cd Try.f43) [1,1,1,1,1,0,1,0,0,1,0,0,0,1,0,1]), .code (csub (cd Try.f43) [1,1,1,1,1,0,1,0,0,1,0,0,1]), .inBlock 2, .code (csub (cd Try.f43) [1,1,1,1,1,0,1,0,0,1,1]), .inLoop (csub (cd Try.f43) [1,1,1,1,1,0,1,0,0]), .inBlock 1, .code (csub (cd Try.f43) [1,1,1,1,1,1])] [(2, .int .i64 0), (3, .int .i64 0)] w (by kernel_rfl) .nil ?_
                refine GoS.ret (fn := Try.f43) (v := (.tuple #[.int .i64 0, .int .i64 0])) Try.func43 (by kernel_rfl) ?_
                rw [hR]
                have e : firstP s = (0, 0) := by
                  unfold firstP
                  rw [if_neg h4p]
                  rw [if_neg h5p]
                  rw [if_neg h6p]
                  rw [if_pos h8p]
                  rw [if_pos (by first | exact Or.inl (by omega) | exact Or.inr (Or.inl (by omega)) | exact Or.inr (Or.inr (Or.inl (by omega))) | exact Or.inr (Or.inr (Or.inr (Or.inl (by omega)))) | exact Or.inr (Or.inr (Or.inr (Or.inr (Or.inl (by omega))))) | exact Or.inr (Or.inr (Or.inr (Or.inr (Or.inr (Or.inl (by omega)))))) | (simp_all; done))]
                exact ⟨ret_int2 (by rw [e]) (by rw [e]), rfl⟩
              ·
                have h41p : ((bl s 2) / 64 * 64) = 128 := p_eq h41
                refine GoS.run [0, 2, 3, 5, 6] [.n] _ [.code (csub (cd Try.f43) [1,1,1,1,1,0,1,0,0,1,0,0,1]), .inBlock 2, .code (csub (cd Try.f43) [1,1,1,1,1,0,1,0,0,1,1]), .inLoop (csub (cd Try.f43) [1,1,1,1,1,0,1,0,0]), .inBlock 1, .code (csub (cd Try.f43) [1,1,1,1,1,1])] [(0, .string (sb s)), (2, .int .i64 ((((bl s 0) % 16) * 64) + ((bl s 1) % 64))), (3, .int .i64 3), (5, .int .i64 2048), (6, .int .i64 2)] w (by kernel_rfl) .nil ?_
                have o43 : (binOp .shl 3 (.int .i64 ((((bl s 0) % 16) * 64) + ((bl s 1) % 64))) (.int .u64 6)).run Try.prog w = .ok (.int .i64 (((((bl s 0) % 16) * 64) + ((bl s 1) % 64)) * 64)) w := f_shl (by decide) (by rw [show min (Int.toNat 6) _ = 6 by decide, show (2 : Int) ^ 6 = 64 by decide]; exact IntWalk.i64_in _ (by omega))
                have hb42 := bl_bd s 2
                have o44 : (Instr.index 9 (.string (sb s)) (.int .i64 2)).run Try.prog w = .ok (.int .u8 (bl s 2)) w := f_index 2 (by kernel_rfl) (by omega) (by omega)
                have o45 : (binOp .and 5 (.int .u8 (bl s 2)) (.int .u8 63)).run Try.prog w = .ok (.int .u8 ((bl s 2) % 64)) w := f_and (and_u8 _ 6 63 (by decide) (by decide))
                have o46 : (convert 5 3 (.int .u8 ((bl s 2) % 64))).run Try.prog w = .ok (.int .i64 ((bl s 2) % 64)) w := f_conv (u := .int .u8) (by kernel_rfl) (by kernel_rfl) (IntWalk.i64_in _ (by omega))
                have o47 : (binOp .or 3 (.int .i64 (((((bl s 0) % 16) * 64) + ((bl s 1) % 64)) * 64)) (.int .i64 ((bl s 2) % 64))).run Try.prog w = .ok (.int .i64 ((((((bl s 0) % 16) * 64) + ((bl s 1) % 64)) * 64) + ((bl s 2) % 64))) w := f_or (or_i64 6 64 (by decide) (by omega) (by omega) (by omega) (by omega) (by omega))
                refine GoS.run [2, 3, 57] [.n, .n, .h (.int .i64 (((((bl s 0) % 16) * 64) + ((bl s 1) % 64)) * 64)), .n, .n, .h (.int .u8 (bl s 2)), .h (.int .u8 ((bl s 2) % 64)), .h (.int .i64 ((bl s 2) % 64)), .h (.int .i64 ((((((bl s 0) % 16) * 64) + ((bl s 1) % 64)) * 64) + ((bl s 2) % 64))), .n, .n, .n, .n, .n, .n, .n, .n, .n, .n, .n, .n, .n, .n, .n, .n, .n, .n, .n, .n, .n, .n, .n, .n, .n] _ [.inRegion (cops (csub (cd Try.f43) [1,1,1,1,1,1,0,0])) [4,5,6,7], .code (csub (cd Try.f43) [1,1,1,1,1,1,0,1]), .code (csub (cd Try.f43) [1,1,1,1,1,1,1])] [(2, .int .i64 ((((((bl s 0) % 16) * 64) + ((bl s 1) % 64)) * 64) + ((bl s 2) % 64))), (3, .int .i64 3), (57, .bool (decide (((((((bl s 0) % 16) * 64) + ((bl s 1) % 64)) * 64) + ((bl s 2) % 64)) < 2048)))] w (by kernel_rfl) (.cons o43 (.cons o44 (.cons o45 (.cons o46 (.cons o47 .nil))))) ?_
                refine GoS.fork 57 (decide (((((((bl s 0) % 16) * 64) + ((bl s 1) % 64)) * 64) + ((bl s 2) % 64)) < 2048)) (by kernel_rfl) (fun h48 => ?_) (fun h48 => ?_)
                ·
                  have h48p : ((((((bl s 0) % 16) * 64) + ((bl s 1) % 64)) * 64) + ((bl s 2) % 64)) < 2048 := of_decide_eq_true h48
                  refine GoS.run [2, 3, 61] [.n, .n, .n, .n] _ [.inRegion (cops (csub (cd Try.f43) [1,1,1,1,1,1,0,0])) [], .code (csub (cd Try.f43) [1,1,1,1,1,1,0,1]), .code (csub (cd Try.f43) [1,1,1,1,1,1,1])] [(2, .int .i64 ((((((bl s 0) % 16) * 64) + ((bl s 1) % 64)) * 64) + ((bl s 2) % 64))), (3, .int .i64 3), (61, .bool true)] w (by kernel_rfl) .nil ?_
                  refine GoS.run [2, 3] [.n, .n, .n, .n, .n, .n, .n] _ [.code (csub (cd Try.f43) [1,1,1,1,1,1,0,1,0,1]), .code (csub (cd Try.f43) [1,1,1,1,1,1,1])] [(2, .int .i64 0), (3, .int .i64 0)] w (by kernel_rfl) .nil ?_
                  refine GoS.ret (fn := Try.f43) (v := (.tuple #[.int .i64 0, .int .i64 0])) Try.func43 (by kernel_rfl) ?_
                  rw [hR]
                  have e : firstP s = (0, 0) := by
                    unfold firstP
                    rw [if_neg h4p]
                    rw [if_neg h5p]
                    rw [if_neg h6p]
                    rw [if_pos h8p]
                    rw [if_pos (by first | exact Or.inl (by omega) | exact Or.inr (Or.inl (by omega)) | exact Or.inr (Or.inr (Or.inl (by omega))) | exact Or.inr (Or.inr (Or.inr (Or.inl (by omega)))) | exact Or.inr (Or.inr (Or.inr (Or.inr (Or.inl (by omega))))) | exact Or.inr (Or.inr (Or.inr (Or.inr (Or.inr (Or.inl (by omega)))))) | (simp_all; done))]
                  exact ⟨ret_int2 (by rw [e]) (by rw [e]), rfl⟩
                ·
                  have h48p : ¬ (((((((bl s 0) % 16) * 64) + ((bl s 1) % 64)) * 64) + ((bl s 2) % 64)) < 2048) := of_decide_eq_false h48
                  refine GoS.run [2, 3, 57, 58] [.n] _ [.inRegion (cops (csub (cd Try.f43) [1,1,1,1,1,1,0,0])) [5,6,7], .code (csub (cd Try.f43) [1,1,1,1,1,1,0,1]), .code (csub (cd Try.f43) [1,1,1,1,1,1,1])] [(2, .int .i64 ((((((bl s 0) % 16) * 64) + ((bl s 1) % 64)) * 64) + ((bl s 2) % 64))), (3, .int .i64 3), (57, .bool false), (58, .int .i64 ((((((bl s 0) % 16) * 64) + ((bl s 1) % 64)) * 64) + ((bl s 2) % 64)))] w (by kernel_rfl) .nil ?_
                  refine GoS.call [2, 3, 57] 44 #[.int .i64 ((((((bl s 0) % 16) * 64) + ((bl s 1) % 64)) * 64) + ((bl s 2) % 64))] (some 59) [.inRegion (cops (csub (cd Try.f43) [1,1,1,1,1,1,0,0])) [6,7], .code (csub (cd Try.f43) [1,1,1,1,1,1,0,1]), .code (csub (cd Try.f43) [1,1,1,1,1,1,1])] [(2, .int .i64 ((((((bl s 0) % 16) * 64) + ((bl s 1) % 64)) * 64) + ((bl s 2) % 64))), (3, .int .i64 3), (57, .bool false)] (by kernel_rfl) (whole_c ((((((bl s 0) % 16) * 64) + ((bl s 1) % 64)) * 64) + ((bl s 2) % 64)) w) ?_
                  rintro _ _ ⟨rfl, rfl⟩
                  refine ⟨_, rfl, ?_⟩
                  refine GoS.run [2, 3, 61] [.n, .n] _ [.inRegion (cops (csub (cd Try.f43) [1,1,1,1,1,1,0,0])) [], .code (csub (cd Try.f43) [1,1,1,1,1,1,0,1]), .code (csub (cd Try.f43) [1,1,1,1,1,1,1])] [(2, .int .i64 ((((((bl s 0) % 16) * 64) + ((bl s 1) % 64)) * 64) + ((bl s 2) % 64))), (3, .int .i64 3), (61, .bool (!(whole ((((((bl s 0) % 16) * 64) + ((bl s 1) % 64)) * 64) + ((bl s 2) % 64)))))] w (by kernel_rfl) .nil ?_
                  refine GoS.run [2, 3, 61] [.n] _ [.code (csub (cd Try.f43) [1,1,1,1,1,1,0,1]), .code (csub (cd Try.f43) [1,1,1,1,1,1,1])] [(2, .int .i64 ((((((bl s 0) % 16) * 64) + ((bl s 1) % 64)) * 64) + ((bl s 2) % 64))), (3, .int .i64 3), (61, .bool (!(whole ((((((bl s 0) % 16) * 64) + ((bl s 1) % 64)) * 64) + ((bl s 2) % 64)))))] w (by kernel_rfl) .nil ?_
                  refine GoS.cond (!(whole ((((((bl s 0) % 16) * 64) + ((bl s 1) % 64)) * 64) + ((bl s 2) % 64)))) [.code (csub (cd Try.f43) [1,1,1,1,1,1,0,1,0]), .code (csub (cd Try.f43) [1,1,1,1,1,1,1])] [.code (csub (cd Try.f43) [1,1,1,1,1,1,0,1,1]), .code (csub (cd Try.f43) [1,1,1,1,1,1,1])] (by kernel_rfl) (fun h49 => ?_) (fun h49 => ?_)
                  ·
                    refine GoS.run [2, 3] [.n, .n, .n, .n, .n] _ [.code (csub (cd Try.f43) [1,1,1,1,1,1,0,1,0,1]), .code (csub (cd Try.f43) [1,1,1,1,1,1,1])] [(2, .int .i64 0), (3, .int .i64 0)] w (by kernel_rfl) .nil ?_
                    refine GoS.ret (fn := Try.f43) (v := (.tuple #[.int .i64 0, .int .i64 0])) Try.func43 (by kernel_rfl) ?_
                    rw [hR]
                    have e : firstP s = (0, 0) := by
                      unfold firstP
                      rw [if_neg h4p]
                      rw [if_neg h5p]
                      rw [if_neg h6p]
                      rw [if_pos h8p]
                      rw [if_pos (by first | exact Or.inl (by omega) | exact Or.inr (Or.inl (by omega)) | exact Or.inr (Or.inr (Or.inl (by omega))) | exact Or.inr (Or.inr (Or.inr (Or.inl (by omega)))) | exact Or.inr (Or.inr (Or.inr (Or.inr (Or.inl (by omega))))) | exact Or.inr (Or.inr (Or.inr (Or.inr (Or.inr (Or.inl (by omega)))))) | (simp_all; done))]
                    exact ⟨ret_int2 (by rw [e]) (by rw [e]), rfl⟩
                  ·
                    have h49p : 0 ≤ ((((((bl s 0) % 16) * 64) + ((bl s 1) % 64)) * 64) + ((bl s 2) % 64)) ∧ ((((((bl s 0) % 16) * 64) + ((bl s 1) % 64)) * 64) + ((bl s 2) % 64)) ≤ 1114111 ∧ (((((((bl s 0) % 16) * 64) + ((bl s 1) % 64)) * 64) + ((bl s 2) % 64)) < 55296 ∨ ((((((bl s 0) % 16) * 64) + ((bl s 1) % 64)) * 64) + ((bl s 2) % 64)) > 57343) := whole_iff.1 (p_nt h49)
                    refine GoS.run [2, 3] [.n] _ [.code (csub (cd Try.f43) [1,1,1,1,1,1,1])] [(2, .int .i64 ((((((bl s 0) % 16) * 64) + ((bl s 1) % 64)) * 64) + ((bl s 2) % 64))), (3, .int .i64 3)] w (by kernel_rfl) .nil ?_
                    refine GoS.run [2, 3] [.n, .n, .n, .n, .n, .n, .n] _ [.code (csub (cd Try.f43) [1,1,1,1,1,1,1,1])] [(2, .int .i64 ((((((bl s 0) % 16) * 64) + ((bl s 1) % 64)) * 64) + ((bl s 2) % 64))), (3, .int .i64 3)] w (by kernel_rfl) .nil ?_
                    refine GoS.ret (fn := Try.f43) (v := (.tuple #[.int .i64 ((((((bl s 0) % 16) * 64) + ((bl s 1) % 64)) * 64) + ((bl s 2) % 64)), .int .i64 3])) Try.func43 (by kernel_rfl) ?_
                    rw [hR]
                    have e : firstP s = (((((((bl s 0) % 16) * 64) + ((bl s 1) % 64)) * 64) + ((bl s 2) % 64)), 3) := by
                      unfold firstP
                      rw [if_neg h4p]
                      rw [if_neg h5p]
                      rw [if_neg h6p]
                      rw [if_pos h8p]
                      rw [if_neg (by rintro (h | h | h | h | h) <;> first | omega | (simp_all; done))]
                    exact ⟨ret_int2 (by rw [e]) (by rw [e]), rfl⟩
        ·
          have h8p : ¬ ((bl s 0) < 240) := of_decide_eq_false h8
          refine GoS.run [0, 4, 27] [.n, .n, .n, .n, .n, .n] _ [.code (csub (cd Try.f43) [1,1,1,0,0,1,1,1,1,1,1,1,1,1]), .inBlock 0, .code (csub (cd Try.f43) [1,1,1,1])] [(0, .string (sb s)), (4, .int .i64 (bl s 0)), (27, .bool (decide ((bl s 0) < 248)))] w (by kernel_rfl) .nil ?_
          refine GoS.cond (decide ((bl s 0) < 248)) [.code (csub (cd Try.f43) [1,1,1,0,0,1,1,1,1,1,1,1,1,1,0]), .inBlock 0, .code (csub (cd Try.f43) [1,1,1,1])] [.code (csub (cd Try.f43) [1,1,1,0,0,1,1,1,1,1,1,1,1,1,1]), .inBlock 0, .code (csub (cd Try.f43) [1,1,1,1])] (by kernel_rfl) (fun h10 => ?_) (fun h10 => ?_)
          ·
            have h10p : (bl s 0) < 248 := of_decide_eq_true h10
            have o11 : (binOp .and 3 (.int .i64 (bl s 0)) (.int .i64 7)).run Try.prog w = .ok (.int .i64 ((bl s 0) % 8)) w := f_and (and_i64 _ 3 7 (by decide) (by decide))
            refine GoS.run [0, 2, 3, 5] [.n, .n, .h (.int .i64 ((bl s 0) % 8)), .n, .n, .n, .n] _ [.inBlock 0, .code (csub (cd Try.f43) [1,1,1,1])] [(0, .string (sb s)), (2, .int .i64 ((bl s 0) % 8)), (3, .int .i64 4), (5, .int .i64 65536)] w (by kernel_rfl) (.cons o11 .nil) ?_
            have o50 : (Builtin.len_ #[9] 3 #[.string (sb s)]).run Try.prog w = .ok (.int .i64 ((s.length : Nat) : Int)) w := f_len (by kernel_rfl)
            refine GoS.run [0, 2, 3, 5, 35] [.n, .n, .n, .n, .n, .n, .h (.int .i64 ((s.length : Nat) : Int)), .n, .n] _ [.code (csub (cd Try.f43) [1,1,1,1,0,1]), .code (csub (cd Try.f43) [1,1,1,1,1])] [(0, .string (sb s)), (2, .int .i64 ((bl s 0) % 8)), (3, .int .i64 4), (5, .int .i64 65536), (35, .bool (decide (4 > ((s.length : Nat) : Int))))] w (by kernel_rfl) (.cons o50 .nil) ?_
            refine GoS.cond (decide (4 > ((s.length : Nat) : Int))) [.code (csub (cd Try.f43) [1,1,1,1,0,1,0]), .code (csub (cd Try.f43) [1,1,1,1,1])] [.code (csub (cd Try.f43) [1,1,1,1,0,1,1]), .code (csub (cd Try.f43) [1,1,1,1,1])] (by kernel_rfl) (fun h51 => ?_) (fun h51 => ?_)
            ·
              have h51p : 4 > ((s.length : Nat) : Int) := of_decide_eq_true h51
              refine GoS.run [2, 3] [.n, .n, .n, .n, .n] _ [.code (csub (cd Try.f43) [1,1,1,1,0,1,0,1]), .code (csub (cd Try.f43) [1,1,1,1,1])] [(2, .int .i64 0), (3, .int .i64 0)] w (by kernel_rfl) .nil ?_
              refine GoS.ret (fn := Try.f43) (v := (.tuple #[.int .i64 0, .int .i64 0])) Try.func43 (by kernel_rfl) ?_
              rw [hR]
              have e : firstP s = (0, 0) := by
                unfold firstP
                rw [if_neg h4p]
                rw [if_neg h5p]
                rw [if_neg h6p]
                rw [if_neg h8p]
                rw [if_pos h10p]
                rw [if_pos (by first | exact Or.inl (by omega) | exact Or.inr (Or.inl (by omega)) | exact Or.inr (Or.inr (Or.inl (by omega))) | exact Or.inr (Or.inr (Or.inr (Or.inl (by omega)))) | exact Or.inr (Or.inr (Or.inr (Or.inr (Or.inl (by omega))))) | exact Or.inr (Or.inr (Or.inr (Or.inr (Or.inr (Or.inl (by omega)))))) | (simp_all; done))]
              exact ⟨ret_int2 (by rw [e]) (by rw [e]), rfl⟩
            ·
              have h51p : ¬ (4 > ((s.length : Nat) : Int)) := of_decide_eq_false h51
              refine GoS.run [0, 2, 3, 5] [.n] _ [.code (csub (cd Try.f43) [1,1,1,1,1])] [(0, .string (sb s)), (2, .int .i64 ((bl s 0) % 8)), (3, .int .i64 4), (5, .int .i64 65536)] w (by kernel_rfl) .nil ?_
              have hb52 := bl_bd s 1
              have o53 : (Instr.index 9 (.string (sb s)) (.int .i64 1)).run Try.prog w = .ok (.int .u8 (bl s 1)) w := f_index 1 (by kernel_rfl) (by omega) (by omega)
              have o54 : (binOp .and 5 (.int .u8 (bl s 1)) (.int .u8 192)).run Try.prog w = .ok (.int .u8 ((bl s 1) / 64 * 64)) w := f_and (and_c0 _ (by omega) (by omega))
              refine GoS.run [0, 2, 3, 5, 6, 45] [.n, .n, .n, .n, .n, .n, .n, .n, .n, .n, .n, .n, .n, .n, .n, .n, .n, .n, .n, .n, .n, .n, .n, .h (.int .u8 (bl s 1)), .h (.int .u8 ((bl s 1) / 64 * 64)), .n, .n] _ [.code (csub (cd Try.f43) [1,1,1,1,1,0,1,0,0,1,0,0,0,1]), .code (csub (cd Try.f43) [1,1,1,1,1,0,1,0,0,1,0,0,1]), .inBlock 2, .code (csub (cd Try.f43) [1,1,1,1,1,0,1,0,0,1,1]), .inLoop (csub (cd Try.f43) [1,1,1,1,1,0,1,0,0]), .inBlock 1, .code (csub (cd Try.f43) [1,1,1,1,1,1])] [(0, .string (sb s)), (2, .int .i64 ((bl s 0) % 8)), (3, .int .i64 4), (5, .int .i64 65536), (6, .int .i64 1), (45, .bool (((bl s 1) / 64 * 64) != 128))] w (by kernel_rfl) (.cons o53 (.cons o54 .nil)) ?_
              refine GoS.cond (((bl s 1) / 64 * 64) != 128) [.code (csub (cd Try.f43) [1,1,1,1,1,0,1,0,0,1,0,0,0,1,0]), .code (csub (cd Try.f43) [1,1,1,1,1,0,1,0,0,1,0,0,1]), .inBlock 2, .code (csub (cd Try.f43) [1,1,1,1,1,0,1,0,0,1,1]), .inLoop (csub (cd Try.f43) [1,1,1,1,1,0,1,0,0]), .inBlock 1, .code (csub (cd Try.f43) [1,1,1,1,1,1])] [.code (csub (cd Try.f43) [1,1,1,1,1,0,1,0,0,1,0,0,0,1,1]), .code (csub (cd Try.f43) [1,1,1,1,1,0,1,0,0,1,0,0,1]), .inBlock 2, .code (csub (cd Try.f43) [1,1,1,1,1,0,1,0,0,1,1]), .inLoop (csub (cd Try.f43) [1,1,1,1,1,0,1,0,0]), .inBlock 1, .code (csub (cd Try.f43) [1,1,1,1,1,1])] (by kernel_rfl) (fun h55 => ?_) (fun h55 => ?_)
              ·
                have h55p : ¬ (((bl s 1) / 64 * 64) = 128) := bne_iff_ne.1 h55
                refine GoS.run [2, 3] [.n, .n, .n, .n, .n] _ [.code (csub (cd Try.f43) [1,1,1,1,1,0,1,0,0,1,0,0,0,1,0,1]), .code (csub (cd Try.f43) [1,1,1,1,1,0,1,0,0,1,0,0,1]), .inBlock 2, .code (csub (cd Try.f43) [1,1,1,1,1,0,1,0,0,1,1]), .inLoop (csub (cd Try.f43) [1,1,1,1,1,0,1,0,0]), .inBlock 1, .code (csub (cd Try.f43) [1,1,1,1,1,1])] [(2, .int .i64 0), (3, .int .i64 0)] w (by kernel_rfl) .nil ?_
                refine GoS.ret (fn := Try.f43) (v := (.tuple #[.int .i64 0, .int .i64 0])) Try.func43 (by kernel_rfl) ?_
                rw [hR]
                have e : firstP s = (0, 0) := by
                  unfold firstP
                  rw [if_neg h4p]
                  rw [if_neg h5p]
                  rw [if_neg h6p]
                  rw [if_neg h8p]
                  rw [if_pos h10p]
                  rw [if_pos (by first | exact Or.inl (by omega) | exact Or.inr (Or.inl (by omega)) | exact Or.inr (Or.inr (Or.inl (by omega))) | exact Or.inr (Or.inr (Or.inr (Or.inl (by omega)))) | exact Or.inr (Or.inr (Or.inr (Or.inr (Or.inl (by omega))))) | exact Or.inr (Or.inr (Or.inr (Or.inr (Or.inr (Or.inl (by omega)))))) | (simp_all; done))]
                exact ⟨ret_int2 (by rw [e]) (by rw [e]), rfl⟩
              ·
                have h55p : ((bl s 1) / 64 * 64) = 128 := p_eq h55
                refine GoS.run [0, 2, 3, 5, 6] [.n] _ [.code (csub (cd Try.f43) [1,1,1,1,1,0,1,0,0,1,0,0,1]), .inBlock 2, .code (csub (cd Try.f43) [1,1,1,1,1,0,1,0,0,1,1]), .inLoop (csub (cd Try.f43) [1,1,1,1,1,0,1,0,0]), .inBlock 1, .code (csub (cd Try.f43) [1,1,1,1,1,1])] [(0, .string (sb s)), (2, .int .i64 ((bl s 0) % 8)), (3, .int .i64 4), (5, .int .i64 65536), (6, .int .i64 1)] w (by kernel_rfl) .nil ?_
                have o58 : (binOp .shl 3 (.int .i64 ((bl s 0) % 8)) (.int .u64 6)).run Try.prog w = .ok (.int .i64 (((bl s 0) % 8) * 64)) w := f_shl (by decide) (by rw [show min (Int.toNat 6) _ = 6 by decide, show (2 : Int) ^ 6 = 64 by decide]; exact IntWalk.i64_in _ (by omega))
                have hb56 := bl_bd s 1
                have o59 : (Instr.index 9 (.string (sb s)) (.int .i64 1)).run Try.prog w = .ok (.int .u8 (bl s 1)) w := f_index 1 (by kernel_rfl) (by omega) (by omega)
                have o60 : (binOp .and 5 (.int .u8 (bl s 1)) (.int .u8 63)).run Try.prog w = .ok (.int .u8 ((bl s 1) % 64)) w := f_and (and_u8 _ 6 63 (by decide) (by decide))
                have o61 : (convert 5 3 (.int .u8 ((bl s 1) % 64))).run Try.prog w = .ok (.int .i64 ((bl s 1) % 64)) w := f_conv (u := .int .u8) (by kernel_rfl) (by kernel_rfl) (IntWalk.i64_in _ (by omega))
                have o62 : (binOp .or 3 (.int .i64 (((bl s 0) % 8) * 64)) (.int .i64 ((bl s 1) % 64))).run Try.prog w = .ok (.int .i64 ((((bl s 0) % 8) * 64) + ((bl s 1) % 64))) w := f_or (or_i64 6 64 (by decide) (by omega) (by omega) (by omega) (by omega) (by omega))
                have hb57 := bl_bd s 2
                have o63 : (Instr.index 9 (.string (sb s)) (.int .i64 2)).run Try.prog w = .ok (.int .u8 (bl s 2)) w := f_index 2 (by kernel_rfl) (by omega) (by omega)
                have o64 : (binOp .and 5 (.int .u8 (bl s 2)) (.int .u8 192)).run Try.prog w = .ok (.int .u8 ((bl s 2) / 64 * 64)) w := f_and (and_c0 _ (by omega) (by omega))
                refine GoS.run [0, 2, 3, 5, 6, 45] [.n, .n, .h (.int .i64 (((bl s 0) % 8) * 64)), .n, .n, .h (.int .u8 (bl s 1)), .h (.int .u8 ((bl s 1) % 64)), .h (.int .i64 ((bl s 1) % 64)), .h (.int .i64 ((((bl s 0) % 8) * 64) + ((bl s 1) % 64))), .n, .n, .n, .n, .n, .n, .n, .n, .n, .n, .n, .n, .n, .n, .n, .n, .n, .n, .n, .n, .n, .n, .n, .n, .n, .h (.int .u8 (bl s 2)), .h (.int .u8 ((bl s 2) / 64 * 64)), .n, .n] _ [.code (csub (cd Try.f43) [1,1,1,1,1,0,1,0,0,1,0,0,0,1]), .code (csub (cd Try.f43) [1,1,1,1,1,0,1,0,0,1,0,0,1]), .inBlock 2, .code (csub (cd Try.f43) [1,1,1,1,1,0,1,0,0,1,1]), .inLoop (csub (cd Try.f43) [1,1,1,1,1,0,1,0,0]), .inBlock 1, .code (csub (cd Try.f43) [1,1,1,1,1,1])] [(0, .string (sb s)), (2, .int .i64 ((((bl s 0) % 8) * 64) + ((bl s 1) % 64))), (3, .int .i64 4), (5, .int .i64 65536), (6, .int .i64 2), (45, .bool (((bl s 2) / 64 * 64) != 128))] w (by kernel_rfl) (.cons o58 (.cons o59 (.cons o60 (.cons o61 (.cons o62 (.cons o63 (.cons o64 .nil))))))) ?_
                refine GoS.cond (((bl s 2) / 64 * 64) != 128) [.code (csub (cd Try.f43) [1,1,1,1,1,0,1,0,0,1,0,0,0,1,0]), .code (csub (cd Try.f43) [1,1,1,1,1,0,1,0,0,1,0,0,1]), .inBlock 2, .code (csub (cd Try.f43) [1,1,1,1,1,0,1,0,0,1,1]), .inLoop (csub (cd Try.f43) [1,1,1,1,1,0,1,0,0]), .inBlock 1, .code (csub (cd Try.f43) [1,1,1,1,1,1])] [.code (csub (cd Try.f43) [1,1,1,1,1,0,1,0,0,1,0,0,0,1,1]), .code (csub (cd Try.f43) [1,1,1,1,1,0,1,0,0,1,0,0,1]), .inBlock 2, .code (csub (cd Try.f43) [1,1,1,1,1,0,1,0,0,1,1]), .inLoop (csub (cd Try.f43) [1,1,1,1,1,0,1,0,0]), .inBlock 1, .code (csub (cd Try.f43) [1,1,1,1,1,1])] (by kernel_rfl) (fun h65 => ?_) (fun h65 => ?_)
                ·
                  have h65p : ¬ (((bl s 2) / 64 * 64) = 128) := bne_iff_ne.1 h65
                  refine GoS.run [2, 3] [.n, .n, .n, .n, .n] _ [.code (csub (cd Try.f43) [1,1,1,1,1,0,1,0,0,1,0,0,0,1,0,1]), .code (csub (cd Try.f43) [1,1,1,1,1,0,1,0,0,1,0,0,1]), .inBlock 2, .code (csub (cd Try.f43) [1,1,1,1,1,0,1,0,0,1,1]), .inLoop (csub (cd Try.f43) [1,1,1,1,1,0,1,0,0]), .inBlock 1, .code (csub (cd Try.f43) [1,1,1,1,1,1])] [(2, .int .i64 0), (3, .int .i64 0)] w (by kernel_rfl) .nil ?_
                  refine GoS.ret (fn := Try.f43) (v := (.tuple #[.int .i64 0, .int .i64 0])) Try.func43 (by kernel_rfl) ?_
                  rw [hR]
                  have e : firstP s = (0, 0) := by
                    unfold firstP
                    rw [if_neg h4p]
                    rw [if_neg h5p]
                    rw [if_neg h6p]
                    rw [if_neg h8p]
                    rw [if_pos h10p]
                    rw [if_pos (by first | exact Or.inl (by omega) | exact Or.inr (Or.inl (by omega)) | exact Or.inr (Or.inr (Or.inl (by omega))) | exact Or.inr (Or.inr (Or.inr (Or.inl (by omega)))) | exact Or.inr (Or.inr (Or.inr (Or.inr (Or.inl (by omega))))) | exact Or.inr (Or.inr (Or.inr (Or.inr (Or.inr (Or.inl (by omega)))))) | (simp_all; done))]
                  exact ⟨ret_int2 (by rw [e]) (by rw [e]), rfl⟩
                ·
                  have h65p : ((bl s 2) / 64 * 64) = 128 := p_eq h65
                  refine GoS.run [0, 2, 3, 5, 6] [.n] _ [.code (csub (cd Try.f43) [1,1,1,1,1,0,1,0,0,1,0,0,1]), .inBlock 2, .code (csub (cd Try.f43) [1,1,1,1,1,0,1,0,0,1,1]), .inLoop (csub (cd Try.f43) [1,1,1,1,1,0,1,0,0]), .inBlock 1, .code (csub (cd Try.f43) [1,1,1,1,1,1])] [(0, .string (sb s)), (2, .int .i64 ((((bl s 0) % 8) * 64) + ((bl s 1) % 64))), (3, .int .i64 4), (5, .int .i64 65536), (6, .int .i64 2)] w (by kernel_rfl) .nil ?_
                  have o68 : (binOp .shl 3 (.int .i64 ((((bl s 0) % 8) * 64) + ((bl s 1) % 64))) (.int .u64 6)).run Try.prog w = .ok (.int .i64 (((((bl s 0) % 8) * 64) + ((bl s 1) % 64)) * 64)) w := f_shl (by decide) (by rw [show min (Int.toNat 6) _ = 6 by decide, show (2 : Int) ^ 6 = 64 by decide]; exact IntWalk.i64_in _ (by omega))
                  have hb66 := bl_bd s 2
                  have o69 : (Instr.index 9 (.string (sb s)) (.int .i64 2)).run Try.prog w = .ok (.int .u8 (bl s 2)) w := f_index 2 (by kernel_rfl) (by omega) (by omega)
                  have o70 : (binOp .and 5 (.int .u8 (bl s 2)) (.int .u8 63)).run Try.prog w = .ok (.int .u8 ((bl s 2) % 64)) w := f_and (and_u8 _ 6 63 (by decide) (by decide))
                  have o71 : (convert 5 3 (.int .u8 ((bl s 2) % 64))).run Try.prog w = .ok (.int .i64 ((bl s 2) % 64)) w := f_conv (u := .int .u8) (by kernel_rfl) (by kernel_rfl) (IntWalk.i64_in _ (by omega))
                  have o72 : (binOp .or 3 (.int .i64 (((((bl s 0) % 8) * 64) + ((bl s 1) % 64)) * 64)) (.int .i64 ((bl s 2) % 64))).run Try.prog w = .ok (.int .i64 ((((((bl s 0) % 8) * 64) + ((bl s 1) % 64)) * 64) + ((bl s 2) % 64))) w := f_or (or_i64 6 64 (by decide) (by omega) (by omega) (by omega) (by omega) (by omega))
                  have hb67 := bl_bd s 3
                  have o73 : (Instr.index 9 (.string (sb s)) (.int .i64 3)).run Try.prog w = .ok (.int .u8 (bl s 3)) w := f_index 3 (by kernel_rfl) (by omega) (by omega)
                  have o74 : (binOp .and 5 (.int .u8 (bl s 3)) (.int .u8 192)).run Try.prog w = .ok (.int .u8 ((bl s 3) / 64 * 64)) w := f_and (and_c0 _ (by omega) (by omega))
                  refine GoS.run [0, 2, 3, 5, 6, 45] [.n, .n, .h (.int .i64 (((((bl s 0) % 8) * 64) + ((bl s 1) % 64)) * 64)), .n, .n, .h (.int .u8 (bl s 2)), .h (.int .u8 ((bl s 2) % 64)), .h (.int .i64 ((bl s 2) % 64)), .h (.int .i64 ((((((bl s 0) % 8) * 64) + ((bl s 1) % 64)) * 64) + ((bl s 2) % 64))), .n, .n, .n, .n, .n, .n, .n, .n, .n, .n, .n, .n, .n, .n, .n, .n, .n, .n, .n, .n, .n, .n, .n, .n, .n, .h (.int .u8 (bl s 3)), .h (.int .u8 ((bl s 3) / 64 * 64)), .n, .n] _ [.code (csub (cd Try.f43) [1,1,1,1,1,0,1,0,0,1,0,0,0,1]), .code (csub (cd Try.f43) [1,1,1,1,1,0,1,0,0,1,0,0,1]), .inBlock 2, .code (csub (cd Try.f43) [1,1,1,1,1,0,1,0,0,1,1]), .inLoop (csub (cd Try.f43) [1,1,1,1,1,0,1,0,0]), .inBlock 1, .code (csub (cd Try.f43) [1,1,1,1,1,1])] [(0, .string (sb s)), (2, .int .i64 ((((((bl s 0) % 8) * 64) + ((bl s 1) % 64)) * 64) + ((bl s 2) % 64))), (3, .int .i64 4), (5, .int .i64 65536), (6, .int .i64 3), (45, .bool (((bl s 3) / 64 * 64) != 128))] w (by kernel_rfl) (.cons o68 (.cons o69 (.cons o70 (.cons o71 (.cons o72 (.cons o73 (.cons o74 .nil))))))) ?_
                  refine GoS.cond (((bl s 3) / 64 * 64) != 128) [.code (csub (cd Try.f43) [1,1,1,1,1,0,1,0,0,1,0,0,0,1,0]), .code (csub (cd Try.f43) [1,1,1,1,1,0,1,0,0,1,0,0,1]), .inBlock 2, .code (csub (cd Try.f43) [1,1,1,1,1,0,1,0,0,1,1]), .inLoop (csub (cd Try.f43) [1,1,1,1,1,0,1,0,0]), .inBlock 1, .code (csub (cd Try.f43) [1,1,1,1,1,1])] [.code (csub (cd Try.f43) [1,1,1,1,1,0,1,0,0,1,0,0,0,1,1]), .code (csub (cd Try.f43) [1,1,1,1,1,0,1,0,0,1,0,0,1]), .inBlock 2, .code (csub (cd Try.f43) [1,1,1,1,1,0,1,0,0,1,1]), .inLoop (csub (cd Try.f43) [1,1,1,1,1,0,1,0,0]), .inBlock 1, .code (csub (cd Try.f43) [1,1,1,1,1,1])] (by kernel_rfl) (fun h75 => ?_) (fun h75 => ?_)
                  ·
                    have h75p : ¬ (((bl s 3) / 64 * 64) = 128) := bne_iff_ne.1 h75
                    refine GoS.run [2, 3] [.n, .n, .n, .n, .n] _ [.code (csub (cd Try.f43) [1,1,1,1,1,0,1,0,0,1,0,0,0,1,0,1]), .code (csub (cd Try.f43) [1,1,1,1,1,0,1,0,0,1,0,0,1]), .inBlock 2, .code (csub (cd Try.f43) [1,1,1,1,1,0,1,0,0,1,1]), .inLoop (csub (cd Try.f43) [1,1,1,1,1,0,1,0,0]), .inBlock 1, .code (csub (cd Try.f43) [1,1,1,1,1,1])] [(2, .int .i64 0), (3, .int .i64 0)] w (by kernel_rfl) .nil ?_
                    refine GoS.ret (fn := Try.f43) (v := (.tuple #[.int .i64 0, .int .i64 0])) Try.func43 (by kernel_rfl) ?_
                    rw [hR]
                    have e : firstP s = (0, 0) := by
                      unfold firstP
                      rw [if_neg h4p]
                      rw [if_neg h5p]
                      rw [if_neg h6p]
                      rw [if_neg h8p]
                      rw [if_pos h10p]
                      rw [if_pos (by first | exact Or.inl (by omega) | exact Or.inr (Or.inl (by omega)) | exact Or.inr (Or.inr (Or.inl (by omega))) | exact Or.inr (Or.inr (Or.inr (Or.inl (by omega)))) | exact Or.inr (Or.inr (Or.inr (Or.inr (Or.inl (by omega))))) | exact Or.inr (Or.inr (Or.inr (Or.inr (Or.inr (Or.inl (by omega)))))) | (simp_all; done))]
                    exact ⟨ret_int2 (by rw [e]) (by rw [e]), rfl⟩
                  ·
                    have h75p : ((bl s 3) / 64 * 64) = 128 := p_eq h75
                    refine GoS.run [0, 2, 3, 5, 6] [.n] _ [.code (csub (cd Try.f43) [1,1,1,1,1,0,1,0,0,1,0,0,1]), .inBlock 2, .code (csub (cd Try.f43) [1,1,1,1,1,0,1,0,0,1,1]), .inLoop (csub (cd Try.f43) [1,1,1,1,1,0,1,0,0]), .inBlock 1, .code (csub (cd Try.f43) [1,1,1,1,1,1])] [(0, .string (sb s)), (2, .int .i64 ((((((bl s 0) % 8) * 64) + ((bl s 1) % 64)) * 64) + ((bl s 2) % 64))), (3, .int .i64 4), (5, .int .i64 65536), (6, .int .i64 3)] w (by kernel_rfl) .nil ?_
                    have o77 : (binOp .shl 3 (.int .i64 ((((((bl s 0) % 8) * 64) + ((bl s 1) % 64)) * 64) + ((bl s 2) % 64))) (.int .u64 6)).run Try.prog w = .ok (.int .i64 (((((((bl s 0) % 8) * 64) + ((bl s 1) % 64)) * 64) + ((bl s 2) % 64)) * 64)) w := f_shl (by decide) (by rw [show min (Int.toNat 6) _ = 6 by decide, show (2 : Int) ^ 6 = 64 by decide]; exact IntWalk.i64_in _ (by omega))
                    have hb76 := bl_bd s 3
                    have o78 : (Instr.index 9 (.string (sb s)) (.int .i64 3)).run Try.prog w = .ok (.int .u8 (bl s 3)) w := f_index 3 (by kernel_rfl) (by omega) (by omega)
                    have o79 : (binOp .and 5 (.int .u8 (bl s 3)) (.int .u8 63)).run Try.prog w = .ok (.int .u8 ((bl s 3) % 64)) w := f_and (and_u8 _ 6 63 (by decide) (by decide))
                    have o80 : (convert 5 3 (.int .u8 ((bl s 3) % 64))).run Try.prog w = .ok (.int .i64 ((bl s 3) % 64)) w := f_conv (u := .int .u8) (by kernel_rfl) (by kernel_rfl) (IntWalk.i64_in _ (by omega))
                    have o81 : (binOp .or 3 (.int .i64 (((((((bl s 0) % 8) * 64) + ((bl s 1) % 64)) * 64) + ((bl s 2) % 64)) * 64)) (.int .i64 ((bl s 3) % 64))).run Try.prog w = .ok (.int .i64 ((((((((bl s 0) % 8) * 64) + ((bl s 1) % 64)) * 64) + ((bl s 2) % 64)) * 64) + ((bl s 3) % 64))) w := f_or (or_i64 6 64 (by decide) (by omega) (by omega) (by omega) (by omega) (by omega))
                    refine GoS.run [2, 3, 57] [.n, .n, .h (.int .i64 (((((((bl s 0) % 8) * 64) + ((bl s 1) % 64)) * 64) + ((bl s 2) % 64)) * 64)), .n, .n, .h (.int .u8 (bl s 3)), .h (.int .u8 ((bl s 3) % 64)), .h (.int .i64 ((bl s 3) % 64)), .h (.int .i64 ((((((((bl s 0) % 8) * 64) + ((bl s 1) % 64)) * 64) + ((bl s 2) % 64)) * 64) + ((bl s 3) % 64))), .n, .n, .n, .n, .n, .n, .n, .n, .n, .n, .n, .n, .n, .n, .n, .n, .n, .n, .n, .n, .n, .n, .n, .n, .n] _ [.inRegion (cops (csub (cd Try.f43) [1,1,1,1,1,1,0,0])) [4,5,6,7], .code (csub (cd Try.f43) [1,1,1,1,1,1,0,1]), .code (csub (cd Try.f43) [1,1,1,1,1,1,1])] [(2, .int .i64 ((((((((bl s 0) % 8) * 64) + ((bl s 1) % 64)) * 64) + ((bl s 2) % 64)) * 64) + ((bl s 3) % 64))), (3, .int .i64 4), (57, .bool (decide (((((((((bl s 0) % 8) * 64) + ((bl s 1) % 64)) * 64) + ((bl s 2) % 64)) * 64) + ((bl s 3) % 64)) < 65536)))] w (by kernel_rfl) (.cons o77 (.cons o78 (.cons o79 (.cons o80 (.cons o81 .nil))))) ?_
                    refine GoS.fork 57 (decide (((((((((bl s 0) % 8) * 64) + ((bl s 1) % 64)) * 64) + ((bl s 2) % 64)) * 64) + ((bl s 3) % 64)) < 65536)) (by kernel_rfl) (fun h82 => ?_) (fun h82 => ?_)
                    ·
                      have h82p : ((((((((bl s 0) % 8) * 64) + ((bl s 1) % 64)) * 64) + ((bl s 2) % 64)) * 64) + ((bl s 3) % 64)) < 65536 := of_decide_eq_true h82
                      refine GoS.run [2, 3, 61] [.n, .n, .n, .n] _ [.inRegion (cops (csub (cd Try.f43) [1,1,1,1,1,1,0,0])) [], .code (csub (cd Try.f43) [1,1,1,1,1,1,0,1]), .code (csub (cd Try.f43) [1,1,1,1,1,1,1])] [(2, .int .i64 ((((((((bl s 0) % 8) * 64) + ((bl s 1) % 64)) * 64) + ((bl s 2) % 64)) * 64) + ((bl s 3) % 64))), (3, .int .i64 4), (61, .bool true)] w (by kernel_rfl) .nil ?_
                      refine GoS.run [2, 3] [.n, .n, .n, .n, .n, .n, .n] _ [.code (csub (cd Try.f43) [1,1,1,1,1,1,0,1,0,1]), .code (csub (cd Try.f43) [1,1,1,1,1,1,1])] [(2, .int .i64 0), (3, .int .i64 0)] w (by kernel_rfl) .nil ?_
                      refine GoS.ret (fn := Try.f43) (v := (.tuple #[.int .i64 0, .int .i64 0])) Try.func43 (by kernel_rfl) ?_
                      rw [hR]
                      have e : firstP s = (0, 0) := by
                        unfold firstP
                        rw [if_neg h4p]
                        rw [if_neg h5p]
                        rw [if_neg h6p]
                        rw [if_neg h8p]
                        rw [if_pos h10p]
                        rw [if_pos (by first | exact Or.inl (by omega) | exact Or.inr (Or.inl (by omega)) | exact Or.inr (Or.inr (Or.inl (by omega))) | exact Or.inr (Or.inr (Or.inr (Or.inl (by omega)))) | exact Or.inr (Or.inr (Or.inr (Or.inr (Or.inl (by omega))))) | exact Or.inr (Or.inr (Or.inr (Or.inr (Or.inr (Or.inl (by omega)))))) | (simp_all; done))]
                      exact ⟨ret_int2 (by rw [e]) (by rw [e]), rfl⟩
                    ·
                      have h82p : ¬ (((((((((bl s 0) % 8) * 64) + ((bl s 1) % 64)) * 64) + ((bl s 2) % 64)) * 64) + ((bl s 3) % 64)) < 65536) := of_decide_eq_false h82
                      refine GoS.run [2, 3, 57, 58] [.n] _ [.inRegion (cops (csub (cd Try.f43) [1,1,1,1,1,1,0,0])) [5,6,7], .code (csub (cd Try.f43) [1,1,1,1,1,1,0,1]), .code (csub (cd Try.f43) [1,1,1,1,1,1,1])] [(2, .int .i64 ((((((((bl s 0) % 8) * 64) + ((bl s 1) % 64)) * 64) + ((bl s 2) % 64)) * 64) + ((bl s 3) % 64))), (3, .int .i64 4), (57, .bool false), (58, .int .i64 ((((((((bl s 0) % 8) * 64) + ((bl s 1) % 64)) * 64) + ((bl s 2) % 64)) * 64) + ((bl s 3) % 64)))] w (by kernel_rfl) .nil ?_
                      refine GoS.call [2, 3, 57] 44 #[.int .i64 ((((((((bl s 0) % 8) * 64) + ((bl s 1) % 64)) * 64) + ((bl s 2) % 64)) * 64) + ((bl s 3) % 64))] (some 59) [.inRegion (cops (csub (cd Try.f43) [1,1,1,1,1,1,0,0])) [6,7], .code (csub (cd Try.f43) [1,1,1,1,1,1,0,1]), .code (csub (cd Try.f43) [1,1,1,1,1,1,1])] [(2, .int .i64 ((((((((bl s 0) % 8) * 64) + ((bl s 1) % 64)) * 64) + ((bl s 2) % 64)) * 64) + ((bl s 3) % 64))), (3, .int .i64 4), (57, .bool false)] (by kernel_rfl) (whole_c ((((((((bl s 0) % 8) * 64) + ((bl s 1) % 64)) * 64) + ((bl s 2) % 64)) * 64) + ((bl s 3) % 64)) w) ?_
                      rintro _ _ ⟨rfl, rfl⟩
                      refine ⟨_, rfl, ?_⟩
                      refine GoS.run [2, 3, 61] [.n, .n] _ [.inRegion (cops (csub (cd Try.f43) [1,1,1,1,1,1,0,0])) [], .code (csub (cd Try.f43) [1,1,1,1,1,1,0,1]), .code (csub (cd Try.f43) [1,1,1,1,1,1,1])] [(2, .int .i64 ((((((((bl s 0) % 8) * 64) + ((bl s 1) % 64)) * 64) + ((bl s 2) % 64)) * 64) + ((bl s 3) % 64))), (3, .int .i64 4), (61, .bool (!(whole ((((((((bl s 0) % 8) * 64) + ((bl s 1) % 64)) * 64) + ((bl s 2) % 64)) * 64) + ((bl s 3) % 64)))))] w (by kernel_rfl) .nil ?_
                      refine GoS.run [2, 3, 61] [.n] _ [.code (csub (cd Try.f43) [1,1,1,1,1,1,0,1]), .code (csub (cd Try.f43) [1,1,1,1,1,1,1])] [(2, .int .i64 ((((((((bl s 0) % 8) * 64) + ((bl s 1) % 64)) * 64) + ((bl s 2) % 64)) * 64) + ((bl s 3) % 64))), (3, .int .i64 4), (61, .bool (!(whole ((((((((bl s 0) % 8) * 64) + ((bl s 1) % 64)) * 64) + ((bl s 2) % 64)) * 64) + ((bl s 3) % 64)))))] w (by kernel_rfl) .nil ?_
                      refine GoS.cond (!(whole ((((((((bl s 0) % 8) * 64) + ((bl s 1) % 64)) * 64) + ((bl s 2) % 64)) * 64) + ((bl s 3) % 64)))) [.code (csub (cd Try.f43) [1,1,1,1,1,1,0,1,0]), .code (csub (cd Try.f43) [1,1,1,1,1,1,1])] [.code (csub (cd Try.f43) [1,1,1,1,1,1,0,1,1]), .code (csub (cd Try.f43) [1,1,1,1,1,1,1])] (by kernel_rfl) (fun h83 => ?_) (fun h83 => ?_)
                      ·
                        refine GoS.run [2, 3] [.n, .n, .n, .n, .n] _ [.code (csub (cd Try.f43) [1,1,1,1,1,1,0,1,0,1]), .code (csub (cd Try.f43) [1,1,1,1,1,1,1])] [(2, .int .i64 0), (3, .int .i64 0)] w (by kernel_rfl) .nil ?_
                        refine GoS.ret (fn := Try.f43) (v := (.tuple #[.int .i64 0, .int .i64 0])) Try.func43 (by kernel_rfl) ?_
                        rw [hR]
                        have e : firstP s = (0, 0) := by
                          unfold firstP
                          rw [if_neg h4p]
                          rw [if_neg h5p]
                          rw [if_neg h6p]
                          rw [if_neg h8p]
                          rw [if_pos h10p]
                          rw [if_pos (by first | exact Or.inl (by omega) | exact Or.inr (Or.inl (by omega)) | exact Or.inr (Or.inr (Or.inl (by omega))) | exact Or.inr (Or.inr (Or.inr (Or.inl (by omega)))) | exact Or.inr (Or.inr (Or.inr (Or.inr (Or.inl (by omega))))) | exact Or.inr (Or.inr (Or.inr (Or.inr (Or.inr (Or.inl (by omega)))))) | (simp_all; done))]
                        exact ⟨ret_int2 (by rw [e]) (by rw [e]), rfl⟩
                      ·
                        have h83p : 0 ≤ ((((((((bl s 0) % 8) * 64) + ((bl s 1) % 64)) * 64) + ((bl s 2) % 64)) * 64) + ((bl s 3) % 64)) ∧ ((((((((bl s 0) % 8) * 64) + ((bl s 1) % 64)) * 64) + ((bl s 2) % 64)) * 64) + ((bl s 3) % 64)) ≤ 1114111 ∧ (((((((((bl s 0) % 8) * 64) + ((bl s 1) % 64)) * 64) + ((bl s 2) % 64)) * 64) + ((bl s 3) % 64)) < 55296 ∨ ((((((((bl s 0) % 8) * 64) + ((bl s 1) % 64)) * 64) + ((bl s 2) % 64)) * 64) + ((bl s 3) % 64)) > 57343) := whole_iff.1 (p_nt h83)
                        refine GoS.run [2, 3] [.n] _ [.code (csub (cd Try.f43) [1,1,1,1,1,1,1])] [(2, .int .i64 ((((((((bl s 0) % 8) * 64) + ((bl s 1) % 64)) * 64) + ((bl s 2) % 64)) * 64) + ((bl s 3) % 64))), (3, .int .i64 4)] w (by kernel_rfl) .nil ?_
                        refine GoS.run [2, 3] [.n, .n, .n, .n, .n, .n, .n] _ [.code (csub (cd Try.f43) [1,1,1,1,1,1,1,1])] [(2, .int .i64 ((((((((bl s 0) % 8) * 64) + ((bl s 1) % 64)) * 64) + ((bl s 2) % 64)) * 64) + ((bl s 3) % 64))), (3, .int .i64 4)] w (by kernel_rfl) .nil ?_
                        refine GoS.ret (fn := Try.f43) (v := (.tuple #[.int .i64 ((((((((bl s 0) % 8) * 64) + ((bl s 1) % 64)) * 64) + ((bl s 2) % 64)) * 64) + ((bl s 3) % 64)), .int .i64 4])) Try.func43 (by kernel_rfl) ?_
                        rw [hR]
                        have e : firstP s = (((((((((bl s 0) % 8) * 64) + ((bl s 1) % 64)) * 64) + ((bl s 2) % 64)) * 64) + ((bl s 3) % 64)), 4) := by
                          unfold firstP
                          rw [if_neg h4p]
                          rw [if_neg h5p]
                          rw [if_neg h6p]
                          rw [if_neg h8p]
                          rw [if_pos h10p]
                          rw [if_neg (by rintro (h | h | h | h | h | h) <;> first | omega | (simp_all; done))]
                        exact ⟨ret_int2 (by rw [e]) (by rw [e]), rfl⟩
          ·
            have h10p : ¬ ((bl s 0) < 248) := of_decide_eq_false h10
            refine GoS.run [2, 3] [.n, .n, .n, .n, .n] _ [.code (csub (cd Try.f43) [1,1,1,0,0,1,1,1,1,1,1,1,1,1,1,1]), .inBlock 0, .code (csub (cd Try.f43) [1,1,1,1])] [(2, .int .i64 0), (3, .int .i64 0)] w (by kernel_rfl) .nil ?_
            refine GoS.ret (fn := Try.f43) (v := (.tuple #[.int .i64 0, .int .i64 0])) Try.func43 (by kernel_rfl) ?_
            rw [hR]
            have e : firstP s = (0, 0) := by
              unfold firstP
              rw [if_neg h4p]
              rw [if_neg h5p]
              rw [if_neg h6p]
              rw [if_neg h8p]
              rw [if_neg h10p]
            exact ⟨ret_int2 (by rw [e]) (by rw [e]), rfl⟩


end Go.Proofs.Ytnhplkkbpmijdaa
