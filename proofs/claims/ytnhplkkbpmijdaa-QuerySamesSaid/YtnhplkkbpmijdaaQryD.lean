/-
  The walks of Name and Letters, of both.
-/
import Derived.Test.YtnhplkkbpmijdaaQryC
namespace Go.Proofs.Ytnhplkkbpmijdaa
open Go Go.Gw Go.UtfP Go.TokP Go.QryP Go.RowKit
set_option linter.unusedVariables false
set_option linter.unusedSimpArgs false


set_option maxHeartbeats 400000 in
theorem name_c_L (s : List UInt8) (hs : s.length ≤ 1048576) (hn : 1 ≤ s.length ∧ s.length ≤ 16) (w : World) (R : Ending → World → Prop) (hR : R = (fun e w' => e = .returned (.bool (nameP s)) ∧ w = w')) : ∀ (N : Nat) (i : Nat) (hi : i ≤ s.length) (hz : ∀ j, j < i → okI (bl s j)) (hN : s.length - i < N), GoS Try.prog 22 R 39 [.code (csub (cd Try.f22) [1,1,0,1,0,0]), .inLoop (csub (cd Try.f22) [1,1,0,1,0,0]), .inBlock 0, .code (csub (cd Try.f22) [1,1,1])] [(0, .string (sb s)), (13, .int .i64 (((List.length s) : Nat) : Int)), (14, .int .i64 ((i : Nat) : Int))] w := by
  intro N
  induction N with
  | zero => intro i hi hz hN; exact absurd hN (Nat.not_lt_zero _)
  | succ N ih =>
    intro i hi hz hN
    have hb := bl_bd s i
    refine GoS.run [0, 13, 14, 15] [.n, .n, .n, .n, .n] _ [.code (csub (cd Try.f22) [1,1,0,1,0,0,1,0]), .code (csub (cd Try.f22) [1,1,0,1,0,0,1,1]), .inLoop (csub (cd Try.f22) [1,1,0,1,0,0]), .inBlock 0, .code (csub (cd Try.f22) [1,1,1])] [(0, .string (sb s)), (13, .int .i64 (((List.length s) : Nat) : Int)), (14, .int .i64 ((i : Nat) : Int)), (15, .bool (decide (((i : Nat) : Int) < (((List.length s) : Nat) : Int))))] w (by kernel_rfl) .nil ?_
    refine GoS.cond (decide (((i : Nat) : Int) < (((List.length s) : Nat) : Int))) [.code (csub (cd Try.f22) [1,1,0,1,0,0,1,0,0]), .code (csub (cd Try.f22) [1,1,0,1,0,0,1,1]), .inLoop (csub (cd Try.f22) [1,1,0,1,0,0]), .inBlock 0, .code (csub (cd Try.f22) [1,1,1])] [.code (csub (cd Try.f22) [1,1,0,1,0,0,1,0,1]), .code (csub (cd Try.f22) [1,1,0,1,0,0,1,1]), .inLoop (csub (cd Try.f22) [1,1,0,1,0,0]), .inBlock 0, .code (csub (cd Try.f22) [1,1,1])] (by kernel_rfl) (fun h1 => ?_) (fun h1 => ?_)
    ·
      have h1p : ((i : Nat) : Int) < (((List.length s) : Nat) : Int) := of_decide_eq_true h1
      refine GoS.run [0, 13, 14] [.n] _ [.code (csub (cd Try.f22) [1,1,0,1,0,0,1,1]), .inLoop (csub (cd Try.f22) [1,1,0,1,0,0]), .inBlock 0, .code (csub (cd Try.f22) [1,1,1])] [(0, .string (sb s)), (13, .int .i64 (((List.length s) : Nat) : Int)), (14, .int .i64 ((i : Nat) : Int))] w (by kernel_rfl) .nil ?_
      have hb2 := bl_bd s i
      have o3 : (Instr.index 9 (.string (sb s)) (.int .i64 ((i : Nat) : Int))).run Try.prog w = .ok (.int .u8 (bl s i)) w := f_index i (by kernel_rfl) (by omega) (by omega)
      refine GoS.run [0, 4, 13, 14, 22] [.n, .n, .n, .n, .n, .n, .n, .n, .n, .n, .n, .h (.int .u8 (bl s i)), .n, .n, .n, .n, .n, .n, .n] _ [.inRegion (cops (csub (cd Try.f22) [1,1,0,1,0,0,1,1,0,0,1,1,0])) [3,4,5,6,7,8,9,10,11,12,13,14,15,16,17], .code (csub (cd Try.f22) [1,1,0,1,0,0,1,1,0,0,1,1,1]), .inBlock 1, .code (csub (cd Try.f22) [1,1,0,1,0,0,1,1,1]), .inLoop (csub (cd Try.f22) [1,1,0,1,0,0]), .inBlock 0, .code (csub (cd Try.f22) [1,1,1])] [(0, .string (sb s)), (4, .int .u8 (bl s i)), (13, .int .i64 (((List.length s) : Nat) : Int)), (14, .int .i64 ((i : Nat) : Int)), (22, .bool (decide ((bl s i) < 97)))] w (by kernel_rfl) (.cons o3 .nil) ?_
      refine GoS.fork 22 (decide ((bl s i) < 97)) (by kernel_rfl) (fun h4 => ?_) (fun h4 => ?_)
      ·
        have h4p : (bl s i) < 97 := of_decide_eq_true h4
        refine GoS.run [0, 4, 13, 14, 26, 29] [.n, .n, .n, .n, .n, .n, .n] _ [.inRegion (cops (csub (cd Try.f22) [1,1,0,1,0,0,1,1,0,0,1,1,0])) [10,11,12,13,14,15,16,17], .code (csub (cd Try.f22) [1,1,0,1,0,0,1,1,0,0,1,1,1]), .inBlock 1, .code (csub (cd Try.f22) [1,1,0,1,0,0,1,1,1]), .inLoop (csub (cd Try.f22) [1,1,0,1,0,0]), .inBlock 0, .code (csub (cd Try.f22) [1,1,1])] [(0, .string (sb s)), (4, .int .u8 (bl s i)), (13, .int .i64 (((List.length s) : Nat) : Int)), (14, .int .i64 ((i : Nat) : Int)), (26, .bool true), (29, .bool (decide ((bl s i) < 48)))] w (by kernel_rfl) .nil ?_
        refine GoS.fork 29 (decide ((bl s i) < 48)) (by kernel_rfl) (fun h5 => ?_) (fun h5 => ?_)
        ·
          have h5p : (bl s i) < 48 := of_decide_eq_true h5
          refine GoS.run [0, 13, 14, 37] [.n, .n, .n, .n, .n, .n, .n, .n] _ [.inRegion (cops (csub (cd Try.f22) [1,1,0,1,0,0,1,1,0,0,1,1,0])) [], .code (csub (cd Try.f22) [1,1,0,1,0,0,1,1,0,0,1,1,1]), .inBlock 1, .code (csub (cd Try.f22) [1,1,0,1,0,0,1,1,1]), .inLoop (csub (cd Try.f22) [1,1,0,1,0,0]), .inBlock 0, .code (csub (cd Try.f22) [1,1,1])] [(0, .string (sb s)), (13, .int .i64 (((List.length s) : Nat) : Int)), (14, .int .i64 ((i : Nat) : Int)), (37, .bool ((bl s i) != 95))] w (by kernel_rfl) .nil ?_
          refine GoS.run [0, 13, 14, 37] [.n] _ [.code (csub (cd Try.f22) [1,1,0,1,0,0,1,1,0,0,1,1,1]), .inBlock 1, .code (csub (cd Try.f22) [1,1,0,1,0,0,1,1,1]), .inLoop (csub (cd Try.f22) [1,1,0,1,0,0]), .inBlock 0, .code (csub (cd Try.f22) [1,1,1])] [(0, .string (sb s)), (13, .int .i64 (((List.length s) : Nat) : Int)), (14, .int .i64 ((i : Nat) : Int)), (37, .bool ((bl s i) != 95))] w (by kernel_rfl) .nil ?_
          refine GoS.cond ((bl s i) != 95) [.code (csub (cd Try.f22) [1,1,0,1,0,0,1,1,0,0,1,1,1,0]), .inBlock 1, .code (csub (cd Try.f22) [1,1,0,1,0,0,1,1,1]), .inLoop (csub (cd Try.f22) [1,1,0,1,0,0]), .inBlock 0, .code (csub (cd Try.f22) [1,1,1])] [.code (csub (cd Try.f22) [1,1,0,1,0,0,1,1,0,0,1,1,1,1]), .inBlock 1, .code (csub (cd Try.f22) [1,1,0,1,0,0,1,1,1]), .inLoop (csub (cd Try.f22) [1,1,0,1,0,0]), .inBlock 0, .code (csub (cd Try.f22) [1,1,1])] (by kernel_rfl) (fun h10 => ?_) (fun h10 => ?_)
          ·
            have h10p : ¬ ((bl s i) = 95) := bne_iff_ne.1 h10
            refine GoS.run [2] [.n, .n, .n, .n] _ [.code (csub (cd Try.f22) [1,1,0,1,0,0,1,1,0,0,1,1,1,0,1]), .inBlock 1, .code (csub (cd Try.f22) [1,1,0,1,0,0,1,1,1]), .inLoop (csub (cd Try.f22) [1,1,0,1,0,0]), .inBlock 0, .code (csub (cd Try.f22) [1,1,1])] [(2, .bool false)] w (by kernel_rfl) .nil ?_
            refine GoS.ret (fn := Try.f22) (v := (.bool false)) Try.func22 (by kernel_rfl) ?_
            rw [hR]
            exact ⟨ret_bool (name_no (j := i) (by omega) (by unfold okI; omega)).symm, rfl⟩
          ·
            have h10p : (bl s i) = 95 := p_eq h10
            refine GoS.run [0, 13, 14] [.n] _ [.inBlock 1, .code (csub (cd Try.f22) [1,1,0,1,0,0,1,1,1]), .inLoop (csub (cd Try.f22) [1,1,0,1,0,0]), .inBlock 0, .code (csub (cd Try.f22) [1,1,1])] [(0, .string (sb s)), (13, .int .i64 (((List.length s) : Nat) : Int)), (14, .int .i64 ((i : Nat) : Int))] w (by kernel_rfl) .nil ?_
            have o11 : (binOp .add 3 (.int .i64 ((i : Nat) : Int)) (.int .i64 1)).run Try.prog w = .ok (.int .i64 (((i + 1) : Nat) : Int)) w := f_add (by rw [show ((i : Nat) : Int) + 1 = (((i + 1) : Nat) : Int) by omega]; exact IntWalk.i64_in _ (by omega))
            refine GoS.run [0, 13, 14] [.n, .n, .h (.int .i64 (((i + 1) : Nat) : Int)), .n, .n, .n] _ [.code (csub (cd Try.f22) [1,1,0,1,0,0]), .inLoop (csub (cd Try.f22) [1,1,0,1,0,0]), .inBlock 0, .code (csub (cd Try.f22) [1,1,1])] [(0, .string (sb s)), (13, .int .i64 (((List.length s) : Nat) : Int)), (14, .int .i64 (((i + 1) : Nat) : Int))] w (by kernel_rfl) (.cons o11 .nil) ?_
            exact ih (i + 1) (by omega) (fun j hj => by rcases Nat.lt_succ_iff_lt_or_eq.1 hj with g | g; exact hz j g; subst g; unfold okI; omega) (by omega)
        ·
          have h5p : ¬ ((bl s i) < 48) := of_decide_eq_false h5
          refine GoS.run [0, 4, 13, 14, 34] [.n, .n, .n, .n, .n] _ [.inRegion (cops (csub (cd Try.f22) [1,1,0,1,0,0,1,1,0,0,1,1,0])) [15,16,17], .code (csub (cd Try.f22) [1,1,0,1,0,0,1,1,0,0,1,1,1]), .inBlock 1, .code (csub (cd Try.f22) [1,1,0,1,0,0,1,1,1]), .inLoop (csub (cd Try.f22) [1,1,0,1,0,0]), .inBlock 0, .code (csub (cd Try.f22) [1,1,1])] [(0, .string (sb s)), (4, .int .u8 (bl s i)), (13, .int .i64 (((List.length s) : Nat) : Int)), (14, .int .i64 ((i : Nat) : Int)), (34, .bool (decide ((bl s i) > 57)))] w (by kernel_rfl) .nil ?_
          refine GoS.fork 34 (decide ((bl s i) > 57)) (by kernel_rfl) (fun h6 => ?_) (fun h6 => ?_)
          ·
            have h6p : (bl s i) > 57 := of_decide_eq_true h6
            refine GoS.run [0, 13, 14, 37] [.n, .n, .n] _ [.inRegion (cops (csub (cd Try.f22) [1,1,0,1,0,0,1,1,0,0,1,1,0])) [], .code (csub (cd Try.f22) [1,1,0,1,0,0,1,1,0,0,1,1,1]), .inBlock 1, .code (csub (cd Try.f22) [1,1,0,1,0,0,1,1,1]), .inLoop (csub (cd Try.f22) [1,1,0,1,0,0]), .inBlock 0, .code (csub (cd Try.f22) [1,1,1])] [(0, .string (sb s)), (13, .int .i64 (((List.length s) : Nat) : Int)), (14, .int .i64 ((i : Nat) : Int)), (37, .bool ((bl s i) != 95))] w (by kernel_rfl) .nil ?_
            refine GoS.run [0, 13, 14, 37] [.n] _ [.code (csub (cd Try.f22) [1,1,0,1,0,0,1,1,0,0,1,1,1]), .inBlock 1, .code (csub (cd Try.f22) [1,1,0,1,0,0,1,1,1]), .inLoop (csub (cd Try.f22) [1,1,0,1,0,0]), .inBlock 0, .code (csub (cd Try.f22) [1,1,1])] [(0, .string (sb s)), (13, .int .i64 (((List.length s) : Nat) : Int)), (14, .int .i64 ((i : Nat) : Int)), (37, .bool ((bl s i) != 95))] w (by kernel_rfl) .nil ?_
            refine GoS.cond ((bl s i) != 95) [.code (csub (cd Try.f22) [1,1,0,1,0,0,1,1,0,0,1,1,1,0]), .inBlock 1, .code (csub (cd Try.f22) [1,1,0,1,0,0,1,1,1]), .inLoop (csub (cd Try.f22) [1,1,0,1,0,0]), .inBlock 0, .code (csub (cd Try.f22) [1,1,1])] [.code (csub (cd Try.f22) [1,1,0,1,0,0,1,1,0,0,1,1,1,1]), .inBlock 1, .code (csub (cd Try.f22) [1,1,0,1,0,0,1,1,1]), .inLoop (csub (cd Try.f22) [1,1,0,1,0,0]), .inBlock 0, .code (csub (cd Try.f22) [1,1,1])] (by kernel_rfl) (fun h12 => ?_) (fun h12 => ?_)
            ·
              have h12p : ¬ ((bl s i) = 95) := bne_iff_ne.1 h12
              refine GoS.run [2] [.n, .n, .n, .n] _ [.code (csub (cd Try.f22) [1,1,0,1,0,0,1,1,0,0,1,1,1,0,1]), .inBlock 1, .code (csub (cd Try.f22) [1,1,0,1,0,0,1,1,1]), .inLoop (csub (cd Try.f22) [1,1,0,1,0,0]), .inBlock 0, .code (csub (cd Try.f22) [1,1,1])] [(2, .bool false)] w (by kernel_rfl) .nil ?_
              refine GoS.ret (fn := Try.f22) (v := (.bool false)) Try.func22 (by kernel_rfl) ?_
              rw [hR]
              exact ⟨ret_bool (name_no (j := i) (by omega) (by unfold okI; omega)).symm, rfl⟩
            ·
              have h12p : (bl s i) = 95 := p_eq h12
              refine GoS.run [0, 13, 14] [.n] _ [.inBlock 1, .code (csub (cd Try.f22) [1,1,0,1,0,0,1,1,1]), .inLoop (csub (cd Try.f22) [1,1,0,1,0,0]), .inBlock 0, .code (csub (cd Try.f22) [1,1,1])] [(0, .string (sb s)), (13, .int .i64 (((List.length s) : Nat) : Int)), (14, .int .i64 ((i : Nat) : Int))] w (by kernel_rfl) .nil ?_
              have o13 : (binOp .add 3 (.int .i64 ((i : Nat) : Int)) (.int .i64 1)).run Try.prog w = .ok (.int .i64 (((i + 1) : Nat) : Int)) w := f_add (by rw [show ((i : Nat) : Int) + 1 = (((i + 1) : Nat) : Int) by omega]; exact IntWalk.i64_in _ (by omega))
              refine GoS.run [0, 13, 14] [.n, .n, .h (.int .i64 (((i + 1) : Nat) : Int)), .n, .n, .n] _ [.code (csub (cd Try.f22) [1,1,0,1,0,0]), .inLoop (csub (cd Try.f22) [1,1,0,1,0,0]), .inBlock 0, .code (csub (cd Try.f22) [1,1,1])] [(0, .string (sb s)), (13, .int .i64 (((List.length s) : Nat) : Int)), (14, .int .i64 (((i + 1) : Nat) : Int))] w (by kernel_rfl) (.cons o13 .nil) ?_
              exact ih (i + 1) (by omega) (fun j hj => by rcases Nat.lt_succ_iff_lt_or_eq.1 hj with g | g; exact hz j g; subst g; unfold okI; omega) (by omega)
          ·
            have h6p : ¬ ((bl s i) > 57) := of_decide_eq_false h6
            refine GoS.run [0, 13, 14, 37] [.n, .n, .n] _ [.inRegion (cops (csub (cd Try.f22) [1,1,0,1,0,0,1,1,0,0,1,1,0])) [], .code (csub (cd Try.f22) [1,1,0,1,0,0,1,1,0,0,1,1,1]), .inBlock 1, .code (csub (cd Try.f22) [1,1,0,1,0,0,1,1,1]), .inLoop (csub (cd Try.f22) [1,1,0,1,0,0]), .inBlock 0, .code (csub (cd Try.f22) [1,1,1])] [(0, .string (sb s)), (13, .int .i64 (((List.length s) : Nat) : Int)), (14, .int .i64 ((i : Nat) : Int)), (37, .bool false)] w (by kernel_rfl) .nil ?_
            have o14 : (binOp .add 3 (.int .i64 ((i : Nat) : Int)) (.int .i64 1)).run Try.prog w = .ok (.int .i64 (((i + 1) : Nat) : Int)) w := f_add (by rw [show ((i : Nat) : Int) + 1 = (((i + 1) : Nat) : Int) by omega]; exact IntWalk.i64_in _ (by omega))
            refine GoS.run [0, 13, 14] [.n, .n, .n, .n, .n, .h (.int .i64 (((i + 1) : Nat) : Int)), .n, .n, .n] _ [.code (csub (cd Try.f22) [1,1,0,1,0,0]), .inLoop (csub (cd Try.f22) [1,1,0,1,0,0]), .inBlock 0, .code (csub (cd Try.f22) [1,1,1])] [(0, .string (sb s)), (13, .int .i64 (((List.length s) : Nat) : Int)), (14, .int .i64 (((i + 1) : Nat) : Int))] w (by kernel_rfl) (.cons o14 .nil) ?_
            exact ih (i + 1) (by omega) (fun j hj => by rcases Nat.lt_succ_iff_lt_or_eq.1 hj with g | g; exact hz j g; subst g; unfold okI; omega) (by omega)
      ·
        have h4p : ¬ ((bl s i) < 97) := of_decide_eq_false h4
        refine GoS.run [0, 4, 13, 14, 26] [.n, .n, .n, .n] _ [.inRegion (cops (csub (cd Try.f22) [1,1,0,1,0,0,1,1,0,0,1,1,0])) [7,8,9,10,11,12,13,14,15,16,17], .code (csub (cd Try.f22) [1,1,0,1,0,0,1,1,0,0,1,1,1]), .inBlock 1, .code (csub (cd Try.f22) [1,1,0,1,0,0,1,1,1]), .inLoop (csub (cd Try.f22) [1,1,0,1,0,0]), .inBlock 0, .code (csub (cd Try.f22) [1,1,1])] [(0, .string (sb s)), (4, .int .u8 (bl s i)), (13, .int .i64 (((List.length s) : Nat) : Int)), (14, .int .i64 ((i : Nat) : Int)), (26, .bool (decide ((bl s i) > 122)))] w (by kernel_rfl) .nil ?_
        refine GoS.fork 26 (decide ((bl s i) > 122)) (by kernel_rfl) (fun h7 => ?_) (fun h7 => ?_)
        ·
          have h7p : (bl s i) > 122 := of_decide_eq_true h7
          refine GoS.run [0, 4, 13, 14, 26, 29] [.n, .n, .n] _ [.inRegion (cops (csub (cd Try.f22) [1,1,0,1,0,0,1,1,0,0,1,1,0])) [10,11,12,13,14,15,16,17], .code (csub (cd Try.f22) [1,1,0,1,0,0,1,1,0,0,1,1,1]), .inBlock 1, .code (csub (cd Try.f22) [1,1,0,1,0,0,1,1,1]), .inLoop (csub (cd Try.f22) [1,1,0,1,0,0]), .inBlock 0, .code (csub (cd Try.f22) [1,1,1])] [(0, .string (sb s)), (4, .int .u8 (bl s i)), (13, .int .i64 (((List.length s) : Nat) : Int)), (14, .int .i64 ((i : Nat) : Int)), (26, .bool true), (29, .bool (decide ((bl s i) < 48)))] w (by kernel_rfl) .nil ?_
          refine GoS.fork 29 (decide ((bl s i) < 48)) (by kernel_rfl) (fun h8 => ?_) (fun h8 => ?_)
          ·
            have h8p : (bl s i) < 48 := of_decide_eq_true h8
            refine GoS.run [0, 13, 14, 37] [.n, .n, .n, .n, .n, .n, .n, .n] _ [.inRegion (cops (csub (cd Try.f22) [1,1,0,1,0,0,1,1,0,0,1,1,0])) [], .code (csub (cd Try.f22) [1,1,0,1,0,0,1,1,0,0,1,1,1]), .inBlock 1, .code (csub (cd Try.f22) [1,1,0,1,0,0,1,1,1]), .inLoop (csub (cd Try.f22) [1,1,0,1,0,0]), .inBlock 0, .code (csub (cd Try.f22) [1,1,1])] [(0, .string (sb s)), (13, .int .i64 (((List.length s) : Nat) : Int)), (14, .int .i64 ((i : Nat) : Int)), (37, .bool ((bl s i) != 95))] w (by kernel_rfl) .nil ?_
            refine GoS.run [0, 13, 14, 37] [.n] _ [.code (csub (cd Try.f22) [1,1,0,1,0,0,1,1,0,0,1,1,1]), .inBlock 1, .code (csub (cd Try.f22) [1,1,0,1,0,0,1,1,1]), .inLoop (csub (cd Try.f22) [1,1,0,1,0,0]), .inBlock 0, .code (csub (cd Try.f22) [1,1,1])] [(0, .string (sb s)), (13, .int .i64 (((List.length s) : Nat) : Int)), (14, .int .i64 ((i : Nat) : Int)), (37, .bool ((bl s i) != 95))] w (by kernel_rfl) .nil ?_
            refine GoS.cond ((bl s i) != 95) [.code (csub (cd Try.f22) [1,1,0,1,0,0,1,1,0,0,1,1,1,0]), .inBlock 1, .code (csub (cd Try.f22) [1,1,0,1,0,0,1,1,1]), .inLoop (csub (cd Try.f22) [1,1,0,1,0,0]), .inBlock 0, .code (csub (cd Try.f22) [1,1,1])] [.code (csub (cd Try.f22) [1,1,0,1,0,0,1,1,0,0,1,1,1,1]), .inBlock 1, .code (csub (cd Try.f22) [1,1,0,1,0,0,1,1,1]), .inLoop (csub (cd Try.f22) [1,1,0,1,0,0]), .inBlock 0, .code (csub (cd Try.f22) [1,1,1])] (by kernel_rfl) (fun h15 => ?_) (fun h15 => ?_)
            ·
              have h15p : ¬ ((bl s i) = 95) := bne_iff_ne.1 h15
              refine GoS.run [2] [.n, .n, .n, .n] _ [.code (csub (cd Try.f22) [1,1,0,1,0,0,1,1,0,0,1,1,1,0,1]), .inBlock 1, .code (csub (cd Try.f22) [1,1,0,1,0,0,1,1,1]), .inLoop (csub (cd Try.f22) [1,1,0,1,0,0]), .inBlock 0, .code (csub (cd Try.f22) [1,1,1])] [(2, .bool false)] w (by kernel_rfl) .nil ?_
              refine GoS.ret (fn := Try.f22) (v := (.bool false)) Try.func22 (by kernel_rfl) ?_
              rw [hR]
              exact ⟨ret_bool (name_no (j := i) (by omega) (by unfold okI; omega)).symm, rfl⟩
            ·
              have h15p : (bl s i) = 95 := p_eq h15
              refine GoS.run [0, 13, 14] [.n] _ [.inBlock 1, .code (csub (cd Try.f22) [1,1,0,1,0,0,1,1,1]), .inLoop (csub (cd Try.f22) [1,1,0,1,0,0]), .inBlock 0, .code (csub (cd Try.f22) [1,1,1])] [(0, .string (sb s)), (13, .int .i64 (((List.length s) : Nat) : Int)), (14, .int .i64 ((i : Nat) : Int))] w (by kernel_rfl) .nil ?_
              have o16 : (binOp .add 3 (.int .i64 ((i : Nat) : Int)) (.int .i64 1)).run Try.prog w = .ok (.int .i64 (((i + 1) : Nat) : Int)) w := f_add (by rw [show ((i : Nat) : Int) + 1 = (((i + 1) : Nat) : Int) by omega]; exact IntWalk.i64_in _ (by omega))
              refine GoS.run [0, 13, 14] [.n, .n, .h (.int .i64 (((i + 1) : Nat) : Int)), .n, .n, .n] _ [.code (csub (cd Try.f22) [1,1,0,1,0,0]), .inLoop (csub (cd Try.f22) [1,1,0,1,0,0]), .inBlock 0, .code (csub (cd Try.f22) [1,1,1])] [(0, .string (sb s)), (13, .int .i64 (((List.length s) : Nat) : Int)), (14, .int .i64 (((i + 1) : Nat) : Int))] w (by kernel_rfl) (.cons o16 .nil) ?_
              exact ih (i + 1) (by omega) (fun j hj => by rcases Nat.lt_succ_iff_lt_or_eq.1 hj with g | g; exact hz j g; subst g; unfold okI; omega) (by omega)
          ·
            have h8p : ¬ ((bl s i) < 48) := of_decide_eq_false h8
            refine GoS.run [0, 4, 13, 14, 34] [.n, .n, .n, .n, .n] _ [.inRegion (cops (csub (cd Try.f22) [1,1,0,1,0,0,1,1,0,0,1,1,0])) [15,16,17], .code (csub (cd Try.f22) [1,1,0,1,0,0,1,1,0,0,1,1,1]), .inBlock 1, .code (csub (cd Try.f22) [1,1,0,1,0,0,1,1,1]), .inLoop (csub (cd Try.f22) [1,1,0,1,0,0]), .inBlock 0, .code (csub (cd Try.f22) [1,1,1])] [(0, .string (sb s)), (4, .int .u8 (bl s i)), (13, .int .i64 (((List.length s) : Nat) : Int)), (14, .int .i64 ((i : Nat) : Int)), (34, .bool (decide ((bl s i) > 57)))] w (by kernel_rfl) .nil ?_
            refine GoS.fork 34 (decide ((bl s i) > 57)) (by kernel_rfl) (fun h9 => ?_) (fun h9 => ?_)
            ·
              have h9p : (bl s i) > 57 := of_decide_eq_true h9
              refine GoS.run [0, 13, 14, 37] [.n, .n, .n] _ [.inRegion (cops (csub (cd Try.f22) [1,1,0,1,0,0,1,1,0,0,1,1,0])) [], .code (csub (cd Try.f22) [1,1,0,1,0,0,1,1,0,0,1,1,1]), .inBlock 1, .code (csub (cd Try.f22) [1,1,0,1,0,0,1,1,1]), .inLoop (csub (cd Try.f22) [1,1,0,1,0,0]), .inBlock 0, .code (csub (cd Try.f22) [1,1,1])] [(0, .string (sb s)), (13, .int .i64 (((List.length s) : Nat) : Int)), (14, .int .i64 ((i : Nat) : Int)), (37, .bool ((bl s i) != 95))] w (by kernel_rfl) .nil ?_
              refine GoS.run [0, 13, 14, 37] [.n] _ [.code (csub (cd Try.f22) [1,1,0,1,0,0,1,1,0,0,1,1,1]), .inBlock 1, .code (csub (cd Try.f22) [1,1,0,1,0,0,1,1,1]), .inLoop (csub (cd Try.f22) [1,1,0,1,0,0]), .inBlock 0, .code (csub (cd Try.f22) [1,1,1])] [(0, .string (sb s)), (13, .int .i64 (((List.length s) : Nat) : Int)), (14, .int .i64 ((i : Nat) : Int)), (37, .bool ((bl s i) != 95))] w (by kernel_rfl) .nil ?_
              refine GoS.cond ((bl s i) != 95) [.code (csub (cd Try.f22) [1,1,0,1,0,0,1,1,0,0,1,1,1,0]), .inBlock 1, .code (csub (cd Try.f22) [1,1,0,1,0,0,1,1,1]), .inLoop (csub (cd Try.f22) [1,1,0,1,0,0]), .inBlock 0, .code (csub (cd Try.f22) [1,1,1])] [.code (csub (cd Try.f22) [1,1,0,1,0,0,1,1,0,0,1,1,1,1]), .inBlock 1, .code (csub (cd Try.f22) [1,1,0,1,0,0,1,1,1]), .inLoop (csub (cd Try.f22) [1,1,0,1,0,0]), .inBlock 0, .code (csub (cd Try.f22) [1,1,1])] (by kernel_rfl) (fun h17 => ?_) (fun h17 => ?_)
              ·
                have h17p : ¬ ((bl s i) = 95) := bne_iff_ne.1 h17
                refine GoS.run [2] [.n, .n, .n, .n] _ [.code (csub (cd Try.f22) [1,1,0,1,0,0,1,1,0,0,1,1,1,0,1]), .inBlock 1, .code (csub (cd Try.f22) [1,1,0,1,0,0,1,1,1]), .inLoop (csub (cd Try.f22) [1,1,0,1,0,0]), .inBlock 0, .code (csub (cd Try.f22) [1,1,1])] [(2, .bool false)] w (by kernel_rfl) .nil ?_
                refine GoS.ret (fn := Try.f22) (v := (.bool false)) Try.func22 (by kernel_rfl) ?_
                rw [hR]
                exact ⟨ret_bool (name_no (j := i) (by omega) (by unfold okI; omega)).symm, rfl⟩
              ·
                have h17p : (bl s i) = 95 := p_eq h17
                refine GoS.run [0, 13, 14] [.n] _ [.inBlock 1, .code (csub (cd Try.f22) [1,1,0,1,0,0,1,1,1]), .inLoop (csub (cd Try.f22) [1,1,0,1,0,0]), .inBlock 0, .code (csub (cd Try.f22) [1,1,1])] [(0, .string (sb s)), (13, .int .i64 (((List.length s) : Nat) : Int)), (14, .int .i64 ((i : Nat) : Int))] w (by kernel_rfl) .nil ?_
                have o18 : (binOp .add 3 (.int .i64 ((i : Nat) : Int)) (.int .i64 1)).run Try.prog w = .ok (.int .i64 (((i + 1) : Nat) : Int)) w := f_add (by rw [show ((i : Nat) : Int) + 1 = (((i + 1) : Nat) : Int) by omega]; exact IntWalk.i64_in _ (by omega))
                refine GoS.run [0, 13, 14] [.n, .n, .h (.int .i64 (((i + 1) : Nat) : Int)), .n, .n, .n] _ [.code (csub (cd Try.f22) [1,1,0,1,0,0]), .inLoop (csub (cd Try.f22) [1,1,0,1,0,0]), .inBlock 0, .code (csub (cd Try.f22) [1,1,1])] [(0, .string (sb s)), (13, .int .i64 (((List.length s) : Nat) : Int)), (14, .int .i64 (((i + 1) : Nat) : Int))] w (by kernel_rfl) (.cons o18 .nil) ?_
                exact ih (i + 1) (by omega) (fun j hj => by rcases Nat.lt_succ_iff_lt_or_eq.1 hj with g | g; exact hz j g; subst g; unfold okI; omega) (by omega)
            ·
              have h9p : ¬ ((bl s i) > 57) := of_decide_eq_false h9
              refine GoS.run [0, 13, 14, 37] [.n, .n, .n] _ [.inRegion (cops (csub (cd Try.f22) [1,1,0,1,0,0,1,1,0,0,1,1,0])) [], .code (csub (cd Try.f22) [1,1,0,1,0,0,1,1,0,0,1,1,1]), .inBlock 1, .code (csub (cd Try.f22) [1,1,0,1,0,0,1,1,1]), .inLoop (csub (cd Try.f22) [1,1,0,1,0,0]), .inBlock 0, .code (csub (cd Try.f22) [1,1,1])] [(0, .string (sb s)), (13, .int .i64 (((List.length s) : Nat) : Int)), (14, .int .i64 ((i : Nat) : Int)), (37, .bool false)] w (by kernel_rfl) .nil ?_
              have o19 : (binOp .add 3 (.int .i64 ((i : Nat) : Int)) (.int .i64 1)).run Try.prog w = .ok (.int .i64 (((i + 1) : Nat) : Int)) w := f_add (by rw [show ((i : Nat) : Int) + 1 = (((i + 1) : Nat) : Int) by omega]; exact IntWalk.i64_in _ (by omega))
              refine GoS.run [0, 13, 14] [.n, .n, .n, .n, .n, .h (.int .i64 (((i + 1) : Nat) : Int)), .n, .n, .n] _ [.code (csub (cd Try.f22) [1,1,0,1,0,0]), .inLoop (csub (cd Try.f22) [1,1,0,1,0,0]), .inBlock 0, .code (csub (cd Try.f22) [1,1,1])] [(0, .string (sb s)), (13, .int .i64 (((List.length s) : Nat) : Int)), (14, .int .i64 (((i + 1) : Nat) : Int))] w (by kernel_rfl) (.cons o19 .nil) ?_
              exact ih (i + 1) (by omega) (fun j hj => by rcases Nat.lt_succ_iff_lt_or_eq.1 hj with g | g; exact hz j g; subst g; unfold okI; omega) (by omega)
        ·
          have h7p : ¬ ((bl s i) > 122) := of_decide_eq_false h7
          refine GoS.run [0, 13, 14, 37] [.n, .n, .n, .n, .n, .n, .n, .n, .n, .n, .n] _ [.inRegion (cops (csub (cd Try.f22) [1,1,0,1,0,0,1,1,0,0,1,1,0])) [], .code (csub (cd Try.f22) [1,1,0,1,0,0,1,1,0,0,1,1,1]), .inBlock 1, .code (csub (cd Try.f22) [1,1,0,1,0,0,1,1,1]), .inLoop (csub (cd Try.f22) [1,1,0,1,0,0]), .inBlock 0, .code (csub (cd Try.f22) [1,1,1])] [(0, .string (sb s)), (13, .int .i64 (((List.length s) : Nat) : Int)), (14, .int .i64 ((i : Nat) : Int)), (37, .bool false)] w (by kernel_rfl) .nil ?_
          have o20 : (binOp .add 3 (.int .i64 ((i : Nat) : Int)) (.int .i64 1)).run Try.prog w = .ok (.int .i64 (((i + 1) : Nat) : Int)) w := f_add (by rw [show ((i : Nat) : Int) + 1 = (((i + 1) : Nat) : Int) by omega]; exact IntWalk.i64_in _ (by omega))
          refine GoS.run [0, 13, 14] [.n, .n, .n, .n, .n, .h (.int .i64 (((i + 1) : Nat) : Int)), .n, .n, .n] _ [.code (csub (cd Try.f22) [1,1,0,1,0,0]), .inLoop (csub (cd Try.f22) [1,1,0,1,0,0]), .inBlock 0, .code (csub (cd Try.f22) [1,1,1])] [(0, .string (sb s)), (13, .int .i64 (((List.length s) : Nat) : Int)), (14, .int .i64 (((i + 1) : Nat) : Int))] w (by kernel_rfl) (.cons o20 .nil) ?_
          exact ih (i + 1) (by omega) (fun j hj => by rcases Nat.lt_succ_iff_lt_or_eq.1 hj with g | g; exact hz j g; subst g; unfold okI; omega) (by omega)
    ·
      have h1p : ¬ (((i : Nat) : Int) < (((List.length s) : Nat) : Int)) := of_decide_eq_false h1
      refine GoS.run [2] [.n, .n, .n, .n, .n] _ [.code (csub (cd Try.f22) [1,1,1,1])] [(2, .bool true)] w (by kernel_rfl) .nil ?_
      refine GoS.ret (fn := Try.f22) (v := (.bool true)) Try.func22 (by kernel_rfl) ?_
      rw [hR]
      exact ⟨ret_bool (name_yes (by omega) (fun j hj => hz j (by omega))).symm, rfl⟩

set_option maxHeartbeats 400000 in
theorem name_c (s : List UInt8) (hs : s.length ≤ 1048576) (w : World) :
    Calls Try.prog 22 #[.string (sb s)] w (fun e w' => e = .returned (.bool (nameP s)) ∧ w = w') := by
  obtain ⟨R, hR⟩ : ∃ R : Ending → World → Prop, R = (fun e w' => e = .returned (.bool (nameP s)) ∧ w = w') := ⟨_, rfl⟩
  rw [← hR]
  refine GoS.enter (n := 39) Try.func22 (by kernel_rfl) rfl [(0, .string (sb s))] (by kernel_rfl) (by kernel_rfl) ?_
  have o1 : (binOp .eql 9 (.string (sb s)) (.string (sb ([])))).run Try.prog w = .ok (.bool (decide (s = []))) w := f_streq
  refine GoS.run [0, 7] [.n, .n, .n, .n, .n, .n, .n, .n, .h (.bool (decide (s = []))), .n] _ [.inRegion (cops (csub (cd Try.f22) [1,0,0])) [3,4,5,6], .code (csub (cd Try.f22) [1,0,1]), .code (csub (cd Try.f22) [1,1])] [(0, .string (sb s)), (7, .bool (decide (s = [])))] w (by kernel_rfl) (.cons o1 .nil) ?_
  refine GoS.fork 7 (decide (s = [])) (by kernel_rfl) (fun h2 => ?_) (fun h2 => ?_)
  ·
    have h2p : s = [] := of_decide_eq_true h2
    refine GoS.run [0, 11] [.n, .n, .n, .n] _ [.inRegion (cops (csub (cd Try.f22) [1,0,0])) [], .code (csub (cd Try.f22) [1,0,1]), .code (csub (cd Try.f22) [1,1])] [(0, .string (sb s)), (11, .bool true)] w (by kernel_rfl) .nil ?_
    refine GoS.run [2] [.n, .n, .n, .n, .n, .n] _ [.code (csub (cd Try.f22) [1,0,1,0,1]), .code (csub (cd Try.f22) [1,1])] [(2, .bool false)] w (by kernel_rfl) .nil ?_
    refine GoS.ret (fn := Try.f22) (v := (.bool false)) Try.func22 (by kernel_rfl) ?_
    rw [hR]
    exact ⟨ret_bool (name_len (by first | omega | (rw [h2p]; decide))).symm, rfl⟩
  ·
    have h2p : ¬ (s = []) := of_decide_eq_false h2
    have o3 : (Builtin.len_ #[9] 3 #[.string (sb s)]).run Try.prog w = .ok (.int .i64 ((s.length : Nat) : Int)) w := f_len (by kernel_rfl)
    refine GoS.run [0, 11] [.n, .h (.int .i64 ((s.length : Nat) : Int)), .n, .n] _ [.inRegion (cops (csub (cd Try.f22) [1,0,0])) [], .code (csub (cd Try.f22) [1,0,1]), .code (csub (cd Try.f22) [1,1])] [(0, .string (sb s)), (11, .bool (decide (((s.length : Nat) : Int) > 16)))] w (by kernel_rfl) (.cons o3 .nil) ?_
    refine GoS.run [0, 11] [.n] _ [.code (csub (cd Try.f22) [1,0,1]), .code (csub (cd Try.f22) [1,1])] [(0, .string (sb s)), (11, .bool (decide (((s.length : Nat) : Int) > 16)))] w (by kernel_rfl) .nil ?_
    refine GoS.cond (decide (((s.length : Nat) : Int) > 16)) [.code (csub (cd Try.f22) [1,0,1,0]), .code (csub (cd Try.f22) [1,1])] [.code (csub (cd Try.f22) [1,0,1,1]), .code (csub (cd Try.f22) [1,1])] (by kernel_rfl) (fun h4 => ?_) (fun h4 => ?_)
    ·
      have h4p : ((s.length : Nat) : Int) > 16 := of_decide_eq_true h4
      refine GoS.run [2] [.n, .n, .n, .n] _ [.code (csub (cd Try.f22) [1,0,1,0,1]), .code (csub (cd Try.f22) [1,1])] [(2, .bool false)] w (by kernel_rfl) .nil ?_
      refine GoS.ret (fn := Try.f22) (v := (.bool false)) Try.func22 (by kernel_rfl) ?_
      rw [hR]
      exact ⟨ret_bool (name_len (by first | omega | (rw [h2p]; decide))).symm, rfl⟩
    ·
      have h4p : ¬ (((s.length : Nat) : Int) > 16) := of_decide_eq_false h4
      refine GoS.run [0] [.n] _ [.code (csub (cd Try.f22) [1,1])] [(0, .string (sb s))] w (by kernel_rfl) .nil ?_
      have o5 : (Builtin.len_ #[9] 3 #[.string (sb s)]).run Try.prog w = .ok (.int .i64 ((s.length : Nat) : Int)) w := f_len (by kernel_rfl)
      refine GoS.run [0, 13, 14] [.n, .n, .n, .n, .h (.int .i64 ((s.length : Nat) : Int)), .n, .n, .n, .n] _ [.code (csub (cd Try.f22) [1,1,0,1,0,0]), .inLoop (csub (cd Try.f22) [1,1,0,1,0,0]), .inBlock 0, .code (csub (cd Try.f22) [1,1,1])] [(0, .string (sb s)), (13, .int .i64 ((s.length : Nat) : Int)), (14, .int .i64 0)] w (by kernel_rfl) (.cons o5 .nil) ?_
      exact name_c_L s hs ⟨Nat.pos_of_ne_zero (fun z => h2p (List.eq_nil_of_length_eq_zero z)), by omega⟩ w R hR (s.length + 1) 0 (Nat.zero_le _) (fun j hj => absurd hj (Nat.not_lt_zero _)) (by omega)

set_option maxHeartbeats 400000 in
theorem rname_c_L (s : List UInt8) (hs : s.length ≤ 1048576) (w : World) (R : Ending → World → Prop) (hR : R = (fun e w' => e = .returned (.bool (nameP s)) ∧ w = w')) : ∀ (N : Nat) (i : Nat) (hi : i ≤ s.length) (hz : ∀ j, j < i → okI (bl s j)) (hN : s.length - i < N), GoS Try.prog 29 R 41 [.code (csub (cd Try.f29) [1,0,1,0,0]), .inLoop (csub (cd Try.f29) [1,0,1,0,0]), .inBlock 0, .code (csub (cd Try.f29) [1,1])] [(0, .string (sb s)), (3, .int .i64 ((i : Nat) : Int))] w := by
  intro N
  induction N with
  | zero => intro i hi hz hN; exact absurd hN (Nat.not_lt_zero _)
  | succ N ih =>
    intro i hi hz hN
    have hb := bl_bd s i
    have o1 : (Builtin.len_ #[9] 3 #[.string (sb s)]).run Try.prog w = .ok (.int .i64 ((s.length : Nat) : Int)) w := f_len (by kernel_rfl)
    refine GoS.run [0, 3, 8] [.n, .n, .n, .n, .n, .h (.int .i64 ((s.length : Nat) : Int)), .n, .n] _ [.code (csub (cd Try.f29) [1,0,1,0,0,0,1]), .code (csub (cd Try.f29) [1,0,1,0,0,1]), .inLoop (csub (cd Try.f29) [1,0,1,0,0]), .inBlock 0, .code (csub (cd Try.f29) [1,1])] [(0, .string (sb s)), (3, .int .i64 ((i : Nat) : Int)), (8, .bool (decide (((i : Nat) : Int) < ((s.length : Nat) : Int))))] w (by kernel_rfl) (.cons o1 .nil) ?_
    refine GoS.cond (decide (((i : Nat) : Int) < ((s.length : Nat) : Int))) [.code (csub (cd Try.f29) [1,0,1,0,0,0,1,0]), .code (csub (cd Try.f29) [1,0,1,0,0,1]), .inLoop (csub (cd Try.f29) [1,0,1,0,0]), .inBlock 0, .code (csub (cd Try.f29) [1,1])] [.code (csub (cd Try.f29) [1,0,1,0,0,0,1,1]), .code (csub (cd Try.f29) [1,0,1,0,0,1]), .inLoop (csub (cd Try.f29) [1,0,1,0,0]), .inBlock 0, .code (csub (cd Try.f29) [1,1])] (by kernel_rfl) (fun h2 => ?_) (fun h2 => ?_)
    ·
      have h2p : ((i : Nat) : Int) < ((s.length : Nat) : Int) := of_decide_eq_true h2
      refine GoS.run [0, 3] [.n] _ [.code (csub (cd Try.f29) [1,0,1,0,0,1]), .inLoop (csub (cd Try.f29) [1,0,1,0,0]), .inBlock 0, .code (csub (cd Try.f29) [1,1])] [(0, .string (sb s)), (3, .int .i64 ((i : Nat) : Int))] w (by kernel_rfl) .nil ?_
      have hb6 := bl_bd s i
      have o7 : (Instr.index 9 (.string (sb s)) (.int .i64 ((i : Nat) : Int))).run Try.prog w = .ok (.int .u8 (bl s i)) w := f_index i (by kernel_rfl) (by omega) (by omega)
      refine GoS.run [0, 3, 4, 16] [.n, .n, .n, .n, .n, .n, .h (.int .u8 (bl s i)), .n, .n, .n, .n, .n, .n, .n] _ [.inRegion (cops (csub (cd Try.f29) [1,0,1,0,0,1,0,0,1,0])) [3,4,5,6,7,8,9,10,11,12,13,14,15,16,17,18], .code (csub (cd Try.f29) [1,0,1,0,0,1,0,0,1,1]), .inBlock 1, .code (csub (cd Try.f29) [1,0,1,0,0,1,1]), .inLoop (csub (cd Try.f29) [1,0,1,0,0]), .inBlock 0, .code (csub (cd Try.f29) [1,1])] [(0, .string (sb s)), (3, .int .i64 ((i : Nat) : Int)), (4, .int .u8 (bl s i)), (16, .bool (decide ((bl s i) ≥ 97)))] w (by kernel_rfl) (.cons o7 .nil) ?_
      refine GoS.fork 16 (decide ((bl s i) ≥ 97)) (by kernel_rfl) (fun h8 => ?_) (fun h8 => ?_)
      ·
        have h8p : (bl s i) ≥ 97 := of_decide_eq_true h8
        refine GoS.run [0, 3, 4, 20] [.n, .n, .n, .n] _ [.inRegion (cops (csub (cd Try.f29) [1,0,1,0,0,1,0,0,1,0])) [7,8,9,10,11,12,13,14,15,16,17,18], .code (csub (cd Try.f29) [1,0,1,0,0,1,0,0,1,1]), .inBlock 1, .code (csub (cd Try.f29) [1,0,1,0,0,1,1]), .inLoop (csub (cd Try.f29) [1,0,1,0,0]), .inBlock 0, .code (csub (cd Try.f29) [1,1])] [(0, .string (sb s)), (3, .int .i64 ((i : Nat) : Int)), (4, .int .u8 (bl s i)), (20, .bool (decide ((bl s i) ≤ 122)))] w (by kernel_rfl) .nil ?_
        refine GoS.fork 20 (decide ((bl s i) ≤ 122)) (by kernel_rfl) (fun h9 => ?_) (fun h9 => ?_)
        ·
          have h9p : (bl s i) ≤ 122 := of_decide_eq_true h9
          refine GoS.run [0, 3, 32] [.n, .n, .n, .n, .n, .n, .n, .n, .n, .n, .n, .n] _ [.inRegion (cops (csub (cd Try.f29) [1,0,1,0,0,1,0,0,1,0])) [], .code (csub (cd Try.f29) [1,0,1,0,0,1,0,0,1,1]), .inBlock 1, .code (csub (cd Try.f29) [1,0,1,0,0,1,1]), .inLoop (csub (cd Try.f29) [1,0,1,0,0]), .inBlock 0, .code (csub (cd Try.f29) [1,1])] [(0, .string (sb s)), (3, .int .i64 ((i : Nat) : Int)), (32, .bool false)] w (by kernel_rfl) .nil ?_
          have o14 : (binOp .add 3 (.int .i64 ((i : Nat) : Int)) (.int .i64 1)).run Try.prog w = .ok (.int .i64 (((i + 1) : Nat) : Int)) w := f_add (by rw [show ((i : Nat) : Int) + 1 = (((i + 1) : Nat) : Int) by omega]; exact IntWalk.i64_in _ (by omega))
          refine GoS.run [0, 3] [.n, .n, .n, .n, .n, .n, .h (.int .i64 (((i + 1) : Nat) : Int)), .n, .n, .n] _ [.code (csub (cd Try.f29) [1,0,1,0,0]), .inLoop (csub (cd Try.f29) [1,0,1,0,0]), .inBlock 0, .code (csub (cd Try.f29) [1,1])] [(0, .string (sb s)), (3, .int .i64 (((i + 1) : Nat) : Int))] w (by kernel_rfl) (.cons o14 .nil) ?_
          exact ih (i + 1) (by omega) (fun j hj => by rcases Nat.lt_succ_iff_lt_or_eq.1 hj with g | g; exact hz j g; subst g; unfold okI; omega) (by omega)
        ·
          have h9p : ¬ ((bl s i) ≤ 122) := of_decide_eq_false h9
          refine GoS.run [0, 3, 4, 20, 23] [.n, .n, .n] _ [.inRegion (cops (csub (cd Try.f29) [1,0,1,0,0,1,0,0,1,0])) [10,11,12,13,14,15,16,17,18], .code (csub (cd Try.f29) [1,0,1,0,0,1,0,0,1,1]), .inBlock 1, .code (csub (cd Try.f29) [1,0,1,0,0,1,1]), .inLoop (csub (cd Try.f29) [1,0,1,0,0]), .inBlock 0, .code (csub (cd Try.f29) [1,1])] [(0, .string (sb s)), (3, .int .i64 ((i : Nat) : Int)), (4, .int .u8 (bl s i)), (20, .bool false), (23, .bool (decide ((bl s i) ≥ 48)))] w (by kernel_rfl) .nil ?_
          refine GoS.fork 23 (decide ((bl s i) ≥ 48)) (by kernel_rfl) (fun h10 => ?_) (fun h10 => ?_)
          ·
            have h10p : (bl s i) ≥ 48 := of_decide_eq_true h10
            refine GoS.run [0, 3, 4, 28] [.n, .n, .n, .n, .n] _ [.inRegion (cops (csub (cd Try.f29) [1,0,1,0,0,1,0,0,1,0])) [15,16,17,18], .code (csub (cd Try.f29) [1,0,1,0,0,1,0,0,1,1]), .inBlock 1, .code (csub (cd Try.f29) [1,0,1,0,0,1,1]), .inLoop (csub (cd Try.f29) [1,0,1,0,0]), .inBlock 0, .code (csub (cd Try.f29) [1,1])] [(0, .string (sb s)), (3, .int .i64 ((i : Nat) : Int)), (4, .int .u8 (bl s i)), (28, .bool (decide ((bl s i) ≤ 57)))] w (by kernel_rfl) .nil ?_
            refine GoS.fork 28 (decide ((bl s i) ≤ 57)) (by kernel_rfl) (fun h11 => ?_) (fun h11 => ?_)
            ·
              have h11p : (bl s i) ≤ 57 := of_decide_eq_true h11
              refine GoS.run [0, 3, 32] [.n, .n, .n, .n] _ [.inRegion (cops (csub (cd Try.f29) [1,0,1,0,0,1,0,0,1,0])) [], .code (csub (cd Try.f29) [1,0,1,0,0,1,0,0,1,1]), .inBlock 1, .code (csub (cd Try.f29) [1,0,1,0,0,1,1]), .inLoop (csub (cd Try.f29) [1,0,1,0,0]), .inBlock 0, .code (csub (cd Try.f29) [1,1])] [(0, .string (sb s)), (3, .int .i64 ((i : Nat) : Int)), (32, .bool false)] w (by kernel_rfl) .nil ?_
              have o15 : (binOp .add 3 (.int .i64 ((i : Nat) : Int)) (.int .i64 1)).run Try.prog w = .ok (.int .i64 (((i + 1) : Nat) : Int)) w := f_add (by rw [show ((i : Nat) : Int) + 1 = (((i + 1) : Nat) : Int) by omega]; exact IntWalk.i64_in _ (by omega))
              refine GoS.run [0, 3] [.n, .n, .n, .n, .n, .n, .h (.int .i64 (((i + 1) : Nat) : Int)), .n, .n, .n] _ [.code (csub (cd Try.f29) [1,0,1,0,0]), .inLoop (csub (cd Try.f29) [1,0,1,0,0]), .inBlock 0, .code (csub (cd Try.f29) [1,1])] [(0, .string (sb s)), (3, .int .i64 (((i + 1) : Nat) : Int))] w (by kernel_rfl) (.cons o15 .nil) ?_
              exact ih (i + 1) (by omega) (fun j hj => by rcases Nat.lt_succ_iff_lt_or_eq.1 hj with g | g; exact hz j g; subst g; unfold okI; omega) (by omega)
            ·
              have h11p : ¬ ((bl s i) ≤ 57) := of_decide_eq_false h11
              refine GoS.run [0, 3, 32] [.n, .n, .n, .n] _ [.inRegion (cops (csub (cd Try.f29) [1,0,1,0,0,1,0,0,1,0])) [], .code (csub (cd Try.f29) [1,0,1,0,0,1,0,0,1,1]), .inBlock 1, .code (csub (cd Try.f29) [1,0,1,0,0,1,1]), .inLoop (csub (cd Try.f29) [1,0,1,0,0]), .inBlock 0, .code (csub (cd Try.f29) [1,1])] [(0, .string (sb s)), (3, .int .i64 ((i : Nat) : Int)), (32, .bool (!((bl s i) == 95)))] w (by kernel_rfl) .nil ?_
              refine GoS.run [0, 3, 32] [.n] _ [.code (csub (cd Try.f29) [1,0,1,0,0,1,0,0,1,1]), .inBlock 1, .code (csub (cd Try.f29) [1,0,1,0,0,1,1]), .inLoop (csub (cd Try.f29) [1,0,1,0,0]), .inBlock 0, .code (csub (cd Try.f29) [1,1])] [(0, .string (sb s)), (3, .int .i64 ((i : Nat) : Int)), (32, .bool (!((bl s i) == 95)))] w (by kernel_rfl) .nil ?_
              refine GoS.cond (!((bl s i) == 95)) [.code (csub (cd Try.f29) [1,0,1,0,0,1,0,0,1,1,0]), .inBlock 1, .code (csub (cd Try.f29) [1,0,1,0,0,1,1]), .inLoop (csub (cd Try.f29) [1,0,1,0,0]), .inBlock 0, .code (csub (cd Try.f29) [1,1])] [.code (csub (cd Try.f29) [1,0,1,0,0,1,0,0,1,1,1]), .inBlock 1, .code (csub (cd Try.f29) [1,0,1,0,0,1,1]), .inLoop (csub (cd Try.f29) [1,0,1,0,0]), .inBlock 0, .code (csub (cd Try.f29) [1,1])] (by kernel_rfl) (fun h16 => ?_) (fun h16 => ?_)
              ·
                have h16p : ¬ ((bl s i) = 95) := p_ne (p_nf h16)
                refine GoS.run [2] [.n, .n, .n, .n] _ [.code (csub (cd Try.f29) [1,0,1,0,0,1,0,0,1,1,0,1]), .inBlock 1, .code (csub (cd Try.f29) [1,0,1,0,0,1,1]), .inLoop (csub (cd Try.f29) [1,0,1,0,0]), .inBlock 0, .code (csub (cd Try.f29) [1,1])] [(2, .bool false)] w (by kernel_rfl) .nil ?_
                refine GoS.ret (fn := Try.f29) (v := (.bool false)) Try.func29 (by kernel_rfl) ?_
                rw [hR]
                exact ⟨ret_bool (name_no (j := i) (by omega) (by unfold okI; omega)).symm, rfl⟩
              ·
                have h16p : (bl s i) = 95 := eq_of_beq (p_nt h16)
                refine GoS.run [0, 3] [.n] _ [.inBlock 1, .code (csub (cd Try.f29) [1,0,1,0,0,1,1]), .inLoop (csub (cd Try.f29) [1,0,1,0,0]), .inBlock 0, .code (csub (cd Try.f29) [1,1])] [(0, .string (sb s)), (3, .int .i64 ((i : Nat) : Int))] w (by kernel_rfl) .nil ?_
                have o17 : (binOp .add 3 (.int .i64 ((i : Nat) : Int)) (.int .i64 1)).run Try.prog w = .ok (.int .i64 (((i + 1) : Nat) : Int)) w := f_add (by rw [show ((i : Nat) : Int) + 1 = (((i + 1) : Nat) : Int) by omega]; exact IntWalk.i64_in _ (by omega))
                refine GoS.run [0, 3] [.n, .n, .n, .h (.int .i64 (((i + 1) : Nat) : Int)), .n, .n, .n] _ [.code (csub (cd Try.f29) [1,0,1,0,0]), .inLoop (csub (cd Try.f29) [1,0,1,0,0]), .inBlock 0, .code (csub (cd Try.f29) [1,1])] [(0, .string (sb s)), (3, .int .i64 (((i + 1) : Nat) : Int))] w (by kernel_rfl) (.cons o17 .nil) ?_
                exact ih (i + 1) (by omega) (fun j hj => by rcases Nat.lt_succ_iff_lt_or_eq.1 hj with g | g; exact hz j g; subst g; unfold okI; omega) (by omega)
          ·
            have h10p : ¬ ((bl s i) ≥ 48) := of_decide_eq_false h10
            refine GoS.run [0, 3, 32] [.n, .n, .n, .n, .n, .n, .n, .n, .n] _ [.inRegion (cops (csub (cd Try.f29) [1,0,1,0,0,1,0,0,1,0])) [], .code (csub (cd Try.f29) [1,0,1,0,0,1,0,0,1,1]), .inBlock 1, .code (csub (cd Try.f29) [1,0,1,0,0,1,1]), .inLoop (csub (cd Try.f29) [1,0,1,0,0]), .inBlock 0, .code (csub (cd Try.f29) [1,1])] [(0, .string (sb s)), (3, .int .i64 ((i : Nat) : Int)), (32, .bool (!((bl s i) == 95)))] w (by kernel_rfl) .nil ?_
            refine GoS.run [0, 3, 32] [.n] _ [.code (csub (cd Try.f29) [1,0,1,0,0,1,0,0,1,1]), .inBlock 1, .code (csub (cd Try.f29) [1,0,1,0,0,1,1]), .inLoop (csub (cd Try.f29) [1,0,1,0,0]), .inBlock 0, .code (csub (cd Try.f29) [1,1])] [(0, .string (sb s)), (3, .int .i64 ((i : Nat) : Int)), (32, .bool (!((bl s i) == 95)))] w (by kernel_rfl) .nil ?_
            refine GoS.cond (!((bl s i) == 95)) [.code (csub (cd Try.f29) [1,0,1,0,0,1,0,0,1,1,0]), .inBlock 1, .code (csub (cd Try.f29) [1,0,1,0,0,1,1]), .inLoop (csub (cd Try.f29) [1,0,1,0,0]), .inBlock 0, .code (csub (cd Try.f29) [1,1])] [.code (csub (cd Try.f29) [1,0,1,0,0,1,0,0,1,1,1]), .inBlock 1, .code (csub (cd Try.f29) [1,0,1,0,0,1,1]), .inLoop (csub (cd Try.f29) [1,0,1,0,0]), .inBlock 0, .code (csub (cd Try.f29) [1,1])] (by kernel_rfl) (fun h18 => ?_) (fun h18 => ?_)
            ·
              have h18p : ¬ ((bl s i) = 95) := p_ne (p_nf h18)
              refine GoS.run [2] [.n, .n, .n, .n] _ [.code (csub (cd Try.f29) [1,0,1,0,0,1,0,0,1,1,0,1]), .inBlock 1, .code (csub (cd Try.f29) [1,0,1,0,0,1,1]), .inLoop (csub (cd Try.f29) [1,0,1,0,0]), .inBlock 0, .code (csub (cd Try.f29) [1,1])] [(2, .bool false)] w (by kernel_rfl) .nil ?_
              refine GoS.ret (fn := Try.f29) (v := (.bool false)) Try.func29 (by kernel_rfl) ?_
              rw [hR]
              exact ⟨ret_bool (name_no (j := i) (by omega) (by unfold okI; omega)).symm, rfl⟩
            ·
              have h18p : (bl s i) = 95 := eq_of_beq (p_nt h18)
              refine GoS.run [0, 3] [.n] _ [.inBlock 1, .code (csub (cd Try.f29) [1,0,1,0,0,1,1]), .inLoop (csub (cd Try.f29) [1,0,1,0,0]), .inBlock 0, .code (csub (cd Try.f29) [1,1])] [(0, .string (sb s)), (3, .int .i64 ((i : Nat) : Int))] w (by kernel_rfl) .nil ?_
              have o19 : (binOp .add 3 (.int .i64 ((i : Nat) : Int)) (.int .i64 1)).run Try.prog w = .ok (.int .i64 (((i + 1) : Nat) : Int)) w := f_add (by rw [show ((i : Nat) : Int) + 1 = (((i + 1) : Nat) : Int) by omega]; exact IntWalk.i64_in _ (by omega))
              refine GoS.run [0, 3] [.n, .n, .n, .h (.int .i64 (((i + 1) : Nat) : Int)), .n, .n, .n] _ [.code (csub (cd Try.f29) [1,0,1,0,0]), .inLoop (csub (cd Try.f29) [1,0,1,0,0]), .inBlock 0, .code (csub (cd Try.f29) [1,1])] [(0, .string (sb s)), (3, .int .i64 (((i + 1) : Nat) : Int))] w (by kernel_rfl) (.cons o19 .nil) ?_
              exact ih (i + 1) (by omega) (fun j hj => by rcases Nat.lt_succ_iff_lt_or_eq.1 hj with g | g; exact hz j g; subst g; unfold okI; omega) (by omega)
      ·
        have h8p : ¬ ((bl s i) ≥ 97) := of_decide_eq_false h8
        refine GoS.run [0, 3, 4, 20, 23] [.n, .n, .n, .n, .n, .n, .n] _ [.inRegion (cops (csub (cd Try.f29) [1,0,1,0,0,1,0,0,1,0])) [10,11,12,13,14,15,16,17,18], .code (csub (cd Try.f29) [1,0,1,0,0,1,0,0,1,1]), .inBlock 1, .code (csub (cd Try.f29) [1,0,1,0,0,1,1]), .inLoop (csub (cd Try.f29) [1,0,1,0,0]), .inBlock 0, .code (csub (cd Try.f29) [1,1])] [(0, .string (sb s)), (3, .int .i64 ((i : Nat) : Int)), (4, .int .u8 (bl s i)), (20, .bool false), (23, .bool (decide ((bl s i) ≥ 48)))] w (by kernel_rfl) .nil ?_
        refine GoS.fork 23 (decide ((bl s i) ≥ 48)) (by kernel_rfl) (fun h12 => ?_) (fun h12 => ?_)
        ·
          have h12p : (bl s i) ≥ 48 := of_decide_eq_true h12
          refine GoS.run [0, 3, 4, 28] [.n, .n, .n, .n, .n] _ [.inRegion (cops (csub (cd Try.f29) [1,0,1,0,0,1,0,0,1,0])) [15,16,17,18], .code (csub (cd Try.f29) [1,0,1,0,0,1,0,0,1,1]), .inBlock 1, .code (csub (cd Try.f29) [1,0,1,0,0,1,1]), .inLoop (csub (cd Try.f29) [1,0,1,0,0]), .inBlock 0, .code (csub (cd Try.f29) [1,1])] [(0, .string (sb s)), (3, .int .i64 ((i : Nat) : Int)), (4, .int .u8 (bl s i)), (28, .bool (decide ((bl s i) ≤ 57)))] w (by kernel_rfl) .nil ?_
          refine GoS.fork 28 (decide ((bl s i) ≤ 57)) (by kernel_rfl) (fun h13 => ?_) (fun h13 => ?_)
          ·
            have h13p : (bl s i) ≤ 57 := of_decide_eq_true h13
            refine GoS.run [0, 3, 32] [.n, .n, .n, .n] _ [.inRegion (cops (csub (cd Try.f29) [1,0,1,0,0,1,0,0,1,0])) [], .code (csub (cd Try.f29) [1,0,1,0,0,1,0,0,1,1]), .inBlock 1, .code (csub (cd Try.f29) [1,0,1,0,0,1,1]), .inLoop (csub (cd Try.f29) [1,0,1,0,0]), .inBlock 0, .code (csub (cd Try.f29) [1,1])] [(0, .string (sb s)), (3, .int .i64 ((i : Nat) : Int)), (32, .bool false)] w (by kernel_rfl) .nil ?_
            have o20 : (binOp .add 3 (.int .i64 ((i : Nat) : Int)) (.int .i64 1)).run Try.prog w = .ok (.int .i64 (((i + 1) : Nat) : Int)) w := f_add (by rw [show ((i : Nat) : Int) + 1 = (((i + 1) : Nat) : Int) by omega]; exact IntWalk.i64_in _ (by omega))
            refine GoS.run [0, 3] [.n, .n, .n, .n, .n, .n, .h (.int .i64 (((i + 1) : Nat) : Int)), .n, .n, .n] _ [.code (csub (cd Try.f29) [1,0,1,0,0]), .inLoop (csub (cd Try.f29) [1,0,1,0,0]), .inBlock 0, .code (csub (cd Try.f29) [1,1])] [(0, .string (sb s)), (3, .int .i64 (((i + 1) : Nat) : Int))] w (by kernel_rfl) (.cons o20 .nil) ?_
            exact ih (i + 1) (by omega) (fun j hj => by rcases Nat.lt_succ_iff_lt_or_eq.1 hj with g | g; exact hz j g; subst g; unfold okI; omega) (by omega)
          ·
            have h13p : ¬ ((bl s i) ≤ 57) := of_decide_eq_false h13
            refine GoS.run [0, 3, 32] [.n, .n, .n, .n] _ [.inRegion (cops (csub (cd Try.f29) [1,0,1,0,0,1,0,0,1,0])) [], .code (csub (cd Try.f29) [1,0,1,0,0,1,0,0,1,1]), .inBlock 1, .code (csub (cd Try.f29) [1,0,1,0,0,1,1]), .inLoop (csub (cd Try.f29) [1,0,1,0,0]), .inBlock 0, .code (csub (cd Try.f29) [1,1])] [(0, .string (sb s)), (3, .int .i64 ((i : Nat) : Int)), (32, .bool (!((bl s i) == 95)))] w (by kernel_rfl) .nil ?_
            refine GoS.run [0, 3, 32] [.n] _ [.code (csub (cd Try.f29) [1,0,1,0,0,1,0,0,1,1]), .inBlock 1, .code (csub (cd Try.f29) [1,0,1,0,0,1,1]), .inLoop (csub (cd Try.f29) [1,0,1,0,0]), .inBlock 0, .code (csub (cd Try.f29) [1,1])] [(0, .string (sb s)), (3, .int .i64 ((i : Nat) : Int)), (32, .bool (!((bl s i) == 95)))] w (by kernel_rfl) .nil ?_
            refine GoS.cond (!((bl s i) == 95)) [.code (csub (cd Try.f29) [1,0,1,0,0,1,0,0,1,1,0]), .inBlock 1, .code (csub (cd Try.f29) [1,0,1,0,0,1,1]), .inLoop (csub (cd Try.f29) [1,0,1,0,0]), .inBlock 0, .code (csub (cd Try.f29) [1,1])] [.code (csub (cd Try.f29) [1,0,1,0,0,1,0,0,1,1,1]), .inBlock 1, .code (csub (cd Try.f29) [1,0,1,0,0,1,1]), .inLoop (csub (cd Try.f29) [1,0,1,0,0]), .inBlock 0, .code (csub (cd Try.f29) [1,1])] (by kernel_rfl) (fun h21 => ?_) (fun h21 => ?_)
            ·
              have h21p : ¬ ((bl s i) = 95) := p_ne (p_nf h21)
              refine GoS.run [2] [.n, .n, .n, .n] _ [.code (csub (cd Try.f29) [1,0,1,0,0,1,0,0,1,1,0,1]), .inBlock 1, .code (csub (cd Try.f29) [1,0,1,0,0,1,1]), .inLoop (csub (cd Try.f29) [1,0,1,0,0]), .inBlock 0, .code (csub (cd Try.f29) [1,1])] [(2, .bool false)] w (by kernel_rfl) .nil ?_
              refine GoS.ret (fn := Try.f29) (v := (.bool false)) Try.func29 (by kernel_rfl) ?_
              rw [hR]
              exact ⟨ret_bool (name_no (j := i) (by omega) (by unfold okI; omega)).symm, rfl⟩
            ·
              have h21p : (bl s i) = 95 := eq_of_beq (p_nt h21)
              refine GoS.run [0, 3] [.n] _ [.inBlock 1, .code (csub (cd Try.f29) [1,0,1,0,0,1,1]), .inLoop (csub (cd Try.f29) [1,0,1,0,0]), .inBlock 0, .code (csub (cd Try.f29) [1,1])] [(0, .string (sb s)), (3, .int .i64 ((i : Nat) : Int))] w (by kernel_rfl) .nil ?_
              have o22 : (binOp .add 3 (.int .i64 ((i : Nat) : Int)) (.int .i64 1)).run Try.prog w = .ok (.int .i64 (((i + 1) : Nat) : Int)) w := f_add (by rw [show ((i : Nat) : Int) + 1 = (((i + 1) : Nat) : Int) by omega]; exact IntWalk.i64_in _ (by omega))
              refine GoS.run [0, 3] [.n, .n, .n, .h (.int .i64 (((i + 1) : Nat) : Int)), .n, .n, .n] _ [.code (csub (cd Try.f29) [1,0,1,0,0]), .inLoop (csub (cd Try.f29) [1,0,1,0,0]), .inBlock 0, .code (csub (cd Try.f29) [1,1])] [(0, .string (sb s)), (3, .int .i64 (((i + 1) : Nat) : Int))] w (by kernel_rfl) (.cons o22 .nil) ?_
              exact ih (i + 1) (by omega) (fun j hj => by rcases Nat.lt_succ_iff_lt_or_eq.1 hj with g | g; exact hz j g; subst g; unfold okI; omega) (by omega)
        ·
          have h12p : ¬ ((bl s i) ≥ 48) := of_decide_eq_false h12
          refine GoS.run [0, 3, 32] [.n, .n, .n, .n, .n, .n, .n, .n, .n] _ [.inRegion (cops (csub (cd Try.f29) [1,0,1,0,0,1,0,0,1,0])) [], .code (csub (cd Try.f29) [1,0,1,0,0,1,0,0,1,1]), .inBlock 1, .code (csub (cd Try.f29) [1,0,1,0,0,1,1]), .inLoop (csub (cd Try.f29) [1,0,1,0,0]), .inBlock 0, .code (csub (cd Try.f29) [1,1])] [(0, .string (sb s)), (3, .int .i64 ((i : Nat) : Int)), (32, .bool (!((bl s i) == 95)))] w (by kernel_rfl) .nil ?_
          refine GoS.run [0, 3, 32] [.n] _ [.code (csub (cd Try.f29) [1,0,1,0,0,1,0,0,1,1]), .inBlock 1, .code (csub (cd Try.f29) [1,0,1,0,0,1,1]), .inLoop (csub (cd Try.f29) [1,0,1,0,0]), .inBlock 0, .code (csub (cd Try.f29) [1,1])] [(0, .string (sb s)), (3, .int .i64 ((i : Nat) : Int)), (32, .bool (!((bl s i) == 95)))] w (by kernel_rfl) .nil ?_
          refine GoS.cond (!((bl s i) == 95)) [.code (csub (cd Try.f29) [1,0,1,0,0,1,0,0,1,1,0]), .inBlock 1, .code (csub (cd Try.f29) [1,0,1,0,0,1,1]), .inLoop (csub (cd Try.f29) [1,0,1,0,0]), .inBlock 0, .code (csub (cd Try.f29) [1,1])] [.code (csub (cd Try.f29) [1,0,1,0,0,1,0,0,1,1,1]), .inBlock 1, .code (csub (cd Try.f29) [1,0,1,0,0,1,1]), .inLoop (csub (cd Try.f29) [1,0,1,0,0]), .inBlock 0, .code (csub (cd Try.f29) [1,1])] (by kernel_rfl) (fun h23 => ?_) (fun h23 => ?_)
          ·
            have h23p : ¬ ((bl s i) = 95) := p_ne (p_nf h23)
            refine GoS.run [2] [.n, .n, .n, .n] _ [.code (csub (cd Try.f29) [1,0,1,0,0,1,0,0,1,1,0,1]), .inBlock 1, .code (csub (cd Try.f29) [1,0,1,0,0,1,1]), .inLoop (csub (cd Try.f29) [1,0,1,0,0]), .inBlock 0, .code (csub (cd Try.f29) [1,1])] [(2, .bool false)] w (by kernel_rfl) .nil ?_
            refine GoS.ret (fn := Try.f29) (v := (.bool false)) Try.func29 (by kernel_rfl) ?_
            rw [hR]
            exact ⟨ret_bool (name_no (j := i) (by omega) (by unfold okI; omega)).symm, rfl⟩
          ·
            have h23p : (bl s i) = 95 := eq_of_beq (p_nt h23)
            refine GoS.run [0, 3] [.n] _ [.inBlock 1, .code (csub (cd Try.f29) [1,0,1,0,0,1,1]), .inLoop (csub (cd Try.f29) [1,0,1,0,0]), .inBlock 0, .code (csub (cd Try.f29) [1,1])] [(0, .string (sb s)), (3, .int .i64 ((i : Nat) : Int))] w (by kernel_rfl) .nil ?_
            have o24 : (binOp .add 3 (.int .i64 ((i : Nat) : Int)) (.int .i64 1)).run Try.prog w = .ok (.int .i64 (((i + 1) : Nat) : Int)) w := f_add (by rw [show ((i : Nat) : Int) + 1 = (((i + 1) : Nat) : Int) by omega]; exact IntWalk.i64_in _ (by omega))
            refine GoS.run [0, 3] [.n, .n, .n, .h (.int .i64 (((i + 1) : Nat) : Int)), .n, .n, .n] _ [.code (csub (cd Try.f29) [1,0,1,0,0]), .inLoop (csub (cd Try.f29) [1,0,1,0,0]), .inBlock 0, .code (csub (cd Try.f29) [1,1])] [(0, .string (sb s)), (3, .int .i64 (((i + 1) : Nat) : Int))] w (by kernel_rfl) (.cons o24 .nil) ?_
            exact ih (i + 1) (by omega) (fun j hj => by rcases Nat.lt_succ_iff_lt_or_eq.1 hj with g | g; exact hz j g; subst g; unfold okI; omega) (by omega)
    ·
      have h2p : ¬ (((i : Nat) : Int) < ((s.length : Nat) : Int)) := of_decide_eq_false h2
      have o3 : (Builtin.len_ #[9] 3 #[.string (sb s)]).run Try.prog w = .ok (.int .i64 ((s.length : Nat) : Int)) w := f_len (by kernel_rfl)
      refine GoS.run [0, 36] [.n, .n, .n, .n, .h (.int .i64 ((s.length : Nat) : Int)), .n, .n] _ [.inRegion (cops (csub (cd Try.f29) [1,1,0])) [4,5,6,7,8], .code (csub (cd Try.f29) [1,1,1])] [(0, .string (sb s)), (36, .bool (decide (((s.length : Nat) : Int) ≥ 1)))] w (by kernel_rfl) (.cons o3 .nil) ?_
      refine GoS.fork 36 (decide (((s.length : Nat) : Int) ≥ 1)) (by kernel_rfl) (fun h4 => ?_) (fun h4 => ?_)
      ·
        have h4p : ((s.length : Nat) : Int) ≥ 1 := of_decide_eq_true h4
        have o5 : (Builtin.len_ #[9] 3 #[.string (sb s)]).run Try.prog w = .ok (.int .i64 ((s.length : Nat) : Int)) w := f_len (by kernel_rfl)
        refine GoS.run [2] [.n, .h (.int .i64 ((s.length : Nat) : Int)), .n, .n, .n] _ [.inRegion (cops (csub (cd Try.f29) [1,1,0])) [], .code (csub (cd Try.f29) [1,1,1])] [(2, .bool (decide (((s.length : Nat) : Int) ≤ 16)))] w (by kernel_rfl) (.cons o5 .nil) ?_
        refine GoS.run [2] [.n] _ [.code (csub (cd Try.f29) [1,1,1])] [(2, .bool (decide (((s.length : Nat) : Int) ≤ 16)))] w (by kernel_rfl) .nil ?_
        refine GoS.ret (fn := Try.f29) (v := (.bool (decide (((s.length : Nat) : Int) ≤ 16)))) Try.func29 (by kernel_rfl) ?_
        rw [hR]
        exact ⟨ret_bool (by by_cases g : List.length s ≤ 16; rw [name_yes (by omega) (fun j hj => hz j (by omega)), decide_eq_true (by omega)]; rw [name_len (by omega), decide_eq_false (by omega)]), rfl⟩
      ·
        have h4p : ¬ (((s.length : Nat) : Int) ≥ 1) := of_decide_eq_false h4
        refine GoS.run [2] [.n, .n, .n, .n, .n] _ [.inRegion (cops (csub (cd Try.f29) [1,1,0])) [], .code (csub (cd Try.f29) [1,1,1])] [(2, .bool false)] w (by kernel_rfl) .nil ?_
        refine GoS.run [2] [.n] _ [.code (csub (cd Try.f29) [1,1,1])] [(2, .bool false)] w (by kernel_rfl) .nil ?_
        refine GoS.ret (fn := Try.f29) (v := (.bool false)) Try.func29 (by kernel_rfl) ?_
        rw [hR]
        exact ⟨ret_bool (name_len (by omega)).symm, rfl⟩

set_option maxHeartbeats 400000 in
theorem rname_c (s : List UInt8) (hs : s.length ≤ 1048576) (w : World) :
    Calls Try.prog 29 #[.string (sb s)] w (fun e w' => e = .returned (.bool (nameP s)) ∧ w = w') := by
  obtain ⟨R, hR⟩ : ∃ R : Ending → World → Prop, R = (fun e w' => e = .returned (.bool (nameP s)) ∧ w = w') := ⟨_, rfl⟩
  rw [← hR]
  refine GoS.enter (n := 41) Try.func29 (by kernel_rfl) rfl [(0, .string (sb s))] (by kernel_rfl) (by kernel_rfl) ?_
  refine GoS.run [0, 3] [.n, .n, .n, .n, .n, .n, .n, .n, .n, .n, .n] _ [.code (csub (cd Try.f29) [1,0,1,0,0]), .inLoop (csub (cd Try.f29) [1,0,1,0,0]), .inBlock 0, .code (csub (cd Try.f29) [1,1])] [(0, .string (sb s)), (3, .int .i64 0)] w (by kernel_rfl) .nil ?_
  exact rname_c_L s hs w R hR (s.length + 1) 0 (Nat.zero_le _) (fun j hj => absurd hj (Nat.not_lt_zero _)) (by omega)

set_option maxHeartbeats 400000 in
theorem let_c_L2 (s m : List UInt8) (hm : m.length ≤ 1048576) (hd : decE s = 0) (hlong : ¬ 16 < (foldL s).length) (hnone : ¬ (foldL s).length = 0) {w0 : World} (v : Value) (i : Nat) (hi : i < (foldL s).length) (R : Ending → World → Prop) (hR : R = (fun e w' => ∃ v, e = .returned (.tuple #[v, .int .i64 (letP s m)]) ∧ Mem [] w0 w' [⟨3, 1, v, (List.length (letL s m)), (ivals .i64 (letL s m))⟩])) : ∀ (N : Nat) (k : Nat) (w : World) (out : ∀ (w : World), okM (List.getD (foldL s) i 0) m m.length = true → Mem [] w0 w [⟨3, 1, v, (List.length (foldL s)), (ivals .i64 (foldL s))⟩] → GoS Try.prog 27 R 53 [.code (csub (cd Try.f27) [1,1,1,1,1,0,1,0,0]), .inLoop (csub (cd Try.f27) [1,1,1,1,1,0,1,0,0]), .inBlock 0, .code (csub (cd Try.f27) [1,1,1,1,1,1])] [(1, .string (sb m)), (6, v), (26, v), (27, .int .i64 (((List.length (foldL s)) : Nat) : Int)), (28, .int .i64 (((i + 1) : Nat) : Int))] w) (hk : k ≤ m.length) (hM : Mem [] w0 w [⟨3, 1, v, (List.length (foldL s)), (ivals .i64 (foldL s))⟩]) (hN : m.length - k < N), GoS Try.prog 27 R 53 [.code (csub (cd Try.f27) [1,1,1,1,1,0,1,0,0,1,1,0,0,1,1,0,1,0,0]), .inLoop (csub (cd Try.f27) [1,1,1,1,1,0,1,0,0,1,1,0,0,1,1,0,1,0,0]), .inBlock 2, .code (csub (cd Try.f27) [1,1,1,1,1,0,1,0,0,1,1,0,0,1,1,1]), .inBlock 1, .code (csub (cd Try.f27) [1,1,1,1,1,0,1,0,0,1,1,1]), .inLoop (csub (cd Try.f27) [1,1,1,1,1,0,1,0,0]), .inBlock 0, .code (csub (cd Try.f27) [1,1,1,1,1,1])] [(1, .string (sb m)), (6, v), (9, .int .i64 (List.getD (foldL s) i 0)), (10, .bool (okM (List.getD (foldL s) i 0) m k)), (26, v), (27, .int .i64 (((List.length (foldL s)) : Nat) : Int)), (28, .int .i64 ((i : Nat) : Int)), (35, .int .i64 (((List.length m) : Nat) : Int)), (36, .int .i64 ((k : Nat) : Int))] w := by
  intro N
  induction N with
  | zero => intro k w out hk hM hN; exact absurd hN (Nat.not_lt_zero _)
  | succ N ih =>
    intro k w out hk hM hN
    have hb := bl_bd m k
    refine GoS.run [1, 6, 9, 10, 26, 27, 28, 35, 36, 37] [.n, .n, .n, .n, .n] _ [.code (csub (cd Try.f27) [1,1,1,1,1,0,1,0,0,1,1,0,0,1,1,0,1,0,0,1,0]), .code (csub (cd Try.f27) [1,1,1,1,1,0,1,0,0,1,1,0,0,1,1,0,1,0,0,1,1]), .inLoop (csub (cd Try.f27) [1,1,1,1,1,0,1,0,0,1,1,0,0,1,1,0,1,0,0]), .inBlock 2, .code (csub (cd Try.f27) [1,1,1,1,1,0,1,0,0,1,1,0,0,1,1,1]), .inBlock 1, .code (csub (cd Try.f27) [1,1,1,1,1,0,1,0,0,1,1,1]), .inLoop (csub (cd Try.f27) [1,1,1,1,1,0,1,0,0]), .inBlock 0, .code (csub (cd Try.f27) [1,1,1,1,1,1])] [(1, .string (sb m)), (6, v), (9, .int .i64 (List.getD (foldL s) i 0)), (10, .bool (okM (List.getD (foldL s) i 0) m k)), (26, v), (27, .int .i64 (((List.length (foldL s)) : Nat) : Int)), (28, .int .i64 ((i : Nat) : Int)), (35, .int .i64 (((List.length m) : Nat) : Int)), (36, .int .i64 ((k : Nat) : Int)), (37, .bool (decide (((k : Nat) : Int) < (((List.length m) : Nat) : Int))))] w (by kernel_rfl) .nil ?_
    refine GoS.cond (decide (((k : Nat) : Int) < (((List.length m) : Nat) : Int))) [.code (csub (cd Try.f27) [1,1,1,1,1,0,1,0,0,1,1,0,0,1,1,0,1,0,0,1,0,0]), .code (csub (cd Try.f27) [1,1,1,1,1,0,1,0,0,1,1,0,0,1,1,0,1,0,0,1,1]), .inLoop (csub (cd Try.f27) [1,1,1,1,1,0,1,0,0,1,1,0,0,1,1,0,1,0,0]), .inBlock 2, .code (csub (cd Try.f27) [1,1,1,1,1,0,1,0,0,1,1,0,0,1,1,1]), .inBlock 1, .code (csub (cd Try.f27) [1,1,1,1,1,0,1,0,0,1,1,1]), .inLoop (csub (cd Try.f27) [1,1,1,1,1,0,1,0,0]), .inBlock 0, .code (csub (cd Try.f27) [1,1,1,1,1,1])] [.code (csub (cd Try.f27) [1,1,1,1,1,0,1,0,0,1,1,0,0,1,1,0,1,0,0,1,0,1]), .code (csub (cd Try.f27) [1,1,1,1,1,0,1,0,0,1,1,0,0,1,1,0,1,0,0,1,1]), .inLoop (csub (cd Try.f27) [1,1,1,1,1,0,1,0,0,1,1,0,0,1,1,0,1,0,0]), .inBlock 2, .code (csub (cd Try.f27) [1,1,1,1,1,0,1,0,0,1,1,0,0,1,1,1]), .inBlock 1, .code (csub (cd Try.f27) [1,1,1,1,1,0,1,0,0,1,1,1]), .inLoop (csub (cd Try.f27) [1,1,1,1,1,0,1,0,0]), .inBlock 0, .code (csub (cd Try.f27) [1,1,1,1,1,1])] (by kernel_rfl) (fun h1 => ?_) (fun h1 => ?_)
    ·
      have h1p : ((k : Nat) : Int) < (((List.length m) : Nat) : Int) := of_decide_eq_true h1
      refine GoS.run [1, 6, 9, 10, 26, 27, 28, 35, 36] [.n] _ [.code (csub (cd Try.f27) [1,1,1,1,1,0,1,0,0,1,1,0,0,1,1,0,1,0,0,1,1]), .inLoop (csub (cd Try.f27) [1,1,1,1,1,0,1,0,0,1,1,0,0,1,1,0,1,0,0]), .inBlock 2, .code (csub (cd Try.f27) [1,1,1,1,1,0,1,0,0,1,1,0,0,1,1,1]), .inBlock 1, .code (csub (cd Try.f27) [1,1,1,1,1,0,1,0,0,1,1,1]), .inLoop (csub (cd Try.f27) [1,1,1,1,1,0,1,0,0]), .inBlock 0, .code (csub (cd Try.f27) [1,1,1,1,1,1])] [(1, .string (sb m)), (6, v), (9, .int .i64 (List.getD (foldL s) i 0)), (10, .bool (okM (List.getD (foldL s) i 0) m k)), (26, v), (27, .int .i64 (((List.length (foldL s)) : Nat) : Int)), (28, .int .i64 ((i : Nat) : Int)), (35, .int .i64 (((List.length m) : Nat) : Int)), (36, .int .i64 ((k : Nat) : Int))] w (by kernel_rfl) .nil ?_
      refine GoS.run [1, 6, 9, 11, 26, 27, 28, 35, 36, 40] [.n, .n, .n, .n, .n, .n, .n, .n, .n, .n] _ [.inRegion (cops (csub (cd Try.f27) [1,1,1,1,1,0,1,0,0,1,1,0,0,1,1,0,1,0,0,1,1,0,0,1])) [2,3,4,5,6,7,8,9], .inBlock 3, .code (csub (cd Try.f27) [1,1,1,1,1,0,1,0,0,1,1,0,0,1,1,0,1,0,0,1,1,1]), .inLoop (csub (cd Try.f27) [1,1,1,1,1,0,1,0,0,1,1,0,0,1,1,0,1,0,0]), .inBlock 2, .code (csub (cd Try.f27) [1,1,1,1,1,0,1,0,0,1,1,0,0,1,1,1]), .inBlock 1, .code (csub (cd Try.f27) [1,1,1,1,1,0,1,0,0,1,1,1]), .inLoop (csub (cd Try.f27) [1,1,1,1,1,0,1,0,0]), .inBlock 0, .code (csub (cd Try.f27) [1,1,1,1,1,1])] [(1, .string (sb m)), (6, v), (9, .int .i64 (List.getD (foldL s) i 0)), (11, .int .i64 ((k : Nat) : Int)), (26, v), (27, .int .i64 (((List.length (foldL s)) : Nat) : Int)), (28, .int .i64 ((i : Nat) : Int)), (35, .int .i64 (((List.length m) : Nat) : Int)), (36, .int .i64 ((k : Nat) : Int)), (40, .bool (okM (List.getD (foldL s) i 0) m k))] w (by kernel_rfl) .nil ?_
      refine GoS.fork 40 (okM (List.getD (foldL s) i 0) m k) (by kernel_rfl) (fun h5 => ?_) (fun h5 => ?_)
      ·
        refine GoS.run [1, 6, 9, 10, 26, 27, 28, 35, 36] [.n, .n, .n, .n, .n, .n, .n, .n] _ [.inRegion (cops (csub (cd Try.f27) [1,1,1,1,1,0,1,0,0,1,1,0,0,1,1,0,1,0,0,1,1,0,0,1])) [], .inBlock 3, .code (csub (cd Try.f27) [1,1,1,1,1,0,1,0,0,1,1,0,0,1,1,0,1,0,0,1,1,1]), .inLoop (csub (cd Try.f27) [1,1,1,1,1,0,1,0,0,1,1,0,0,1,1,0,1,0,0]), .inBlock 2, .code (csub (cd Try.f27) [1,1,1,1,1,0,1,0,0,1,1,0,0,1,1,1]), .inBlock 1, .code (csub (cd Try.f27) [1,1,1,1,1,0,1,0,0,1,1,1]), .inLoop (csub (cd Try.f27) [1,1,1,1,1,0,1,0,0]), .inBlock 0, .code (csub (cd Try.f27) [1,1,1,1,1,1])] [(1, .string (sb m)), (6, v), (9, .int .i64 (List.getD (foldL s) i 0)), (10, .bool true), (26, v), (27, .int .i64 (((List.length (foldL s)) : Nat) : Int)), (28, .int .i64 ((i : Nat) : Int)), (35, .int .i64 (((List.length m) : Nat) : Int)), (36, .int .i64 ((k : Nat) : Int))] w (by kernel_rfl) .nil ?_
        have o9 : (binOp .add 3 (.int .i64 ((k : Nat) : Int)) (.int .i64 1)).run Try.prog w = .ok (.int .i64 (((k + 1) : Nat) : Int)) w := f_add (by rw [show ((k : Nat) : Int) + 1 = (((k + 1) : Nat) : Int) by omega]; exact IntWalk.i64_in _ (by omega))
        refine GoS.run [1, 6, 9, 10, 26, 27, 28, 35, 36] [.n, .n, .n, .h (.int .i64 (((k + 1) : Nat) : Int)), .n, .n, .n] _ [.code (csub (cd Try.f27) [1,1,1,1,1,0,1,0,0,1,1,0,0,1,1,0,1,0,0]), .inLoop (csub (cd Try.f27) [1,1,1,1,1,0,1,0,0,1,1,0,0,1,1,0,1,0,0]), .inBlock 2, .code (csub (cd Try.f27) [1,1,1,1,1,0,1,0,0,1,1,0,0,1,1,1]), .inBlock 1, .code (csub (cd Try.f27) [1,1,1,1,1,0,1,0,0,1,1,1]), .inLoop (csub (cd Try.f27) [1,1,1,1,1,0,1,0,0]), .inBlock 0, .code (csub (cd Try.f27) [1,1,1,1,1,1])] [(1, .string (sb m)), (6, v), (9, .int .i64 (List.getD (foldL s) i 0)), (10, .bool true), (26, v), (27, .int .i64 (((List.length (foldL s)) : Nat) : Int)), (28, .int .i64 ((i : Nat) : Int)), (35, .int .i64 (((List.length m) : Nat) : Int)), (36, .int .i64 (((k + 1) : Nat) : Int))] w (by kernel_rfl) (.cons o9 .nil) ?_
        exact GoS.cast (by rw [okM_step (show k < m.length by omega), (show okM (List.getD (foldL s) i 0) m k = true by simpa using h5)]; rfl) (ih (k + 1) w out (by omega) (hM.sub (cc (List.nil_sublist _))) (by omega))
      ·
        have hb6 := bl_bd m k
        have o7 : (Instr.index 9 (.string (sb m)) (.int .i64 ((k : Nat) : Int))).run Try.prog w = .ok (.int .u8 (bl m k)) w := f_index k (by kernel_rfl) (by omega) (by omega)
        have o8 : (convert 5 3 (.int .u8 (bl m k))).run Try.prog w = .ok (.int .i64 (bl m k)) w := f_conv (u := .int .u8) (by kernel_rfl) (by kernel_rfl) (IntWalk.i64_in _ (by omega))
        refine GoS.run [1, 6, 9, 10, 26, 27, 28, 35, 36] [.n, .n, .n, .h (.int .u8 (bl m k)), .h (.int .i64 (bl m k)), .n, .n, .n] _ [.inRegion (cops (csub (cd Try.f27) [1,1,1,1,1,0,1,0,0,1,1,0,0,1,1,0,1,0,0,1,1,0,0,1])) [], .inBlock 3, .code (csub (cd Try.f27) [1,1,1,1,1,0,1,0,0,1,1,0,0,1,1,0,1,0,0,1,1,1]), .inLoop (csub (cd Try.f27) [1,1,1,1,1,0,1,0,0,1,1,0,0,1,1,0,1,0,0]), .inBlock 2, .code (csub (cd Try.f27) [1,1,1,1,1,0,1,0,0,1,1,0,0,1,1,1]), .inBlock 1, .code (csub (cd Try.f27) [1,1,1,1,1,0,1,0,0,1,1,1]), .inLoop (csub (cd Try.f27) [1,1,1,1,1,0,1,0,0]), .inBlock 0, .code (csub (cd Try.f27) [1,1,1,1,1,1])] [(1, .string (sb m)), (6, v), (9, .int .i64 (List.getD (foldL s) i 0)), (10, .bool ((List.getD (foldL s) i 0) == (bl m k))), (26, v), (27, .int .i64 (((List.length (foldL s)) : Nat) : Int)), (28, .int .i64 ((i : Nat) : Int)), (35, .int .i64 (((List.length m) : Nat) : Int)), (36, .int .i64 ((k : Nat) : Int))] w (by kernel_rfl) (.cons o7 (.cons o8 .nil)) ?_
        have o10 : (binOp .add 3 (.int .i64 ((k : Nat) : Int)) (.int .i64 1)).run Try.prog w = .ok (.int .i64 (((k + 1) : Nat) : Int)) w := f_add (by rw [show ((k : Nat) : Int) + 1 = (((k + 1) : Nat) : Int) by omega]; exact IntWalk.i64_in _ (by omega))
        refine GoS.run [1, 6, 9, 10, 26, 27, 28, 35, 36] [.n, .n, .n, .h (.int .i64 (((k + 1) : Nat) : Int)), .n, .n, .n] _ [.code (csub (cd Try.f27) [1,1,1,1,1,0,1,0,0,1,1,0,0,1,1,0,1,0,0]), .inLoop (csub (cd Try.f27) [1,1,1,1,1,0,1,0,0,1,1,0,0,1,1,0,1,0,0]), .inBlock 2, .code (csub (cd Try.f27) [1,1,1,1,1,0,1,0,0,1,1,0,0,1,1,1]), .inBlock 1, .code (csub (cd Try.f27) [1,1,1,1,1,0,1,0,0,1,1,1]), .inLoop (csub (cd Try.f27) [1,1,1,1,1,0,1,0,0]), .inBlock 0, .code (csub (cd Try.f27) [1,1,1,1,1,1])] [(1, .string (sb m)), (6, v), (9, .int .i64 (List.getD (foldL s) i 0)), (10, .bool ((List.getD (foldL s) i 0) == (bl m k))), (26, v), (27, .int .i64 (((List.length (foldL s)) : Nat) : Int)), (28, .int .i64 ((i : Nat) : Int)), (35, .int .i64 (((List.length m) : Nat) : Int)), (36, .int .i64 (((k + 1) : Nat) : Int))] w (by kernel_rfl) (.cons o10 .nil) ?_
        exact GoS.cast (by rw [okM_step (show k < m.length by omega), (show okM (List.getD (foldL s) i 0) m k = false by simpa using h5)]; rfl) (ih (k + 1) w out (by omega) (hM.sub (cc (List.nil_sublist _))) (by omega))
    ·
      have h1p : ¬ (((k : Nat) : Int) < (((List.length m) : Nat) : Int)) := of_decide_eq_false h1
      refine GoS.run [1, 6, 26, 27, 28, 50] [.n, .n, .n, .n, .n, .n] _ [.code (csub (cd Try.f27) [1,1,1,1,1,0,1,0,0,1,1,0,0,1,1,1,1]), .inBlock 1, .code (csub (cd Try.f27) [1,1,1,1,1,0,1,0,0,1,1,1]), .inLoop (csub (cd Try.f27) [1,1,1,1,1,0,1,0,0]), .inBlock 0, .code (csub (cd Try.f27) [1,1,1,1,1,1])] [(1, .string (sb m)), (6, v), (26, v), (27, .int .i64 (((List.length (foldL s)) : Nat) : Int)), (28, .int .i64 ((i : Nat) : Int)), (50, .bool (!(okM (List.getD (foldL s) i 0) m k)))] w (by kernel_rfl) .nil ?_
      refine GoS.cond (!(okM (List.getD (foldL s) i 0) m k)) [.code (csub (cd Try.f27) [1,1,1,1,1,0,1,0,0,1,1,0,0,1,1,1,1,0]), .inBlock 1, .code (csub (cd Try.f27) [1,1,1,1,1,0,1,0,0,1,1,1]), .inLoop (csub (cd Try.f27) [1,1,1,1,1,0,1,0,0]), .inBlock 0, .code (csub (cd Try.f27) [1,1,1,1,1,1])] [.code (csub (cd Try.f27) [1,1,1,1,1,0,1,0,0,1,1,0,0,1,1,1,1,1]), .inBlock 1, .code (csub (cd Try.f27) [1,1,1,1,1,0,1,0,0,1,1,1]), .inLoop (csub (cd Try.f27) [1,1,1,1,1,0,1,0,0]), .inBlock 0, .code (csub (cd Try.f27) [1,1,1,1,1,1])] (by kernel_rfl) (fun h2 => ?_) (fun h2 => ?_)
      ·
        have hM3 : Mem [] w0 w [] := hM.sub (cn (List.Sublist.refl _))
        refine GoS.run [4, 5] [.n, .n, .n, .n, .n] _ [.code (csub (cd Try.f27) [1,1,1,1,1,0,1,0,0,1,1,0,0,1,1,1,1,0,1]), .inBlock 1, .code (csub (cd Try.f27) [1,1,1,1,1,0,1,0,0,1,1,1]), .inLoop (csub (cd Try.f27) [1,1,1,1,1,0,1,0,0]), .inBlock 0, .code (csub (cd Try.f27) [1,1,1,1,1,1])] [(4, .slice none 0 0), (5, .int .i64 20)] w (by kernel_rfl) .nil ?_
        refine GoS.ret (fn := Try.f27) (v := (.tuple #[.slice none 0 0, .int .i64 20])) Try.func27 (by kernel_rfl) ?_
        rw [hR]
        obtain ⟨e1, e2⟩ := let_bad (marks := m) hd hlong (i := i) (by omega) (by rw [← (show k = m.length by omega)]; have z := h2; simpa using z)
        exact ⟨_, by rw [e1], by rw [e2]; exact (hM3.sub (List.nil_sublist _)).nilrow 3 1⟩
      ·
        refine GoS.run [1, 6, 26, 27, 28] [.n] _ [.inBlock 1, .code (csub (cd Try.f27) [1,1,1,1,1,0,1,0,0,1,1,1]), .inLoop (csub (cd Try.f27) [1,1,1,1,1,0,1,0,0]), .inBlock 0, .code (csub (cd Try.f27) [1,1,1,1,1,1])] [(1, .string (sb m)), (6, v), (26, v), (27, .int .i64 (((List.length (foldL s)) : Nat) : Int)), (28, .int .i64 ((i : Nat) : Int))] w (by kernel_rfl) .nil ?_
        have o4 : (binOp .add 3 (.int .i64 ((i : Nat) : Int)) (.int .i64 1)).run Try.prog w = .ok (.int .i64 (((i + 1) : Nat) : Int)) w := f_add (by rw [show ((i : Nat) : Int) + 1 = (((i + 1) : Nat) : Int) by omega]; exact IntWalk.i64_in _ (by omega))
        refine GoS.run [1, 6, 26, 27, 28] [.n, .n, .h (.int .i64 (((i + 1) : Nat) : Int)), .n, .n, .n] _ [.code (csub (cd Try.f27) [1,1,1,1,1,0,1,0,0]), .inLoop (csub (cd Try.f27) [1,1,1,1,1,0,1,0,0]), .inBlock 0, .code (csub (cd Try.f27) [1,1,1,1,1,1])] [(1, .string (sb m)), (6, v), (26, v), (27, .int .i64 (((List.length (foldL s)) : Nat) : Int)), (28, .int .i64 (((i + 1) : Nat) : Int))] w (by kernel_rfl) (.cons o4 .nil) ?_
        exact out w (by rw [← (show k = m.length by omega)]; have z := h2; simpa using z) (hM.sub (cc (List.nil_sublist _)))

set_option maxHeartbeats 400000 in
theorem let_c_L1 (s m : List UInt8) (hm : m.length ≤ 1048576) (hd : decE s = 0) (hlong : ¬ 16 < (foldL s).length) (hnone : ¬ (foldL s).length = 0) {w0 : World} (v : Value) (R : Ending → World → Prop) (hR : R = (fun e w' => ∃ v, e = .returned (.tuple #[v, .int .i64 (letP s m)]) ∧ Mem [] w0 w' [⟨3, 1, v, (List.length (letL s m)), (ivals .i64 (letL s m))⟩])) : ∀ (N : Nat) (i : Nat) (w : World) (hi : i ≤ (foldL s).length) (hz : ∀ j, j < i → okM (List.getD (foldL s) j 0) m m.length = true) (hM : Mem [] w0 w [⟨3, 1, v, (List.length (foldL s)), (ivals .i64 (foldL s))⟩]) (hN : (foldL s).length - i < N), GoS Try.prog 27 R 53 [.code (csub (cd Try.f27) [1,1,1,1,1,0,1,0,0]), .inLoop (csub (cd Try.f27) [1,1,1,1,1,0,1,0,0]), .inBlock 0, .code (csub (cd Try.f27) [1,1,1,1,1,1])] [(1, .string (sb m)), (6, v), (26, v), (27, .int .i64 (((List.length (foldL s)) : Nat) : Int)), (28, .int .i64 ((i : Nat) : Int))] w := by
  intro N
  induction N with
  | zero => intro i w hi hz hM hN; exact absurd hN (Nat.not_lt_zero _)
  | succ N ih =>
    intro i w hi hz hM hN
    refine GoS.run [1, 6, 26, 27, 28, 29] [.n, .n, .n, .n, .n] _ [.code (csub (cd Try.f27) [1,1,1,1,1,0,1,0,0,1,0]), .code (csub (cd Try.f27) [1,1,1,1,1,0,1,0,0,1,1]), .inLoop (csub (cd Try.f27) [1,1,1,1,1,0,1,0,0]), .inBlock 0, .code (csub (cd Try.f27) [1,1,1,1,1,1])] [(1, .string (sb m)), (6, v), (26, v), (27, .int .i64 (((List.length (foldL s)) : Nat) : Int)), (28, .int .i64 ((i : Nat) : Int)), (29, .bool (decide (((i : Nat) : Int) < (((List.length (foldL s)) : Nat) : Int))))] w (by kernel_rfl) .nil ?_
    refine GoS.cond (decide (((i : Nat) : Int) < (((List.length (foldL s)) : Nat) : Int))) [.code (csub (cd Try.f27) [1,1,1,1,1,0,1,0,0,1,0,0]), .code (csub (cd Try.f27) [1,1,1,1,1,0,1,0,0,1,1]), .inLoop (csub (cd Try.f27) [1,1,1,1,1,0,1,0,0]), .inBlock 0, .code (csub (cd Try.f27) [1,1,1,1,1,1])] [.code (csub (cd Try.f27) [1,1,1,1,1,0,1,0,0,1,0,1]), .code (csub (cd Try.f27) [1,1,1,1,1,0,1,0,0,1,1]), .inLoop (csub (cd Try.f27) [1,1,1,1,1,0,1,0,0]), .inBlock 0, .code (csub (cd Try.f27) [1,1,1,1,1,1])] (by kernel_rfl) (fun h1 => ?_) (fun h1 => ?_)
    ·
      have h1p : ((i : Nat) : Int) < (((List.length (foldL s)) : Nat) : Int) := of_decide_eq_true h1
      refine GoS.run [1, 6, 26, 27, 28] [.n] _ [.code (csub (cd Try.f27) [1,1,1,1,1,0,1,0,0,1,1]), .inLoop (csub (cd Try.f27) [1,1,1,1,1,0,1,0,0]), .inBlock 0, .code (csub (cd Try.f27) [1,1,1,1,1,1])] [(1, .string (sb m)), (6, v), (26, v), (27, .int .i64 (((List.length (foldL s)) : Nat) : Int)), (28, .int .i64 ((i : Nat) : Int))] w (by kernel_rfl) .nil ?_
      obtain ⟨p2, hp3, hq4⟩ := rd_at (i := ((i : Nat) : Int)) sT46 (hM.rd 0 rfl) i (by omega) (by first | omega | (dsimp only; omega))
      have o5 : (Instr.indexAt 46 (v) (.int .i64 ((i : Nat) : Int))).run Try.prog w = .ok (.pointer (some p2)) w := hq4 _ _
      have o6 : (Instr.loadAt 3 (.pointer (some p2))).run Try.prog w = .ok (.int .i64 (List.getD (foldL s) i 0)) w := at_load pE3 (hM.rd 0 rfl) hp3 (ivals_at (by first | omega | (dsimp only; omega)))
      refine GoS.run [1, 6, 9, 26, 27, 28, 32] [.n, .n, .n, .n, .h (.pointer (some p2)), .h (.int .i64 (List.getD (foldL s) i 0)), .n, .n, .n, .n, .n] _ [.inRegion (cops (csub (cd Try.f27) [1,1,1,1,1,0,1,0,0,1,1,0,0,1,0])) [1,2], .code (csub (cd Try.f27) [1,1,1,1,1,0,1,0,0,1,1,0,0,1,1]), .inBlock 1, .code (csub (cd Try.f27) [1,1,1,1,1,0,1,0,0,1,1,1]), .inLoop (csub (cd Try.f27) [1,1,1,1,1,0,1,0,0]), .inBlock 0, .code (csub (cd Try.f27) [1,1,1,1,1,1])] [(1, .string (sb m)), (6, v), (9, .int .i64 (List.getD (foldL s) i 0)), (26, v), (27, .int .i64 (((List.length (foldL s)) : Nat) : Int)), (28, .int .i64 ((i : Nat) : Int)), (32, .int .i64 (List.getD (foldL s) i 0))] w (by kernel_rfl) (.cons o5 (.cons o6 .nil)) ?_
      refine GoS.call [1, 6, 9, 26, 27, 28] 34 #[.int .i64 (List.getD (foldL s) i 0)] (some 33) [.inRegion (cops (csub (cd Try.f27) [1,1,1,1,1,0,1,0,0,1,1,0,0,1,0])) [2], .code (csub (cd Try.f27) [1,1,1,1,1,0,1,0,0,1,1,0,0,1,1]), .inBlock 1, .code (csub (cd Try.f27) [1,1,1,1,1,0,1,0,0,1,1,1]), .inLoop (csub (cd Try.f27) [1,1,1,1,1,0,1,0,0]), .inBlock 0, .code (csub (cd Try.f27) [1,1,1,1,1,1])] [(1, .string (sb m)), (6, v), (9, .int .i64 (List.getD (foldL s) i 0)), (26, v), (27, .int .i64 (((List.length (foldL s)) : Nat) : Int)), (28, .int .i64 ((i : Nat) : Int))] (by kernel_rfl) (letter_c (List.getD (foldL s) i 0) w) ?_
      rintro _ _ ⟨rfl, rfl⟩
      refine ⟨_, rfl, ?_⟩
      have o7 : (Builtin.len_ #[9] 3 #[.string (sb m)]).run Try.prog w = .ok (.int .i64 ((m.length : Nat) : Int)) w := f_len (by kernel_rfl)
      refine GoS.run [1, 6, 9, 10, 26, 27, 28, 35, 36] [.n, .n, .n, .n, .n, .n, .h (.int .i64 ((m.length : Nat) : Int)), .n, .n, .n, .n] _ [.code (csub (cd Try.f27) [1,1,1,1,1,0,1,0,0,1,1,0,0,1,1,0,1,0,0]), .inLoop (csub (cd Try.f27) [1,1,1,1,1,0,1,0,0,1,1,0,0,1,1,0,1,0,0]), .inBlock 2, .code (csub (cd Try.f27) [1,1,1,1,1,0,1,0,0,1,1,0,0,1,1,1]), .inBlock 1, .code (csub (cd Try.f27) [1,1,1,1,1,0,1,0,0,1,1,1]), .inLoop (csub (cd Try.f27) [1,1,1,1,1,0,1,0,0]), .inBlock 0, .code (csub (cd Try.f27) [1,1,1,1,1,1])] [(1, .string (sb m)), (6, v), (9, .int .i64 (List.getD (foldL s) i 0)), (10, .bool (letter (List.getD (foldL s) i 0))), (26, v), (27, .int .i64 (((List.length (foldL s)) : Nat) : Int)), (28, .int .i64 ((i : Nat) : Int)), (35, .int .i64 ((m.length : Nat) : Int)), (36, .int .i64 0)] w (by kernel_rfl) (.cons o7 .nil) ?_
      exact GoS.cast (by first | rfl | (rw [okM_zero]; rfl) | (rw [okM_zero])) (let_c_L2 s m hm hd hlong hnone v i (by omega) R hR (m.length + 1) 0 w (fun w ht hM => ih (i + 1) w (by omega) (fun j hj => by rcases Nat.lt_succ_iff_lt_or_eq.1 hj with g | g; exact hz j g; subst g; exact ht) hM (by omega)) (Nat.zero_le _) (hM.sub (cc (List.nil_sublist _))) (by omega))
    ·
      have h1p : ¬ (((i : Nat) : Int) < (((List.length (foldL s)) : Nat) : Int)) := of_decide_eq_false h1
      refine GoS.run [4, 5] [.n, .n, .n, .n, .n, .n, .n] _ [.code (csub (cd Try.f27) [1,1,1,1,1,1,1])] [(4, v), (5, .int .i64 0)] w (by kernel_rfl) .nil ?_
      refine GoS.ret (fn := Try.f27) (v := (.tuple #[v, .int .i64 0])) Try.func27 (by kernel_rfl) ?_
      rw [hR]
      obtain ⟨e1, e2⟩ := let_good (marks := m) hd hlong hnone (fun j hj => hz j (by omega))
      exact ⟨_, by rw [e1], by rw [e2]; exact hM⟩

set_option maxHeartbeats 400000 in
theorem let_c (s m : List UInt8) (hs : s.length ≤ 1048576) (hm : m.length ≤ 1048576) (w : World) :
    Calls Try.prog 27 #[.string (sb s), .string (sb m)] w (fun e w' => ∃ v, e = .returned (.tuple #[v, .int .i64 (letP s m)]) ∧ Mem [] w w' [⟨3, 1, v, (List.length (letL s m)), (ivals .i64 (letL s m))⟩]) := by
  obtain ⟨R, hR⟩ : ∃ R : Ending → World → Prop, R = (fun e w' => ∃ v, e = .returned (.tuple #[v, .int .i64 (letP s m)]) ∧ Mem [] w w' [⟨3, 1, v, (List.length (letL s m)), (ivals .i64 (letL s m))⟩]) := ⟨_, rfl⟩
  rw [← hR]
  refine GoS.enter (n := 53) Try.func27 (by kernel_rfl) rfl [(0, .string (sb s)), (1, .string (sb m))] (by kernel_rfl) (by kernel_rfl) ?_
  have hM0 := Mem.start w
  refine GoS.run [1, 13] [.n, .n, .n, .n, .n, .n, .n, .n] _ [.inRegion (cops (csub (cd Try.f27) [1,0])) [1,2,3,4,5,6], .code (csub (cd Try.f27) [1,1])] [(1, .string (sb m)), (13, .string (sb s))] w (by kernel_rfl) .nil ?_
  refine GoS.call [1] 37 #[.string (sb s)] (some 14) [.inRegion (cops (csub (cd Try.f27) [1,0])) [2,3,4,5,6], .code (csub (cd Try.f27) [1,1])] [(1, .string (sb m))] (by kernel_rfl) (folded_c s (by omega) w) ?_
  rintro _ w1 ⟨v4, rfl, m2⟩
  refine ⟨_, rfl, ?_⟩
  have hM3 := Mem.join hM0 m2
  refine GoS.run [1, 6, 7, 18] [.n, .n, .n, .n, .n, .n, .n, .n, .n, .n, .n, .n] _ [.code (csub (cd Try.f27) [1,1,0,1]), .code (csub (cd Try.f27) [1,1,1])] [(1, .string (sb m)), (6, v4), (7, .int .i64 (decE s)), (18, .bool ((decE s) != 0))] w1 (by kernel_rfl) .nil ?_
  refine GoS.cond ((decE s) != 0) [.code (csub (cd Try.f27) [1,1,0,1,0]), .code (csub (cd Try.f27) [1,1,1])] [.code (csub (cd Try.f27) [1,1,0,1,1]), .code (csub (cd Try.f27) [1,1,1])] (by kernel_rfl) (fun h5 => ?_) (fun h5 => ?_)
  ·
    have h5p : ¬ ((decE s) = 0) := bne_iff_ne.1 h5
    have hM6 : Mem [] w w1 [] := hM3.sub (cn (List.Sublist.refl _))
    refine GoS.run [4, 5] [.n, .n, .n, .n, .n, .n] _ [.code (csub (cd Try.f27) [1,1,0,1,0,1]), .code (csub (cd Try.f27) [1,1,1])] [(4, .slice none 0 0), (5, .int .i64 (decE s))] w1 (by kernel_rfl) .nil ?_
    refine GoS.ret (fn := Try.f27) (v := (.tuple #[.slice none 0 0, .int .i64 (decE s)])) Try.func27 (by kernel_rfl) ?_
    rw [hR]
    obtain ⟨e1, e2⟩ := let_err (by omega) (s := s) (marks := m)
    exact ⟨_, by rw [e1], by rw [e2]; exact (hM6.sub (List.nil_sublist _)).nilrow 3 1⟩
  ·
    have h5p : (decE s) = 0 := p_eq h5
    refine GoS.run [1, 6] [.n] _ [.code (csub (cd Try.f27) [1,1,1])] [(1, .string (sb m)), (6, v4)] w1 (by kernel_rfl) .nil ?_
    have o7 : (Builtin.len_ #[46] 3 #[v4]).run Try.prog w1 = .ok (.int .i64 (((List.length (foldL s)) : Nat) : Int)) w1 := f_slen sT46 (hM3.rd 0 rfl) 3 _
    refine GoS.run [1, 6, 22] [.n, .n, .n, .n, .h (.int .i64 (((List.length (foldL s)) : Nat) : Int)), .n, .n] _ [.code (csub (cd Try.f27) [1,1,1,0,1]), .code (csub (cd Try.f27) [1,1,1,1])] [(1, .string (sb m)), (6, v4), (22, .bool (decide ((((List.length (foldL s)) : Nat) : Int) > 16)))] w1 (by kernel_rfl) (.cons o7 .nil) ?_
    refine GoS.cond (decide ((((List.length (foldL s)) : Nat) : Int) > 16)) [.code (csub (cd Try.f27) [1,1,1,0,1,0]), .code (csub (cd Try.f27) [1,1,1,1])] [.code (csub (cd Try.f27) [1,1,1,0,1,1]), .code (csub (cd Try.f27) [1,1,1,1])] (by kernel_rfl) (fun h8 => ?_) (fun h8 => ?_)
    ·
      have h8p : (((List.length (foldL s)) : Nat) : Int) > 16 := of_decide_eq_true h8
      have hM9 : Mem [] w w1 [] := hM3.sub (cn (List.Sublist.refl _))
      refine GoS.run [4, 5] [.n, .n, .n, .n, .n] _ [.code (csub (cd Try.f27) [1,1,1,0,1,0,1]), .code (csub (cd Try.f27) [1,1,1,1])] [(4, .slice none 0 0), (5, .int .i64 4)] w1 (by kernel_rfl) .nil ?_
      refine GoS.ret (fn := Try.f27) (v := (.tuple #[.slice none 0 0, .int .i64 4])) Try.func27 (by kernel_rfl) ?_
      rw [hR]
      obtain ⟨e1, e2⟩ := let_long (by omega) (by omega) (s := s) (marks := m)
      exact ⟨_, by rw [e1], by rw [e2]; exact (hM9.sub (List.nil_sublist _)).nilrow 3 1⟩
    ·
      have h8p : ¬ ((((List.length (foldL s)) : Nat) : Int) > 16) := of_decide_eq_false h8
      refine GoS.run [1, 6] [.n] _ [.code (csub (cd Try.f27) [1,1,1,1])] [(1, .string (sb m)), (6, v4)] w1 (by kernel_rfl) .nil ?_
      have o10 : (Builtin.len_ #[46] 3 #[v4]).run Try.prog w1 = .ok (.int .i64 (((List.length (foldL s)) : Nat) : Int)) w1 := f_slen sT46 (hM3.rd 0 rfl) 3 _
      refine GoS.run [1, 6, 25] [.n, .n, .n, .n, .h (.int .i64 (((List.length (foldL s)) : Nat) : Int)), .n, .n] _ [.code (csub (cd Try.f27) [1,1,1,1,0,1]), .code (csub (cd Try.f27) [1,1,1,1,1])] [(1, .string (sb m)), (6, v4), (25, .bool ((((List.length (foldL s)) : Nat) : Int) == 0))] w1 (by kernel_rfl) (.cons o10 .nil) ?_
      refine GoS.cond ((((List.length (foldL s)) : Nat) : Int) == 0) [.code (csub (cd Try.f27) [1,1,1,1,0,1,0]), .code (csub (cd Try.f27) [1,1,1,1,1])] [.code (csub (cd Try.f27) [1,1,1,1,0,1,1]), .code (csub (cd Try.f27) [1,1,1,1,1])] (by kernel_rfl) (fun h11 => ?_) (fun h11 => ?_)
      ·
        have h11p : (((List.length (foldL s)) : Nat) : Int) = 0 := eq_of_beq h11
        have hM12 : Mem [] w w1 [] := hM3.sub (cn (List.Sublist.refl _))
        refine GoS.run [4, 5] [.n, .n, .n, .n, .n] _ [.code (csub (cd Try.f27) [1,1,1,1,0,1,0,1]), .code (csub (cd Try.f27) [1,1,1,1,1])] [(4, .slice none 0 0), (5, .int .i64 20)] w1 (by kernel_rfl) .nil ?_
        refine GoS.ret (fn := Try.f27) (v := (.tuple #[.slice none 0 0, .int .i64 20])) Try.func27 (by kernel_rfl) ?_
        rw [hR]
        obtain ⟨e1, e2⟩ := let_none (by omega) (by omega) (s := s) (marks := m)
        exact ⟨_, by rw [e1], by rw [e2]; exact (hM12.sub (List.nil_sublist _)).nilrow 3 1⟩
      ·
        have h11p : ¬ ((((List.length (foldL s)) : Nat) : Int) = 0) := p_ne h11
        refine GoS.run [1, 6] [.n] _ [.code (csub (cd Try.f27) [1,1,1,1,1])] [(1, .string (sb m)), (6, v4)] w1 (by kernel_rfl) .nil ?_
        have o13 : (Builtin.len_ #[46] 3 #[v4]).run Try.prog w1 = .ok (.int .i64 (((List.length (foldL s)) : Nat) : Int)) w1 := f_slen sT46 (hM3.rd 0 rfl) 3 _
        refine GoS.run [1, 6, 26, 27, 28] [.n, .n, .n, .n, .h (.int .i64 (((List.length (foldL s)) : Nat) : Int)), .n, .n, .n, .n] _ [.code (csub (cd Try.f27) [1,1,1,1,1,0,1,0,0]), .inLoop (csub (cd Try.f27) [1,1,1,1,1,0,1,0,0]), .inBlock 0, .code (csub (cd Try.f27) [1,1,1,1,1,1])] [(1, .string (sb m)), (6, v4), (26, v4), (27, .int .i64 (((List.length (foldL s)) : Nat) : Int)), (28, .int .i64 0)] w1 (by kernel_rfl) (.cons o13 .nil) ?_
        exact let_c_L1 s m hm (by omega) (by omega) (by omega) v4 R hR ((foldL s).length + 1) 0 w1 (Nat.zero_le _) (fun j hj => absurd hj (Nat.not_lt_zero _)) (hM3.sub (cc (List.nil_sublist _))) (by omega)

set_option maxHeartbeats 400000 in
theorem rlet_c_L2 (s m : List UInt8) (hm : m.length ≤ 1048576) (hd : decE s = 0) (hlong : ¬ 16 < (foldL s).length) (hnone : ¬ (foldL s).length = 0) {w0 : World} (v : Value) (i : Nat) (hi : i < (foldL s).length) (R : Ending → World → Prop) (hR : R = (fun e w' => ∃ v, e = .returned (.tuple #[v, .int .i64 (letP s m)]) ∧ Mem [] w0 w' [⟨3, 1, v, (List.length (letL s m)), (ivals .i64 (letL s m))⟩])) : ∀ (N : Nat) (k : Nat) (w : World) (out : ∀ (w : World), okM (List.getD (foldL s) i 0) m m.length = true → Mem [] w0 w [⟨3, 1, v, (List.length (foldL s)), (ivals .i64 (foldL s))⟩] → GoS Try.prog 38 R 57 [.code (csub (cd Try.f38) [1,1,1,1,1,0,1,0,0]), .inLoop (csub (cd Try.f38) [1,1,1,1,1,0,1,0,0]), .inBlock 0, .code (csub (cd Try.f38) [1,1,1,1,1,1])] [(1, .string (sb m)), (6, v), (8, .int .i64 (((i + 1) : Nat) : Int))] w) (hk : k ≤ m.length) (hM : Mem [] w0 w [⟨3, 1, v, (List.length (foldL s)), (ivals .i64 (foldL s))⟩]) (hN : m.length - k < N), GoS Try.prog 38 R 57 [.code (csub (cd Try.f38) [1,1,1,1,1,0,1,0,0,1,0,0,1,0,1,0,0]), .inLoop (csub (cd Try.f38) [1,1,1,1,1,0,1,0,0,1,0,0,1,0,1,0,0]), .inBlock 2, .code (csub (cd Try.f38) [1,1,1,1,1,0,1,0,0,1,0,0,1,1]), .inBlock 1, .code (csub (cd Try.f38) [1,1,1,1,1,0,1,0,0,1,1]), .inLoop (csub (cd Try.f38) [1,1,1,1,1,0,1,0,0]), .inBlock 0, .code (csub (cd Try.f38) [1,1,1,1,1,1])] [(1, .string (sb m)), (6, v), (8, .int .i64 ((i : Nat) : Int)), (9, .bool (okM (List.getD (foldL s) i 0) m k)), (10, .int .i64 ((k : Nat) : Int))] w := by
  intro N
  induction N with
  | zero => intro k w out hk hM hN; exact absurd hN (Nat.not_lt_zero _)
  | succ N ih =>
    intro k w out hk hM hN
    have hb := bl_bd m k
    have o1 : (Builtin.len_ #[9] 3 #[.string (sb m)]).run Try.prog w = .ok (.int .i64 ((m.length : Nat) : Int)) w := f_len (by kernel_rfl)
    refine GoS.run [1, 6, 8, 9, 10, 39] [.n, .n, .n, .n, .n, .h (.int .i64 ((m.length : Nat) : Int)), .n, .n] _ [.code (csub (cd Try.f38) [1,1,1,1,1,0,1,0,0,1,0,0,1,0,1,0,0,0,1]), .code (csub (cd Try.f38) [1,1,1,1,1,0,1,0,0,1,0,0,1,0,1,0,0,1]), .inLoop (csub (cd Try.f38) [1,1,1,1,1,0,1,0,0,1,0,0,1,0,1,0,0]), .inBlock 2, .code (csub (cd Try.f38) [1,1,1,1,1,0,1,0,0,1,0,0,1,1]), .inBlock 1, .code (csub (cd Try.f38) [1,1,1,1,1,0,1,0,0,1,1]), .inLoop (csub (cd Try.f38) [1,1,1,1,1,0,1,0,0]), .inBlock 0, .code (csub (cd Try.f38) [1,1,1,1,1,1])] [(1, .string (sb m)), (6, v), (8, .int .i64 ((i : Nat) : Int)), (9, .bool (okM (List.getD (foldL s) i 0) m k)), (10, .int .i64 ((k : Nat) : Int)), (39, .bool (decide (((k : Nat) : Int) < ((m.length : Nat) : Int))))] w (by kernel_rfl) (.cons o1 .nil) ?_
    refine GoS.cond (decide (((k : Nat) : Int) < ((m.length : Nat) : Int))) [.code (csub (cd Try.f38) [1,1,1,1,1,0,1,0,0,1,0,0,1,0,1,0,0,0,1,0]), .code (csub (cd Try.f38) [1,1,1,1,1,0,1,0,0,1,0,0,1,0,1,0,0,1]), .inLoop (csub (cd Try.f38) [1,1,1,1,1,0,1,0,0,1,0,0,1,0,1,0,0]), .inBlock 2, .code (csub (cd Try.f38) [1,1,1,1,1,0,1,0,0,1,0,0,1,1]), .inBlock 1, .code (csub (cd Try.f38) [1,1,1,1,1,0,1,0,0,1,1]), .inLoop (csub (cd Try.f38) [1,1,1,1,1,0,1,0,0]), .inBlock 0, .code (csub (cd Try.f38) [1,1,1,1,1,1])] [.code (csub (cd Try.f38) [1,1,1,1,1,0,1,0,0,1,0,0,1,0,1,0,0,0,1,1]), .code (csub (cd Try.f38) [1,1,1,1,1,0,1,0,0,1,0,0,1,0,1,0,0,1]), .inLoop (csub (cd Try.f38) [1,1,1,1,1,0,1,0,0,1,0,0,1,0,1,0,0]), .inBlock 2, .code (csub (cd Try.f38) [1,1,1,1,1,0,1,0,0,1,0,0,1,1]), .inBlock 1, .code (csub (cd Try.f38) [1,1,1,1,1,0,1,0,0,1,1]), .inLoop (csub (cd Try.f38) [1,1,1,1,1,0,1,0,0]), .inBlock 0, .code (csub (cd Try.f38) [1,1,1,1,1,1])] (by kernel_rfl) (fun h2 => ?_) (fun h2 => ?_)
    ·
      have h2p : ((k : Nat) : Int) < ((m.length : Nat) : Int) := of_decide_eq_true h2
      refine GoS.run [1, 6, 8, 9, 10] [.n] _ [.code (csub (cd Try.f38) [1,1,1,1,1,0,1,0,0,1,0,0,1,0,1,0,0,1]), .inLoop (csub (cd Try.f38) [1,1,1,1,1,0,1,0,0,1,0,0,1,0,1,0,0]), .inBlock 2, .code (csub (cd Try.f38) [1,1,1,1,1,0,1,0,0,1,0,0,1,1]), .inBlock 1, .code (csub (cd Try.f38) [1,1,1,1,1,0,1,0,0,1,1]), .inLoop (csub (cd Try.f38) [1,1,1,1,1,0,1,0,0]), .inBlock 0, .code (csub (cd Try.f38) [1,1,1,1,1,1])] [(1, .string (sb m)), (6, v), (8, .int .i64 ((i : Nat) : Int)), (9, .bool (okM (List.getD (foldL s) i 0) m k)), (10, .int .i64 ((k : Nat) : Int))] w (by kernel_rfl) .nil ?_
      refine GoS.run [1, 6, 8, 9, 10] [.n, .n] _ [.code (csub (cd Try.f38) [1,1,1,1,1,0,1,0,0,1,0,0,1,0,1,0,0,1,0,0]), .inBlock 3, .code (csub (cd Try.f38) [1,1,1,1,1,0,1,0,0,1,0,0,1,0,1,0,0,1,1]), .inLoop (csub (cd Try.f38) [1,1,1,1,1,0,1,0,0,1,0,0,1,0,1,0,0]), .inBlock 2, .code (csub (cd Try.f38) [1,1,1,1,1,0,1,0,0,1,0,0,1,1]), .inBlock 1, .code (csub (cd Try.f38) [1,1,1,1,1,0,1,0,0,1,1]), .inLoop (csub (cd Try.f38) [1,1,1,1,1,0,1,0,0]), .inBlock 0, .code (csub (cd Try.f38) [1,1,1,1,1,1])] [(1, .string (sb m)), (6, v), (8, .int .i64 ((i : Nat) : Int)), (9, .bool (okM (List.getD (foldL s) i 0) m k)), (10, .int .i64 ((k : Nat) : Int))] w (by kernel_rfl) .nil ?_
      rcases Bool.eq_false_or_eq_true (okM (List.getD (foldL s) i 0) m k) with h6 | h6
      ·
        refine GoS.drawC (fun W_ => Kept [] w W_) 15 (by kernel_rfl) [1, 6, 8, 9, 10] [.u (.bool true) w, .u (.bool true) w, .u (.bool true) w, .u (.bool true) w] (fun W_ => []) [(.bool (okM (List.getD (foldL s) i 0) m k), .bool true), (.bool true, .bool true), (.bool true, .bool true), (.bool true, .bool true)] [(1, .string (sb m)), (6, v), (8, .int .i64 ((i : Nat) : Int)), (9, .bool true), (10, .int .i64 ((k : Nat) : Int))] (by kernel_rfl) (by kernel_rfl) ([(9, .bool true), (53, .bool true), (52, undef), (51, undef), (50, undef), (49, undef), (48, undef), (47, undef), (46, undef), (45, undef), (44, undef), (43, .bool true), (42, .bool true)] ++ [(1, .string (sb m)), (6, v), (8, .int .i64 ((i : Nat) : Int)), (9, .bool (okM (List.getD (foldL s) i 0) m k)), (10, .int .i64 ((k : Nat) : Int))]) (fun W_ => by kernel_rfl) (by kernel_rfl) (.cons (congrArg Value.bool h6) (.cons rfl (.cons rfl (.cons rfl Obs.nil)))) (Kept.drewN _ _ 1) (fun W_ hW_ => Obs.nil) (fun w7 hw8 => ?_)
        have hM9 := hM.ext hw8
        have o10 : (binOp .add 3 (.int .i64 ((k : Nat) : Int)) (.int .i64 1)).run Try.prog w7 = .ok (.int .i64 (((k + 1) : Nat) : Int)) w7 := f_add (by rw [show ((k : Nat) : Int) + 1 = (((k + 1) : Nat) : Int) by omega]; exact IntWalk.i64_in _ (by omega))
        refine GoS.run [1, 6, 8, 9, 10] [.n, .n, .n, .h (.int .i64 (((k + 1) : Nat) : Int)), .n, .n, .n] _ [.code (csub (cd Try.f38) [1,1,1,1,1,0,1,0,0,1,0,0,1,0,1,0,0]), .inLoop (csub (cd Try.f38) [1,1,1,1,1,0,1,0,0,1,0,0,1,0,1,0,0]), .inBlock 2, .code (csub (cd Try.f38) [1,1,1,1,1,0,1,0,0,1,0,0,1,1]), .inBlock 1, .code (csub (cd Try.f38) [1,1,1,1,1,0,1,0,0,1,1]), .inLoop (csub (cd Try.f38) [1,1,1,1,1,0,1,0,0]), .inBlock 0, .code (csub (cd Try.f38) [1,1,1,1,1,1])] [(1, .string (sb m)), (6, v), (8, .int .i64 ((i : Nat) : Int)), (9, .bool true), (10, .int .i64 (((k + 1) : Nat) : Int))] w7 (by kernel_rfl) (.cons o10 .nil) ?_
        exact GoS.cast (by rw [okM_step (show k < m.length by omega), (show okM (List.getD (foldL s) i 0) m k = true by simpa using h6)]; rfl) (ih (k + 1) w7 out (by omega) (hM9.sub (cc (List.nil_sublist _))) (by omega))
      ·
        obtain ⟨p11, hp12, hq13⟩ := rd_at (i := ((i : Nat) : Int)) sT46 (hM.rd 0 rfl) i (by omega) (by first | omega | (dsimp only; omega))
        have hb14 := bl_bd m k
        refine GoS.drawC (fun W_ => Kept [] w W_) 15 (by kernel_rfl) [1, 6, 8, 9, 10] [.u (.bool false) w, .u (.bool false) w, .u (v) w, .u (.int .i64 ((i : Nat) : Int)) w, .h (.pointer (some p11)), .h (.int .i64 (List.getD (foldL s) i 0)), .u (.string (sb m)) w, .u (.int .i64 ((k : Nat) : Int)) w, .h (.int .u8 (bl m k)), .h (.int .i64 (bl m k)), .u (.bool ((List.getD (foldL s) i 0) == (bl m k))) w, .u (.bool ((List.getD (foldL s) i 0) == (bl m k))) w, .u (.bool ((List.getD (foldL s) i 0) == (bl m k))) w] (fun W_ => [(Instr.indexAt 46 (v) (.int .i64 ((i : Nat) : Int))).run Try.prog W_ = .ok (.pointer (some p11)) W_, (Instr.loadAt 3 (.pointer (some p11))).run Try.prog W_ = .ok (.int .i64 (List.getD (foldL s) i 0)) W_, (Instr.index 9 (.string (sb m)) (.int .i64 ((k : Nat) : Int))).run Try.prog W_ = .ok (.int .u8 (bl m k)) W_, (convert 5 3 (.int .u8 (bl m k))).run Try.prog W_ = .ok (.int .i64 (bl m k)) W_]) [(.bool (okM (List.getD (foldL s) i 0) m k), .bool false), (.bool false, .bool false), (v, v), (.int .i64 ((i : Nat) : Int), .int .i64 ((i : Nat) : Int)), (.string (sb m), .string (sb m)), (.int .i64 ((k : Nat) : Int), .int .i64 ((k : Nat) : Int)), (.bool ((List.getD (foldL s) i 0) == (bl m k)), .bool ((List.getD (foldL s) i 0) == (bl m k))), (.bool ((List.getD (foldL s) i 0) == (bl m k)), .bool ((List.getD (foldL s) i 0) == (bl m k))), (.bool ((List.getD (foldL s) i 0) == (bl m k)), .bool ((List.getD (foldL s) i 0) == (bl m k)))] [(1, .string (sb m)), (6, v), (8, .int .i64 ((i : Nat) : Int)), (9, .bool ((List.getD (foldL s) i 0) == (bl m k))), (10, .int .i64 ((k : Nat) : Int))] (by kernel_rfl) (by kernel_rfl) ([(9, .bool ((List.getD (foldL s) i 0) == (bl m k))), (53, .bool ((List.getD (foldL s) i 0) == (bl m k))), (52, .bool ((List.getD (foldL s) i 0) == (bl m k))), (51, .int .i64 (bl m k)), (50, .int .u8 (bl m k)), (49, .int .i64 ((k : Nat) : Int)), (48, .string (sb m)), (47, .int .i64 (List.getD (foldL s) i 0)), (46, .pointer (some p11)), (45, .int .i64 ((i : Nat) : Int)), (44, v), (43, .bool false), (42, .bool false)] ++ [(1, .string (sb m)), (6, v), (8, .int .i64 ((i : Nat) : Int)), (9, .bool (okM (List.getD (foldL s) i 0) m k)), (10, .int .i64 ((k : Nat) : Int))]) (fun W_ => by kernel_rfl) (by kernel_rfl) (.cons (congrArg Value.bool h6) (.cons rfl (.cons rfl (.cons rfl (.cons rfl (.cons rfl (.cons rfl (.cons rfl (.cons rfl Obs.nil))))))))) (Kept.drewN _ _ 1) (fun W_ hW_ => (.cons (hq13 _ _) (.cons (at_load pE3 ((hM.rd 0 rfl).kept0 hW_) hp12 (ivals_at (by first | omega | (dsimp only; omega)))) (.cons (f_index k (by kernel_rfl) (by omega) (by omega)) (.cons (f_conv (u := .int .u8) (by kernel_rfl) (by kernel_rfl) (IntWalk.i64_in _ (by omega))) Obs.nil))))) (fun w15 hw16 => ?_)
        have hM17 := hM.ext hw16
        have o18 : (binOp .add 3 (.int .i64 ((k : Nat) : Int)) (.int .i64 1)).run Try.prog w15 = .ok (.int .i64 (((k + 1) : Nat) : Int)) w15 := f_add (by rw [show ((k : Nat) : Int) + 1 = (((k + 1) : Nat) : Int) by omega]; exact IntWalk.i64_in _ (by omega))
        refine GoS.run [1, 6, 8, 9, 10] [.n, .n, .n, .h (.int .i64 (((k + 1) : Nat) : Int)), .n, .n, .n] _ [.code (csub (cd Try.f38) [1,1,1,1,1,0,1,0,0,1,0,0,1,0,1,0,0]), .inLoop (csub (cd Try.f38) [1,1,1,1,1,0,1,0,0,1,0,0,1,0,1,0,0]), .inBlock 2, .code (csub (cd Try.f38) [1,1,1,1,1,0,1,0,0,1,0,0,1,1]), .inBlock 1, .code (csub (cd Try.f38) [1,1,1,1,1,0,1,0,0,1,1]), .inLoop (csub (cd Try.f38) [1,1,1,1,1,0,1,0,0]), .inBlock 0, .code (csub (cd Try.f38) [1,1,1,1,1,1])] [(1, .string (sb m)), (6, v), (8, .int .i64 ((i : Nat) : Int)), (9, .bool ((List.getD (foldL s) i 0) == (bl m k))), (10, .int .i64 (((k + 1) : Nat) : Int))] w15 (by kernel_rfl) (.cons o18 .nil) ?_
        exact GoS.cast (by rw [okM_step (show k < m.length by omega), (show okM (List.getD (foldL s) i 0) m k = false by simpa using h6)]; rfl) (ih (k + 1) w15 out (by omega) (hM17.sub (cc (List.nil_sublist _))) (by omega))
    ·
      have h2p : ¬ (((k : Nat) : Int) < ((m.length : Nat) : Int)) := of_decide_eq_false h2
      refine GoS.run [1, 6, 8, 55] [.n, .n, .n, .n, .n, .n] _ [.code (csub (cd Try.f38) [1,1,1,1,1,0,1,0,0,1,0,0,1,1,1]), .inBlock 1, .code (csub (cd Try.f38) [1,1,1,1,1,0,1,0,0,1,1]), .inLoop (csub (cd Try.f38) [1,1,1,1,1,0,1,0,0]), .inBlock 0, .code (csub (cd Try.f38) [1,1,1,1,1,1])] [(1, .string (sb m)), (6, v), (8, .int .i64 ((i : Nat) : Int)), (55, .bool (!(okM (List.getD (foldL s) i 0) m k)))] w (by kernel_rfl) .nil ?_
      refine GoS.cond (!(okM (List.getD (foldL s) i 0) m k)) [.code (csub (cd Try.f38) [1,1,1,1,1,0,1,0,0,1,0,0,1,1,1,0]), .inBlock 1, .code (csub (cd Try.f38) [1,1,1,1,1,0,1,0,0,1,1]), .inLoop (csub (cd Try.f38) [1,1,1,1,1,0,1,0,0]), .inBlock 0, .code (csub (cd Try.f38) [1,1,1,1,1,1])] [.code (csub (cd Try.f38) [1,1,1,1,1,0,1,0,0,1,0,0,1,1,1,1]), .inBlock 1, .code (csub (cd Try.f38) [1,1,1,1,1,0,1,0,0,1,1]), .inLoop (csub (cd Try.f38) [1,1,1,1,1,0,1,0,0]), .inBlock 0, .code (csub (cd Try.f38) [1,1,1,1,1,1])] (by kernel_rfl) (fun h3 => ?_) (fun h3 => ?_)
      ·
        have hM4 : Mem [] w0 w [] := hM.sub (cn (List.Sublist.refl _))
        refine GoS.run [4, 5] [.n, .n, .n, .n, .n] _ [.code (csub (cd Try.f38) [1,1,1,1,1,0,1,0,0,1,0,0,1,1,1,0,1]), .inBlock 1, .code (csub (cd Try.f38) [1,1,1,1,1,0,1,0,0,1,1]), .inLoop (csub (cd Try.f38) [1,1,1,1,1,0,1,0,0]), .inBlock 0, .code (csub (cd Try.f38) [1,1,1,1,1,1])] [(4, .slice none 0 0), (5, .int .i64 20)] w (by kernel_rfl) .nil ?_
        refine GoS.ret (fn := Try.f38) (v := (.tuple #[.slice none 0 0, .int .i64 20])) Try.func38 (by kernel_rfl) ?_
        rw [hR]
        obtain ⟨e1, e2⟩ := let_bad (marks := m) hd hlong (i := i) (by omega) (by rw [← (show k = m.length by omega)]; have z := h3; simpa using z)
        exact ⟨_, by rw [e1], by rw [e2]; exact (hM4.sub (List.nil_sublist _)).nilrow 3 1⟩
      ·
        refine GoS.run [1, 6, 8] [.n] _ [.inBlock 1, .code (csub (cd Try.f38) [1,1,1,1,1,0,1,0,0,1,1]), .inLoop (csub (cd Try.f38) [1,1,1,1,1,0,1,0,0]), .inBlock 0, .code (csub (cd Try.f38) [1,1,1,1,1,1])] [(1, .string (sb m)), (6, v), (8, .int .i64 ((i : Nat) : Int))] w (by kernel_rfl) .nil ?_
        have o5 : (binOp .add 3 (.int .i64 ((i : Nat) : Int)) (.int .i64 1)).run Try.prog w = .ok (.int .i64 (((i + 1) : Nat) : Int)) w := f_add (by rw [show ((i : Nat) : Int) + 1 = (((i + 1) : Nat) : Int) by omega]; exact IntWalk.i64_in _ (by omega))
        refine GoS.run [1, 6, 8] [.n, .n, .n, .h (.int .i64 (((i + 1) : Nat) : Int)), .n, .n, .n] _ [.code (csub (cd Try.f38) [1,1,1,1,1,0,1,0,0]), .inLoop (csub (cd Try.f38) [1,1,1,1,1,0,1,0,0]), .inBlock 0, .code (csub (cd Try.f38) [1,1,1,1,1,1])] [(1, .string (sb m)), (6, v), (8, .int .i64 (((i + 1) : Nat) : Int))] w (by kernel_rfl) (.cons o5 .nil) ?_
        exact out w (by rw [← (show k = m.length by omega)]; have z := h3; simpa using z) (hM.sub (cc (List.nil_sublist _)))

set_option maxHeartbeats 400000 in
theorem rlet_c_L1 (s m : List UInt8) (hm : m.length ≤ 1048576) (hd : decE s = 0) (hlong : ¬ 16 < (foldL s).length) (hnone : ¬ (foldL s).length = 0) {w0 : World} (v : Value) (R : Ending → World → Prop) (hR : R = (fun e w' => ∃ v, e = .returned (.tuple #[v, .int .i64 (letP s m)]) ∧ Mem [] w0 w' [⟨3, 1, v, (List.length (letL s m)), (ivals .i64 (letL s m))⟩])) : ∀ (N : Nat) (i : Nat) (w : World) (hi : i ≤ (foldL s).length) (hz : ∀ j, j < i → okM (List.getD (foldL s) j 0) m m.length = true) (hM : Mem [] w0 w [⟨3, 1, v, (List.length (foldL s)), (ivals .i64 (foldL s))⟩]) (hN : (foldL s).length - i < N), GoS Try.prog 38 R 57 [.code (csub (cd Try.f38) [1,1,1,1,1,0,1,0,0]), .inLoop (csub (cd Try.f38) [1,1,1,1,1,0,1,0,0]), .inBlock 0, .code (csub (cd Try.f38) [1,1,1,1,1,1])] [(1, .string (sb m)), (6, v), (8, .int .i64 ((i : Nat) : Int))] w := by
  intro N
  induction N with
  | zero => intro i w hi hz hM hN; exact absurd hN (Nat.not_lt_zero _)
  | succ N ih =>
    intro i w hi hz hM hN
    have o1 : (Builtin.len_ #[46] 3 #[v]).run Try.prog w = .ok (.int .i64 (((List.length (foldL s)) : Nat) : Int)) w := f_slen sT46 (hM.rd 0 rfl) 3 _
    refine GoS.run [1, 6, 8, 28] [.n, .n, .n, .n, .n, .h (.int .i64 (((List.length (foldL s)) : Nat) : Int)), .n, .n] _ [.code (csub (cd Try.f38) [1,1,1,1,1,0,1,0,0,0,1]), .code (csub (cd Try.f38) [1,1,1,1,1,0,1,0,0,1]), .inLoop (csub (cd Try.f38) [1,1,1,1,1,0,1,0,0]), .inBlock 0, .code (csub (cd Try.f38) [1,1,1,1,1,1])] [(1, .string (sb m)), (6, v), (8, .int .i64 ((i : Nat) : Int)), (28, .bool (decide (((i : Nat) : Int) < (((List.length (foldL s)) : Nat) : Int))))] w (by kernel_rfl) (.cons o1 .nil) ?_
    refine GoS.cond (decide (((i : Nat) : Int) < (((List.length (foldL s)) : Nat) : Int))) [.code (csub (cd Try.f38) [1,1,1,1,1,0,1,0,0,0,1,0]), .code (csub (cd Try.f38) [1,1,1,1,1,0,1,0,0,1]), .inLoop (csub (cd Try.f38) [1,1,1,1,1,0,1,0,0]), .inBlock 0, .code (csub (cd Try.f38) [1,1,1,1,1,1])] [.code (csub (cd Try.f38) [1,1,1,1,1,0,1,0,0,0,1,1]), .code (csub (cd Try.f38) [1,1,1,1,1,0,1,0,0,1]), .inLoop (csub (cd Try.f38) [1,1,1,1,1,0,1,0,0]), .inBlock 0, .code (csub (cd Try.f38) [1,1,1,1,1,1])] (by kernel_rfl) (fun h2 => ?_) (fun h2 => ?_)
    ·
      have h2p : ((i : Nat) : Int) < (((List.length (foldL s)) : Nat) : Int) := of_decide_eq_true h2
      refine GoS.run [1, 6, 8] [.n] _ [.code (csub (cd Try.f38) [1,1,1,1,1,0,1,0,0,1]), .inLoop (csub (cd Try.f38) [1,1,1,1,1,0,1,0,0]), .inBlock 0, .code (csub (cd Try.f38) [1,1,1,1,1,1])] [(1, .string (sb m)), (6, v), (8, .int .i64 ((i : Nat) : Int))] w (by kernel_rfl) .nil ?_
      obtain ⟨p3, hp4, hq5⟩ := rd_at (i := ((i : Nat) : Int)) sT46 (hM.rd 0 rfl) i (by omega) (by first | omega | (dsimp only; omega))
      have o6 : (Instr.indexAt 46 (v) (.int .i64 ((i : Nat) : Int))).run Try.prog w = .ok (.pointer (some p3)) w := hq5 _ _
      have o7 : (Instr.loadAt 3 (.pointer (some p3))).run Try.prog w = .ok (.int .i64 (List.getD (foldL s) i 0)) w := at_load pE3 (hM.rd 0 rfl) hp4 (ivals_at (by first | omega | (dsimp only; omega)))
      refine GoS.run [1, 6, 8, 34] [.n, .n, .n, .n, .n, .n, .h (.pointer (some p3)), .h (.int .i64 (List.getD (foldL s) i 0))] _ [.inRegion (cops (csub (cd Try.f38) [1,1,1,1,1,0,1,0,0,1,0,0,0])) [4,5], .code (csub (cd Try.f38) [1,1,1,1,1,0,1,0,0,1,0,0,1]), .inBlock 1, .code (csub (cd Try.f38) [1,1,1,1,1,0,1,0,0,1,1]), .inLoop (csub (cd Try.f38) [1,1,1,1,1,0,1,0,0]), .inBlock 0, .code (csub (cd Try.f38) [1,1,1,1,1,1])] [(1, .string (sb m)), (6, v), (8, .int .i64 ((i : Nat) : Int)), (34, .int .i64 (List.getD (foldL s) i 0))] w (by kernel_rfl) (.cons o6 (.cons o7 .nil)) ?_
      refine GoS.call [1, 6, 8] 40 #[.int .i64 (List.getD (foldL s) i 0)] (some 35) [.inRegion (cops (csub (cd Try.f38) [1,1,1,1,1,0,1,0,0,1,0,0,0])) [5], .code (csub (cd Try.f38) [1,1,1,1,1,0,1,0,0,1,0,0,1]), .inBlock 1, .code (csub (cd Try.f38) [1,1,1,1,1,0,1,0,0,1,1]), .inLoop (csub (cd Try.f38) [1,1,1,1,1,0,1,0,0]), .inBlock 0, .code (csub (cd Try.f38) [1,1,1,1,1,1])] [(1, .string (sb m)), (6, v), (8, .int .i64 ((i : Nat) : Int))] (by kernel_rfl) (rletter_c (List.getD (foldL s) i 0) w) ?_
      rintro _ w8 ⟨rfl, m9⟩
      refine ⟨_, rfl, ?_⟩
      have hM10 := Mem.join hM m9
      refine GoS.run [1, 6, 8, 9, 10] [.n, .n, .n, .n, .n, .n, .n, .n, .n] _ [.code (csub (cd Try.f38) [1,1,1,1,1,0,1,0,0,1,0,0,1,0,1,0,0]), .inLoop (csub (cd Try.f38) [1,1,1,1,1,0,1,0,0,1,0,0,1,0,1,0,0]), .inBlock 2, .code (csub (cd Try.f38) [1,1,1,1,1,0,1,0,0,1,0,0,1,1]), .inBlock 1, .code (csub (cd Try.f38) [1,1,1,1,1,0,1,0,0,1,1]), .inLoop (csub (cd Try.f38) [1,1,1,1,1,0,1,0,0]), .inBlock 0, .code (csub (cd Try.f38) [1,1,1,1,1,1])] [(1, .string (sb m)), (6, v), (8, .int .i64 ((i : Nat) : Int)), (9, .bool (letter (List.getD (foldL s) i 0))), (10, .int .i64 0)] w8 (by kernel_rfl) .nil ?_
      exact GoS.cast (by first | rfl | (rw [okM_zero]; rfl) | (rw [okM_zero])) (rlet_c_L2 s m hm hd hlong hnone v i (by omega) R hR (m.length + 1) 0 w8 (fun w ht hM => ih (i + 1) w (by omega) (fun j hj => by rcases Nat.lt_succ_iff_lt_or_eq.1 hj with g | g; exact hz j g; subst g; exact ht) hM (by omega)) (Nat.zero_le _) (hM10.sub (cc (List.nil_sublist _))) (by omega))
    ·
      have h2p : ¬ (((i : Nat) : Int) < (((List.length (foldL s)) : Nat) : Int)) := of_decide_eq_false h2
      refine GoS.run [4, 5] [.n, .n, .n, .n, .n, .n, .n] _ [.code (csub (cd Try.f38) [1,1,1,1,1,1,1])] [(4, v), (5, .int .i64 0)] w (by kernel_rfl) .nil ?_
      refine GoS.ret (fn := Try.f38) (v := (.tuple #[v, .int .i64 0])) Try.func38 (by kernel_rfl) ?_
      rw [hR]
      obtain ⟨e1, e2⟩ := let_good (marks := m) hd hlong hnone (fun j hj => hz j (by omega))
      exact ⟨_, by rw [e1], by rw [e2]; exact hM⟩

set_option maxHeartbeats 400000 in
theorem rlet_c (s m : List UInt8) (hs : s.length ≤ 1048576) (hm : m.length ≤ 1048576) (w : World) :
    Calls Try.prog 38 #[.string (sb s), .string (sb m)] w (fun e w' => ∃ v, e = .returned (.tuple #[v, .int .i64 (letP s m)]) ∧ Mem [] w w' [⟨3, 1, v, (List.length (letL s m)), (ivals .i64 (letL s m))⟩]) := by
  obtain ⟨R, hR⟩ : ∃ R : Ending → World → Prop, R = (fun e w' => ∃ v, e = .returned (.tuple #[v, .int .i64 (letP s m)]) ∧ Mem [] w w' [⟨3, 1, v, (List.length (letL s m)), (ivals .i64 (letL s m))⟩]) := ⟨_, rfl⟩
  rw [← hR]
  refine GoS.enter (n := 57) Try.func38 (by kernel_rfl) rfl [(0, .string (sb s)), (1, .string (sb m))] (by kernel_rfl) (by kernel_rfl) ?_
  have hM0 := Mem.start w
  refine GoS.run [1, 12] [.n, .n, .n, .n, .n, .n, .n, .n] _ [.inRegion (cops (csub (cd Try.f38) [1,0])) [1,2,3,4,5,6], .code (csub (cd Try.f38) [1,1])] [(1, .string (sb m)), (12, .string (sb s))] w (by kernel_rfl) .nil ?_
  refine GoS.call [1] 45 #[.string (sb s)] (some 13) [.inRegion (cops (csub (cd Try.f38) [1,0])) [2,3,4,5,6], .code (csub (cd Try.f38) [1,1])] [(1, .string (sb m))] (by kernel_rfl) (rfolded_c s (by omega) w) ?_
  rintro _ w1 ⟨v4, rfl, m2⟩
  refine ⟨_, rfl, ?_⟩
  have hM3 := Mem.join hM0 m2
  refine GoS.run [1, 6, 7, 17] [.n, .n, .n, .n, .n, .n, .n, .n, .n, .n, .n, .n] _ [.code (csub (cd Try.f38) [1,1,0,1]), .code (csub (cd Try.f38) [1,1,1])] [(1, .string (sb m)), (6, v4), (7, .int .i64 (decE s)), (17, .bool ((decE s) != 0))] w1 (by kernel_rfl) .nil ?_
  refine GoS.cond ((decE s) != 0) [.code (csub (cd Try.f38) [1,1,0,1,0]), .code (csub (cd Try.f38) [1,1,1])] [.code (csub (cd Try.f38) [1,1,0,1,1]), .code (csub (cd Try.f38) [1,1,1])] (by kernel_rfl) (fun h5 => ?_) (fun h5 => ?_)
  ·
    have h5p : ¬ ((decE s) = 0) := bne_iff_ne.1 h5
    have hM6 : Mem [] w w1 [] := hM3.sub (cn (List.Sublist.refl _))
    refine GoS.run [4, 5] [.n, .n, .n, .n, .n, .n] _ [.code (csub (cd Try.f38) [1,1,0,1,0,1]), .code (csub (cd Try.f38) [1,1,1])] [(4, .slice none 0 0), (5, .int .i64 (decE s))] w1 (by kernel_rfl) .nil ?_
    refine GoS.ret (fn := Try.f38) (v := (.tuple #[.slice none 0 0, .int .i64 (decE s)])) Try.func38 (by kernel_rfl) ?_
    rw [hR]
    obtain ⟨e1, e2⟩ := let_err (by omega) (s := s) (marks := m)
    exact ⟨_, by rw [e1], by rw [e2]; exact (hM6.sub (List.nil_sublist _)).nilrow 3 1⟩
  ·
    have h5p : (decE s) = 0 := p_eq h5
    refine GoS.run [1, 6] [.n] _ [.code (csub (cd Try.f38) [1,1,1])] [(1, .string (sb m)), (6, v4)] w1 (by kernel_rfl) .nil ?_
    have o7 : (Builtin.len_ #[46] 3 #[v4]).run Try.prog w1 = .ok (.int .i64 (((List.length (foldL s)) : Nat) : Int)) w1 := f_slen sT46 (hM3.rd 0 rfl) 3 _
    refine GoS.run [1, 6, 21] [.n, .n, .n, .n, .h (.int .i64 (((List.length (foldL s)) : Nat) : Int)), .n, .n] _ [.code (csub (cd Try.f38) [1,1,1,0,1]), .code (csub (cd Try.f38) [1,1,1,1])] [(1, .string (sb m)), (6, v4), (21, .bool (decide ((((List.length (foldL s)) : Nat) : Int) > 16)))] w1 (by kernel_rfl) (.cons o7 .nil) ?_
    refine GoS.cond (decide ((((List.length (foldL s)) : Nat) : Int) > 16)) [.code (csub (cd Try.f38) [1,1,1,0,1,0]), .code (csub (cd Try.f38) [1,1,1,1])] [.code (csub (cd Try.f38) [1,1,1,0,1,1]), .code (csub (cd Try.f38) [1,1,1,1])] (by kernel_rfl) (fun h8 => ?_) (fun h8 => ?_)
    ·
      have h8p : (((List.length (foldL s)) : Nat) : Int) > 16 := of_decide_eq_true h8
      have hM9 : Mem [] w w1 [] := hM3.sub (cn (List.Sublist.refl _))
      refine GoS.run [4, 5] [.n, .n, .n, .n, .n] _ [.code (csub (cd Try.f38) [1,1,1,0,1,0,1]), .code (csub (cd Try.f38) [1,1,1,1])] [(4, .slice none 0 0), (5, .int .i64 4)] w1 (by kernel_rfl) .nil ?_
      refine GoS.ret (fn := Try.f38) (v := (.tuple #[.slice none 0 0, .int .i64 4])) Try.func38 (by kernel_rfl) ?_
      rw [hR]
      obtain ⟨e1, e2⟩ := let_long (by omega) (by omega) (s := s) (marks := m)
      exact ⟨_, by rw [e1], by rw [e2]; exact (hM9.sub (List.nil_sublist _)).nilrow 3 1⟩
    ·
      have h8p : ¬ ((((List.length (foldL s)) : Nat) : Int) > 16) := of_decide_eq_false h8
      refine GoS.run [1, 6] [.n] _ [.code (csub (cd Try.f38) [1,1,1,1])] [(1, .string (sb m)), (6, v4)] w1 (by kernel_rfl) .nil ?_
      have o10 : (Builtin.len_ #[46] 3 #[v4]).run Try.prog w1 = .ok (.int .i64 (((List.length (foldL s)) : Nat) : Int)) w1 := f_slen sT46 (hM3.rd 0 rfl) 3 _
      refine GoS.run [1, 6, 24] [.n, .n, .n, .n, .h (.int .i64 (((List.length (foldL s)) : Nat) : Int)), .n, .n] _ [.code (csub (cd Try.f38) [1,1,1,1,0,1]), .code (csub (cd Try.f38) [1,1,1,1,1])] [(1, .string (sb m)), (6, v4), (24, .bool ((((List.length (foldL s)) : Nat) : Int) == 0))] w1 (by kernel_rfl) (.cons o10 .nil) ?_
      refine GoS.cond ((((List.length (foldL s)) : Nat) : Int) == 0) [.code (csub (cd Try.f38) [1,1,1,1,0,1,0]), .code (csub (cd Try.f38) [1,1,1,1,1])] [.code (csub (cd Try.f38) [1,1,1,1,0,1,1]), .code (csub (cd Try.f38) [1,1,1,1,1])] (by kernel_rfl) (fun h11 => ?_) (fun h11 => ?_)
      ·
        have h11p : (((List.length (foldL s)) : Nat) : Int) = 0 := eq_of_beq h11
        have hM12 : Mem [] w w1 [] := hM3.sub (cn (List.Sublist.refl _))
        refine GoS.run [4, 5] [.n, .n, .n, .n, .n] _ [.code (csub (cd Try.f38) [1,1,1,1,0,1,0,1]), .code (csub (cd Try.f38) [1,1,1,1,1])] [(4, .slice none 0 0), (5, .int .i64 20)] w1 (by kernel_rfl) .nil ?_
        refine GoS.ret (fn := Try.f38) (v := (.tuple #[.slice none 0 0, .int .i64 20])) Try.func38 (by kernel_rfl) ?_
        rw [hR]
        obtain ⟨e1, e2⟩ := let_none (by omega) (by omega) (s := s) (marks := m)
        exact ⟨_, by rw [e1], by rw [e2]; exact (hM12.sub (List.nil_sublist _)).nilrow 3 1⟩
      ·
        have h11p : ¬ ((((List.length (foldL s)) : Nat) : Int) = 0) := p_ne h11
        refine GoS.run [1, 6] [.n] _ [.code (csub (cd Try.f38) [1,1,1,1,1])] [(1, .string (sb m)), (6, v4)] w1 (by kernel_rfl) .nil ?_
        refine GoS.run [1, 6, 8] [.n, .n, .n, .n, .n, .n, .n] _ [.code (csub (cd Try.f38) [1,1,1,1,1,0,1,0,0]), .inLoop (csub (cd Try.f38) [1,1,1,1,1,0,1,0,0]), .inBlock 0, .code (csub (cd Try.f38) [1,1,1,1,1,1])] [(1, .string (sb m)), (6, v4), (8, .int .i64 0)] w1 (by kernel_rfl) .nil ?_
        exact rlet_c_L1 s m hm (by omega) (by omega) (by omega) v4 R hR ((foldL s).length + 1) 0 w1 (Nat.zero_le _) (fun j hj => absurd hj (Nat.not_lt_zero _)) (hM3.sub (cc (List.nil_sublist _))) (by omega)


end Go.Proofs.Ytnhplkkbpmijdaa
