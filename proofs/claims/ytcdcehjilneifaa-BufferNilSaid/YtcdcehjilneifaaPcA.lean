/-
  The walks of Name, of both.
-/
import Derived.Test.YtcdcehjilneifaaTokD
import Derived.Test.YtcdcehjilneifaaPcP
import Derived.Test.YtcdcehjilneifaaCell
import Derived.Test.YtcdcehjilneifaaHeld
namespace Go.Proofs.Ytcdcehjilneifaa
open Go Go.Gw Go.UtfP Go.TokP Go.PcP Go.RowKit
set_option linter.unusedVariables false
set_option linter.unusedSimpArgs false
set_option maxRecDepth 20000


abbrev uA0 : List Nat := [1,1,0,1,0,0]
abbrev uA1 : List Nat := [1,0,1,0,0]
abbrev uA2 : List Nat := [1,1,1]
abbrev uA3 : List Nat := [1,1,0,1,0,0,1,1,1]
abbrev uA4 : List Nat := [1,0,1,0,0,1,1]
abbrev uA5 : List Nat := [1,1,0,1,0,0,1,1,0,0,1,1,1]
abbrev uA6 : List Nat := [1,0,1,0,0,1,0,0,1,1]
abbrev uA7 : List Nat := [1,1,0,1,0,0,1,1,0,0,1,1,0]
abbrev uA8 : List Nat := [1,0,1,0,0,1,0,0,1,0]
abbrev uA9 : List Nat := [1,1,0,1,0,0,1,1]
abbrev uA10 : List Nat := [1,1,0,1,0,0,1,1,0,0,1,1,1,0]
abbrev uA11 : List Nat := [1,1,0,1,0,0,1,1,0,0,1,1,1,1]
abbrev uA12 : List Nat := [1,1,0,1,0,0,1,1,0,0,1,1,1,0,1]
abbrev uA13 : List Nat := [1,0,1,0,0,1,0,0,1,1,0]
abbrev uA14 : List Nat := [1,0,1,0,0,1,0,0,1,1,1]
abbrev uA15 : List Nat := [1,0,1,0,0,1,0,0,1,1,0,1]
set_option maxHeartbeats 400000 in
theorem name_c_L (s : List UInt8) (hn : 1 ≤ s.length ∧ s.length ≤ 16) (w : World) (R : Ending → World → Prop) (hR : R = (fun e w' => e = .returned (.bool (nameP s)) ∧ w = w')) : ∀ (N : Nat) (i : Nat) (hi : i ≤ s.length) (hz : ∀ j, j < i → okI (bl s j)) (hN : s.length - i < N), GoS Try.prog 27 R 39 [.code (csub (cd Try.f27) uA0), .inLoop (csub (cd Try.f27) uA0), .inBlock 0, .code (csub (cd Try.f27) uA2)] [(0, .string (sb s)), (13, .int .i64 (((List.length s) : Nat) : Int)), (14, .int .i64 ((i : Nat) : Int))] w := by
 intro N
 induction N with
 | zero => intro i hi hz hN; exact absurd hN (Nat.not_lt_zero _)
 | succ N ih =>
  intro i hi hz hN
  have hb := bl_bd s i
  refine GoS.run [0, 13, 14, 15] [.n, .n, .n, .n, .n] _ [.code (csub (cd Try.f27) [1,1,0,1,0,0,1,0]), .code (csub (cd Try.f27) uA9), .inLoop (csub (cd Try.f27) uA0), .inBlock 0, .code (csub (cd Try.f27) uA2)] [(0, .string (sb s)), (13, .int .i64 (((List.length s) : Nat) : Int)), (14, .int .i64 ((i : Nat) : Int)), (15, .bool (decide (((i : Nat) : Int) < (((List.length s) : Nat) : Int))))] w (by kernel_rfl) .nil ?_
  refine GoS.cond (decide (((i : Nat) : Int) < (((List.length s) : Nat) : Int))) [.code (csub (cd Try.f27) [1,1,0,1,0,0,1,0,0]), .code (csub (cd Try.f27) uA9), .inLoop (csub (cd Try.f27) uA0), .inBlock 0, .code (csub (cd Try.f27) uA2)] [.code (csub (cd Try.f27) [1,1,0,1,0,0,1,0,1]), .code (csub (cd Try.f27) uA9), .inLoop (csub (cd Try.f27) uA0), .inBlock 0, .code (csub (cd Try.f27) uA2)] (by kernel_rfl) (fun h1 => ?_) (fun h1 => ?_)
  ·
   have h1p : ((i : Nat) : Int) < (((List.length s) : Nat) : Int) := of_decide_eq_true h1
   refine GoS.run [0, 13, 14] [.n] _ [.code (csub (cd Try.f27) uA9), .inLoop (csub (cd Try.f27) uA0), .inBlock 0, .code (csub (cd Try.f27) uA2)] [(0, .string (sb s)), (13, .int .i64 (((List.length s) : Nat) : Int)), (14, .int .i64 ((i : Nat) : Int))] w (by kernel_rfl) .nil ?_
   have hb2 := bl_bd s i
   have o3 : (Instr.index 9 (.string (sb s)) (.int .i64 ((i : Nat) : Int))).run Try.prog w = .ok (.int .u8 (bl s i)) w := f_index i (by kernel_rfl) (by omega) (by omega)
   refine GoS.run [0, 4, 13, 14, 22] [.n, .n, .n, .n, .n, .n, .n, .n, .n, .n, .n, .h (.int .u8 (bl s i)), .n, .n, .n, .n, .n, .n, .n] _ [.inRegion (cops (csub (cd Try.f27) uA7)) [3,4,5,6,7,8,9,10,11,12,13,14,15,16,17], .code (csub (cd Try.f27) uA5), .inBlock 1, .code (csub (cd Try.f27) uA3), .inLoop (csub (cd Try.f27) uA0), .inBlock 0, .code (csub (cd Try.f27) uA2)] [(0, .string (sb s)), (4, .int .u8 (bl s i)), (13, .int .i64 (((List.length s) : Nat) : Int)), (14, .int .i64 ((i : Nat) : Int)), (22, .bool (decide ((bl s i) < 97)))] w (by kernel_rfl) (.cons o3 .nil) ?_
   refine GoS.fork 22 (decide ((bl s i) < 97)) (by kernel_rfl) (fun h4 => ?_) (fun h4 => ?_)
   ·
    have h4p : (bl s i) < 97 := of_decide_eq_true h4
    refine GoS.run [0, 4, 13, 14, 26, 29] [.n, .n, .n, .n, .n, .n, .n] _ [.inRegion (cops (csub (cd Try.f27) uA7)) [10,11,12,13,14,15,16,17], .code (csub (cd Try.f27) uA5), .inBlock 1, .code (csub (cd Try.f27) uA3), .inLoop (csub (cd Try.f27) uA0), .inBlock 0, .code (csub (cd Try.f27) uA2)] [(0, .string (sb s)), (4, .int .u8 (bl s i)), (13, .int .i64 (((List.length s) : Nat) : Int)), (14, .int .i64 ((i : Nat) : Int)), (26, .bool true), (29, .bool (decide ((bl s i) < 48)))] w (by kernel_rfl) .nil ?_
    refine GoS.fork 29 (decide ((bl s i) < 48)) (by kernel_rfl) (fun h5 => ?_) (fun h5 => ?_)
    ·
     have h5p : (bl s i) < 48 := of_decide_eq_true h5
     refine GoS.run [0, 13, 14, 37] [.n, .n, .n, .n, .n, .n, .n, .n] _ [.inRegion (cops (csub (cd Try.f27) uA7)) [], .code (csub (cd Try.f27) uA5), .inBlock 1, .code (csub (cd Try.f27) uA3), .inLoop (csub (cd Try.f27) uA0), .inBlock 0, .code (csub (cd Try.f27) uA2)] [(0, .string (sb s)), (13, .int .i64 (((List.length s) : Nat) : Int)), (14, .int .i64 ((i : Nat) : Int)), (37, .bool ((bl s i) != 95))] w (by kernel_rfl) .nil ?_
     refine GoS.run [0, 13, 14, 37] [.n] _ [.code (csub (cd Try.f27) uA5), .inBlock 1, .code (csub (cd Try.f27) uA3), .inLoop (csub (cd Try.f27) uA0), .inBlock 0, .code (csub (cd Try.f27) uA2)] [(0, .string (sb s)), (13, .int .i64 (((List.length s) : Nat) : Int)), (14, .int .i64 ((i : Nat) : Int)), (37, .bool ((bl s i) != 95))] w (by kernel_rfl) .nil ?_
     refine GoS.cond ((bl s i) != 95) [.code (csub (cd Try.f27) uA10), .inBlock 1, .code (csub (cd Try.f27) uA3), .inLoop (csub (cd Try.f27) uA0), .inBlock 0, .code (csub (cd Try.f27) uA2)] [.code (csub (cd Try.f27) uA11), .inBlock 1, .code (csub (cd Try.f27) uA3), .inLoop (csub (cd Try.f27) uA0), .inBlock 0, .code (csub (cd Try.f27) uA2)] (by kernel_rfl) (fun h10 => ?_) (fun h10 => ?_)
     ·
      have h10p : ¬ ((bl s i) = 95) := bne_iff_ne.1 h10
      refine GoS.run [2] [.n, .n, .n, .n] _ [.code (csub (cd Try.f27) uA12), .inBlock 1, .code (csub (cd Try.f27) uA3), .inLoop (csub (cd Try.f27) uA0), .inBlock 0, .code (csub (cd Try.f27) uA2)] [(2, .bool false)] w (by kernel_rfl) .nil ?_
      refine GoS.ret (fn := Try.f27) (v := (.bool false)) Try.func27 (by kernel_rfl) ?_
      rw [hR]
      exact ⟨ret_bool (name_no (j := i) (by omega) (by unfold okI; omega)).symm, rfl⟩
     ·
      have h10p : (bl s i) = 95 := p_eq h10
      refine GoS.run [0, 13, 14] [.n] _ [.inBlock 1, .code (csub (cd Try.f27) uA3), .inLoop (csub (cd Try.f27) uA0), .inBlock 0, .code (csub (cd Try.f27) uA2)] [(0, .string (sb s)), (13, .int .i64 (((List.length s) : Nat) : Int)), (14, .int .i64 ((i : Nat) : Int))] w (by kernel_rfl) .nil ?_
      have o11 : (binOp .add 3 (.int .i64 ((i : Nat) : Int)) (.int .i64 1)).run Try.prog w = .ok (.int .i64 (((i + 1) : Nat) : Int)) w := f_add (by rw [show ((i : Nat) : Int) + 1 = (((i + 1) : Nat) : Int) by omega]; exact IntWalk.i64_in _ (by omega))
      refine GoS.run [0, 13, 14] [.n, .n, .h (.int .i64 (((i + 1) : Nat) : Int)), .n, .n, .n] _ [.code (csub (cd Try.f27) uA0), .inLoop (csub (cd Try.f27) uA0), .inBlock 0, .code (csub (cd Try.f27) uA2)] [(0, .string (sb s)), (13, .int .i64 (((List.length s) : Nat) : Int)), (14, .int .i64 (((i + 1) : Nat) : Int))] w (by kernel_rfl) (.cons o11 .nil) ?_
      exact ih (i + 1) (by omega) (fun j hj => by rcases Nat.lt_succ_iff_lt_or_eq.1 hj with g | g; exact hz j g; subst g; unfold okI; omega) (by omega)
    ·
     have h5p : ¬ ((bl s i) < 48) := of_decide_eq_false h5
     refine GoS.run [0, 4, 13, 14, 34] [.n, .n, .n, .n, .n] _ [.inRegion (cops (csub (cd Try.f27) uA7)) [15,16,17], .code (csub (cd Try.f27) uA5), .inBlock 1, .code (csub (cd Try.f27) uA3), .inLoop (csub (cd Try.f27) uA0), .inBlock 0, .code (csub (cd Try.f27) uA2)] [(0, .string (sb s)), (4, .int .u8 (bl s i)), (13, .int .i64 (((List.length s) : Nat) : Int)), (14, .int .i64 ((i : Nat) : Int)), (34, .bool (decide ((bl s i) > 57)))] w (by kernel_rfl) .nil ?_
     refine GoS.fork 34 (decide ((bl s i) > 57)) (by kernel_rfl) (fun h6 => ?_) (fun h6 => ?_)
     ·
      have h6p : (bl s i) > 57 := of_decide_eq_true h6
      refine GoS.run [0, 13, 14, 37] [.n, .n, .n] _ [.inRegion (cops (csub (cd Try.f27) uA7)) [], .code (csub (cd Try.f27) uA5), .inBlock 1, .code (csub (cd Try.f27) uA3), .inLoop (csub (cd Try.f27) uA0), .inBlock 0, .code (csub (cd Try.f27) uA2)] [(0, .string (sb s)), (13, .int .i64 (((List.length s) : Nat) : Int)), (14, .int .i64 ((i : Nat) : Int)), (37, .bool ((bl s i) != 95))] w (by kernel_rfl) .nil ?_
      refine GoS.run [0, 13, 14, 37] [.n] _ [.code (csub (cd Try.f27) uA5), .inBlock 1, .code (csub (cd Try.f27) uA3), .inLoop (csub (cd Try.f27) uA0), .inBlock 0, .code (csub (cd Try.f27) uA2)] [(0, .string (sb s)), (13, .int .i64 (((List.length s) : Nat) : Int)), (14, .int .i64 ((i : Nat) : Int)), (37, .bool ((bl s i) != 95))] w (by kernel_rfl) .nil ?_
      refine GoS.cond ((bl s i) != 95) [.code (csub (cd Try.f27) uA10), .inBlock 1, .code (csub (cd Try.f27) uA3), .inLoop (csub (cd Try.f27) uA0), .inBlock 0, .code (csub (cd Try.f27) uA2)] [.code (csub (cd Try.f27) uA11), .inBlock 1, .code (csub (cd Try.f27) uA3), .inLoop (csub (cd Try.f27) uA0), .inBlock 0, .code (csub (cd Try.f27) uA2)] (by kernel_rfl) (fun h12 => ?_) (fun h12 => ?_)
      ·
       have h12p : ¬ ((bl s i) = 95) := bne_iff_ne.1 h12
       refine GoS.run [2] [.n, .n, .n, .n] _ [.code (csub (cd Try.f27) uA12), .inBlock 1, .code (csub (cd Try.f27) uA3), .inLoop (csub (cd Try.f27) uA0), .inBlock 0, .code (csub (cd Try.f27) uA2)] [(2, .bool false)] w (by kernel_rfl) .nil ?_
       refine GoS.ret (fn := Try.f27) (v := (.bool false)) Try.func27 (by kernel_rfl) ?_
       rw [hR]
       exact ⟨ret_bool (name_no (j := i) (by omega) (by unfold okI; omega)).symm, rfl⟩
      ·
       have h12p : (bl s i) = 95 := p_eq h12
       refine GoS.run [0, 13, 14] [.n] _ [.inBlock 1, .code (csub (cd Try.f27) uA3), .inLoop (csub (cd Try.f27) uA0), .inBlock 0, .code (csub (cd Try.f27) uA2)] [(0, .string (sb s)), (13, .int .i64 (((List.length s) : Nat) : Int)), (14, .int .i64 ((i : Nat) : Int))] w (by kernel_rfl) .nil ?_
       have o13 : (binOp .add 3 (.int .i64 ((i : Nat) : Int)) (.int .i64 1)).run Try.prog w = .ok (.int .i64 (((i + 1) : Nat) : Int)) w := f_add (by rw [show ((i : Nat) : Int) + 1 = (((i + 1) : Nat) : Int) by omega]; exact IntWalk.i64_in _ (by omega))
       refine GoS.run [0, 13, 14] [.n, .n, .h (.int .i64 (((i + 1) : Nat) : Int)), .n, .n, .n] _ [.code (csub (cd Try.f27) uA0), .inLoop (csub (cd Try.f27) uA0), .inBlock 0, .code (csub (cd Try.f27) uA2)] [(0, .string (sb s)), (13, .int .i64 (((List.length s) : Nat) : Int)), (14, .int .i64 (((i + 1) : Nat) : Int))] w (by kernel_rfl) (.cons o13 .nil) ?_
       exact ih (i + 1) (by omega) (fun j hj => by rcases Nat.lt_succ_iff_lt_or_eq.1 hj with g | g; exact hz j g; subst g; unfold okI; omega) (by omega)
     ·
      have h6p : ¬ ((bl s i) > 57) := of_decide_eq_false h6
      refine GoS.run [0, 13, 14, 37] [.n, .n, .n] _ [.inRegion (cops (csub (cd Try.f27) uA7)) [], .code (csub (cd Try.f27) uA5), .inBlock 1, .code (csub (cd Try.f27) uA3), .inLoop (csub (cd Try.f27) uA0), .inBlock 0, .code (csub (cd Try.f27) uA2)] [(0, .string (sb s)), (13, .int .i64 (((List.length s) : Nat) : Int)), (14, .int .i64 ((i : Nat) : Int)), (37, .bool false)] w (by kernel_rfl) .nil ?_
      have o14 : (binOp .add 3 (.int .i64 ((i : Nat) : Int)) (.int .i64 1)).run Try.prog w = .ok (.int .i64 (((i + 1) : Nat) : Int)) w := f_add (by rw [show ((i : Nat) : Int) + 1 = (((i + 1) : Nat) : Int) by omega]; exact IntWalk.i64_in _ (by omega))
      refine GoS.run [0, 13, 14] [.n, .n, .n, .n, .n, .h (.int .i64 (((i + 1) : Nat) : Int)), .n, .n, .n] _ [.code (csub (cd Try.f27) uA0), .inLoop (csub (cd Try.f27) uA0), .inBlock 0, .code (csub (cd Try.f27) uA2)] [(0, .string (sb s)), (13, .int .i64 (((List.length s) : Nat) : Int)), (14, .int .i64 (((i + 1) : Nat) : Int))] w (by kernel_rfl) (.cons o14 .nil) ?_
      exact ih (i + 1) (by omega) (fun j hj => by rcases Nat.lt_succ_iff_lt_or_eq.1 hj with g | g; exact hz j g; subst g; unfold okI; omega) (by omega)
   ·
    have h4p : ¬ ((bl s i) < 97) := of_decide_eq_false h4
    refine GoS.run [0, 4, 13, 14, 26] [.n, .n, .n, .n] _ [.inRegion (cops (csub (cd Try.f27) uA7)) [7,8,9,10,11,12,13,14,15,16,17], .code (csub (cd Try.f27) uA5), .inBlock 1, .code (csub (cd Try.f27) uA3), .inLoop (csub (cd Try.f27) uA0), .inBlock 0, .code (csub (cd Try.f27) uA2)] [(0, .string (sb s)), (4, .int .u8 (bl s i)), (13, .int .i64 (((List.length s) : Nat) : Int)), (14, .int .i64 ((i : Nat) : Int)), (26, .bool (decide ((bl s i) > 122)))] w (by kernel_rfl) .nil ?_
    refine GoS.fork 26 (decide ((bl s i) > 122)) (by kernel_rfl) (fun h7 => ?_) (fun h7 => ?_)
    ·
     have h7p : (bl s i) > 122 := of_decide_eq_true h7
     refine GoS.run [0, 4, 13, 14, 26, 29] [.n, .n, .n] _ [.inRegion (cops (csub (cd Try.f27) uA7)) [10,11,12,13,14,15,16,17], .code (csub (cd Try.f27) uA5), .inBlock 1, .code (csub (cd Try.f27) uA3), .inLoop (csub (cd Try.f27) uA0), .inBlock 0, .code (csub (cd Try.f27) uA2)] [(0, .string (sb s)), (4, .int .u8 (bl s i)), (13, .int .i64 (((List.length s) : Nat) : Int)), (14, .int .i64 ((i : Nat) : Int)), (26, .bool true), (29, .bool (decide ((bl s i) < 48)))] w (by kernel_rfl) .nil ?_
     refine GoS.fork 29 (decide ((bl s i) < 48)) (by kernel_rfl) (fun h8 => ?_) (fun h8 => ?_)
     ·
      have h8p : (bl s i) < 48 := of_decide_eq_true h8
      refine GoS.run [0, 13, 14, 37] [.n, .n, .n, .n, .n, .n, .n, .n] _ [.inRegion (cops (csub (cd Try.f27) uA7)) [], .code (csub (cd Try.f27) uA5), .inBlock 1, .code (csub (cd Try.f27) uA3), .inLoop (csub (cd Try.f27) uA0), .inBlock 0, .code (csub (cd Try.f27) uA2)] [(0, .string (sb s)), (13, .int .i64 (((List.length s) : Nat) : Int)), (14, .int .i64 ((i : Nat) : Int)), (37, .bool ((bl s i) != 95))] w (by kernel_rfl) .nil ?_
      refine GoS.run [0, 13, 14, 37] [.n] _ [.code (csub (cd Try.f27) uA5), .inBlock 1, .code (csub (cd Try.f27) uA3), .inLoop (csub (cd Try.f27) uA0), .inBlock 0, .code (csub (cd Try.f27) uA2)] [(0, .string (sb s)), (13, .int .i64 (((List.length s) : Nat) : Int)), (14, .int .i64 ((i : Nat) : Int)), (37, .bool ((bl s i) != 95))] w (by kernel_rfl) .nil ?_
      refine GoS.cond ((bl s i) != 95) [.code (csub (cd Try.f27) uA10), .inBlock 1, .code (csub (cd Try.f27) uA3), .inLoop (csub (cd Try.f27) uA0), .inBlock 0, .code (csub (cd Try.f27) uA2)] [.code (csub (cd Try.f27) uA11), .inBlock 1, .code (csub (cd Try.f27) uA3), .inLoop (csub (cd Try.f27) uA0), .inBlock 0, .code (csub (cd Try.f27) uA2)] (by kernel_rfl) (fun h15 => ?_) (fun h15 => ?_)
      ·
       have h15p : ¬ ((bl s i) = 95) := bne_iff_ne.1 h15
       refine GoS.run [2] [.n, .n, .n, .n] _ [.code (csub (cd Try.f27) uA12), .inBlock 1, .code (csub (cd Try.f27) uA3), .inLoop (csub (cd Try.f27) uA0), .inBlock 0, .code (csub (cd Try.f27) uA2)] [(2, .bool false)] w (by kernel_rfl) .nil ?_
       refine GoS.ret (fn := Try.f27) (v := (.bool false)) Try.func27 (by kernel_rfl) ?_
       rw [hR]
       exact ⟨ret_bool (name_no (j := i) (by omega) (by unfold okI; omega)).symm, rfl⟩
      ·
       have h15p : (bl s i) = 95 := p_eq h15
       refine GoS.run [0, 13, 14] [.n] _ [.inBlock 1, .code (csub (cd Try.f27) uA3), .inLoop (csub (cd Try.f27) uA0), .inBlock 0, .code (csub (cd Try.f27) uA2)] [(0, .string (sb s)), (13, .int .i64 (((List.length s) : Nat) : Int)), (14, .int .i64 ((i : Nat) : Int))] w (by kernel_rfl) .nil ?_
       have o16 : (binOp .add 3 (.int .i64 ((i : Nat) : Int)) (.int .i64 1)).run Try.prog w = .ok (.int .i64 (((i + 1) : Nat) : Int)) w := f_add (by rw [show ((i : Nat) : Int) + 1 = (((i + 1) : Nat) : Int) by omega]; exact IntWalk.i64_in _ (by omega))
       refine GoS.run [0, 13, 14] [.n, .n, .h (.int .i64 (((i + 1) : Nat) : Int)), .n, .n, .n] _ [.code (csub (cd Try.f27) uA0), .inLoop (csub (cd Try.f27) uA0), .inBlock 0, .code (csub (cd Try.f27) uA2)] [(0, .string (sb s)), (13, .int .i64 (((List.length s) : Nat) : Int)), (14, .int .i64 (((i + 1) : Nat) : Int))] w (by kernel_rfl) (.cons o16 .nil) ?_
       exact ih (i + 1) (by omega) (fun j hj => by rcases Nat.lt_succ_iff_lt_or_eq.1 hj with g | g; exact hz j g; subst g; unfold okI; omega) (by omega)
     ·
      have h8p : ¬ ((bl s i) < 48) := of_decide_eq_false h8
      refine GoS.run [0, 4, 13, 14, 34] [.n, .n, .n, .n, .n] _ [.inRegion (cops (csub (cd Try.f27) uA7)) [15,16,17], .code (csub (cd Try.f27) uA5), .inBlock 1, .code (csub (cd Try.f27) uA3), .inLoop (csub (cd Try.f27) uA0), .inBlock 0, .code (csub (cd Try.f27) uA2)] [(0, .string (sb s)), (4, .int .u8 (bl s i)), (13, .int .i64 (((List.length s) : Nat) : Int)), (14, .int .i64 ((i : Nat) : Int)), (34, .bool (decide ((bl s i) > 57)))] w (by kernel_rfl) .nil ?_
      refine GoS.fork 34 (decide ((bl s i) > 57)) (by kernel_rfl) (fun h9 => ?_) (fun h9 => ?_)
      ·
       have h9p : (bl s i) > 57 := of_decide_eq_true h9
       refine GoS.run [0, 13, 14, 37] [.n, .n, .n] _ [.inRegion (cops (csub (cd Try.f27) uA7)) [], .code (csub (cd Try.f27) uA5), .inBlock 1, .code (csub (cd Try.f27) uA3), .inLoop (csub (cd Try.f27) uA0), .inBlock 0, .code (csub (cd Try.f27) uA2)] [(0, .string (sb s)), (13, .int .i64 (((List.length s) : Nat) : Int)), (14, .int .i64 ((i : Nat) : Int)), (37, .bool ((bl s i) != 95))] w (by kernel_rfl) .nil ?_
       refine GoS.run [0, 13, 14, 37] [.n] _ [.code (csub (cd Try.f27) uA5), .inBlock 1, .code (csub (cd Try.f27) uA3), .inLoop (csub (cd Try.f27) uA0), .inBlock 0, .code (csub (cd Try.f27) uA2)] [(0, .string (sb s)), (13, .int .i64 (((List.length s) : Nat) : Int)), (14, .int .i64 ((i : Nat) : Int)), (37, .bool ((bl s i) != 95))] w (by kernel_rfl) .nil ?_
       refine GoS.cond ((bl s i) != 95) [.code (csub (cd Try.f27) uA10), .inBlock 1, .code (csub (cd Try.f27) uA3), .inLoop (csub (cd Try.f27) uA0), .inBlock 0, .code (csub (cd Try.f27) uA2)] [.code (csub (cd Try.f27) uA11), .inBlock 1, .code (csub (cd Try.f27) uA3), .inLoop (csub (cd Try.f27) uA0), .inBlock 0, .code (csub (cd Try.f27) uA2)] (by kernel_rfl) (fun h17 => ?_) (fun h17 => ?_)
       ·
        have h17p : ¬ ((bl s i) = 95) := bne_iff_ne.1 h17
        refine GoS.run [2] [.n, .n, .n, .n] _ [.code (csub (cd Try.f27) uA12), .inBlock 1, .code (csub (cd Try.f27) uA3), .inLoop (csub (cd Try.f27) uA0), .inBlock 0, .code (csub (cd Try.f27) uA2)] [(2, .bool false)] w (by kernel_rfl) .nil ?_
        refine GoS.ret (fn := Try.f27) (v := (.bool false)) Try.func27 (by kernel_rfl) ?_
        rw [hR]
        exact ⟨ret_bool (name_no (j := i) (by omega) (by unfold okI; omega)).symm, rfl⟩
       ·
        have h17p : (bl s i) = 95 := p_eq h17
        refine GoS.run [0, 13, 14] [.n] _ [.inBlock 1, .code (csub (cd Try.f27) uA3), .inLoop (csub (cd Try.f27) uA0), .inBlock 0, .code (csub (cd Try.f27) uA2)] [(0, .string (sb s)), (13, .int .i64 (((List.length s) : Nat) : Int)), (14, .int .i64 ((i : Nat) : Int))] w (by kernel_rfl) .nil ?_
        have o18 : (binOp .add 3 (.int .i64 ((i : Nat) : Int)) (.int .i64 1)).run Try.prog w = .ok (.int .i64 (((i + 1) : Nat) : Int)) w := f_add (by rw [show ((i : Nat) : Int) + 1 = (((i + 1) : Nat) : Int) by omega]; exact IntWalk.i64_in _ (by omega))
        refine GoS.run [0, 13, 14] [.n, .n, .h (.int .i64 (((i + 1) : Nat) : Int)), .n, .n, .n] _ [.code (csub (cd Try.f27) uA0), .inLoop (csub (cd Try.f27) uA0), .inBlock 0, .code (csub (cd Try.f27) uA2)] [(0, .string (sb s)), (13, .int .i64 (((List.length s) : Nat) : Int)), (14, .int .i64 (((i + 1) : Nat) : Int))] w (by kernel_rfl) (.cons o18 .nil) ?_
        exact ih (i + 1) (by omega) (fun j hj => by rcases Nat.lt_succ_iff_lt_or_eq.1 hj with g | g; exact hz j g; subst g; unfold okI; omega) (by omega)
      ·
       have h9p : ¬ ((bl s i) > 57) := of_decide_eq_false h9
       refine GoS.run [0, 13, 14, 37] [.n, .n, .n] _ [.inRegion (cops (csub (cd Try.f27) uA7)) [], .code (csub (cd Try.f27) uA5), .inBlock 1, .code (csub (cd Try.f27) uA3), .inLoop (csub (cd Try.f27) uA0), .inBlock 0, .code (csub (cd Try.f27) uA2)] [(0, .string (sb s)), (13, .int .i64 (((List.length s) : Nat) : Int)), (14, .int .i64 ((i : Nat) : Int)), (37, .bool false)] w (by kernel_rfl) .nil ?_
       have o19 : (binOp .add 3 (.int .i64 ((i : Nat) : Int)) (.int .i64 1)).run Try.prog w = .ok (.int .i64 (((i + 1) : Nat) : Int)) w := f_add (by rw [show ((i : Nat) : Int) + 1 = (((i + 1) : Nat) : Int) by omega]; exact IntWalk.i64_in _ (by omega))
       refine GoS.run [0, 13, 14] [.n, .n, .n, .n, .n, .h (.int .i64 (((i + 1) : Nat) : Int)), .n, .n, .n] _ [.code (csub (cd Try.f27) uA0), .inLoop (csub (cd Try.f27) uA0), .inBlock 0, .code (csub (cd Try.f27) uA2)] [(0, .string (sb s)), (13, .int .i64 (((List.length s) : Nat) : Int)), (14, .int .i64 (((i + 1) : Nat) : Int))] w (by kernel_rfl) (.cons o19 .nil) ?_
       exact ih (i + 1) (by omega) (fun j hj => by rcases Nat.lt_succ_iff_lt_or_eq.1 hj with g | g; exact hz j g; subst g; unfold okI; omega) (by omega)
    ·
     have h7p : ¬ ((bl s i) > 122) := of_decide_eq_false h7
     refine GoS.run [0, 13, 14, 37] [.n, .n, .n, .n, .n, .n, .n, .n, .n, .n, .n] _ [.inRegion (cops (csub (cd Try.f27) uA7)) [], .code (csub (cd Try.f27) uA5), .inBlock 1, .code (csub (cd Try.f27) uA3), .inLoop (csub (cd Try.f27) uA0), .inBlock 0, .code (csub (cd Try.f27) uA2)] [(0, .string (sb s)), (13, .int .i64 (((List.length s) : Nat) : Int)), (14, .int .i64 ((i : Nat) : Int)), (37, .bool false)] w (by kernel_rfl) .nil ?_
     have o20 : (binOp .add 3 (.int .i64 ((i : Nat) : Int)) (.int .i64 1)).run Try.prog w = .ok (.int .i64 (((i + 1) : Nat) : Int)) w := f_add (by rw [show ((i : Nat) : Int) + 1 = (((i + 1) : Nat) : Int) by omega]; exact IntWalk.i64_in _ (by omega))
     refine GoS.run [0, 13, 14] [.n, .n, .n, .n, .n, .h (.int .i64 (((i + 1) : Nat) : Int)), .n, .n, .n] _ [.code (csub (cd Try.f27) uA0), .inLoop (csub (cd Try.f27) uA0), .inBlock 0, .code (csub (cd Try.f27) uA2)] [(0, .string (sb s)), (13, .int .i64 (((List.length s) : Nat) : Int)), (14, .int .i64 (((i + 1) : Nat) : Int))] w (by kernel_rfl) (.cons o20 .nil) ?_
     exact ih (i + 1) (by omega) (fun j hj => by rcases Nat.lt_succ_iff_lt_or_eq.1 hj with g | g; exact hz j g; subst g; unfold okI; omega) (by omega)
  ·
   have h1p : ¬ (((i : Nat) : Int) < (((List.length s) : Nat) : Int)) := of_decide_eq_false h1
   refine GoS.run [2] [.n, .n, .n, .n, .n] _ [.code (csub (cd Try.f27) [1,1,1,1])] [(2, .bool true)] w (by kernel_rfl) .nil ?_
   refine GoS.ret (fn := Try.f27) (v := (.bool true)) Try.func27 (by kernel_rfl) ?_
   rw [hR]
   exact ⟨ret_bool (name_yes (by omega) (fun j hj => hz j (by omega))).symm, rfl⟩

set_option maxHeartbeats 400000 in
theorem name_c (s : List UInt8) (w : World) :
  Calls Try.prog 27 #[.string (sb s)] w (fun e w' => e = .returned (.bool (nameP s)) ∧ w = w') := by
 obtain ⟨R, hR⟩ : ∃ R : Ending → World → Prop, R = (fun e w' => e = .returned (.bool (nameP s)) ∧ w = w') := ⟨_, rfl⟩
 rw [← hR]
 refine GoS.enter (n := 39) Try.func27 (by kernel_rfl) rfl [(0, .string (sb s))] (by kernel_rfl) (by kernel_rfl) ?_
 have o1 : (binOp .eql 9 (.string (sb s)) (.string (sb ([])))).run Try.prog w = .ok (.bool (decide (s = []))) w := f_streq
 refine GoS.run [0, 7] [.n, .n, .n, .n, .n, .n, .n, .n, .h (.bool (decide (s = []))), .n] _ [.inRegion (cops (csub (cd Try.f27) [1,0,0])) [3,4,5,6], .code (csub (cd Try.f27) [1,0,1]), .code (csub (cd Try.f27) [1,1])] [(0, .string (sb s)), (7, .bool (decide (s = [])))] w (by kernel_rfl) (.cons o1 .nil) ?_
 refine GoS.fork 7 (decide (s = [])) (by kernel_rfl) (fun h2 => ?_) (fun h2 => ?_)
 ·
  have h2p : s = [] := of_decide_eq_true h2
  refine GoS.run [0, 11] [.n, .n, .n, .n] _ [.inRegion (cops (csub (cd Try.f27) [1,0,0])) [], .code (csub (cd Try.f27) [1,0,1]), .code (csub (cd Try.f27) [1,1])] [(0, .string (sb s)), (11, .bool true)] w (by kernel_rfl) .nil ?_
  refine GoS.run [2] [.n, .n, .n, .n, .n, .n] _ [.code (csub (cd Try.f27) [1,0,1,0,1]), .code (csub (cd Try.f27) [1,1])] [(2, .bool false)] w (by kernel_rfl) .nil ?_
  refine GoS.ret (fn := Try.f27) (v := (.bool false)) Try.func27 (by kernel_rfl) ?_
  rw [hR]
  exact ⟨ret_bool (name_len (by first | omega | (rw [h2p]; decide))).symm, rfl⟩
 ·
  have h2p : ¬ (s = []) := of_decide_eq_false h2
  have o3 : (Builtin.len_ #[9] 3 #[.string (sb s)]).run Try.prog w = .ok (.int .i64 ((s.length : Nat) : Int)) w := f_len (by kernel_rfl)
  refine GoS.run [0, 11] [.n, .h (.int .i64 ((s.length : Nat) : Int)), .n, .n] _ [.inRegion (cops (csub (cd Try.f27) [1,0,0])) [], .code (csub (cd Try.f27) [1,0,1]), .code (csub (cd Try.f27) [1,1])] [(0, .string (sb s)), (11, .bool (decide (((s.length : Nat) : Int) > 16)))] w (by kernel_rfl) (.cons o3 .nil) ?_
  refine GoS.run [0, 11] [.n] _ [.code (csub (cd Try.f27) [1,0,1]), .code (csub (cd Try.f27) [1,1])] [(0, .string (sb s)), (11, .bool (decide (((s.length : Nat) : Int) > 16)))] w (by kernel_rfl) .nil ?_
  refine GoS.cond (decide (((s.length : Nat) : Int) > 16)) [.code (csub (cd Try.f27) [1,0,1,0]), .code (csub (cd Try.f27) [1,1])] [.code (csub (cd Try.f27) [1,0,1,1]), .code (csub (cd Try.f27) [1,1])] (by kernel_rfl) (fun h4 => ?_) (fun h4 => ?_)
  ·
   have h4p : ((s.length : Nat) : Int) > 16 := of_decide_eq_true h4
   refine GoS.run [2] [.n, .n, .n, .n] _ [.code (csub (cd Try.f27) [1,0,1,0,1]), .code (csub (cd Try.f27) [1,1])] [(2, .bool false)] w (by kernel_rfl) .nil ?_
   refine GoS.ret (fn := Try.f27) (v := (.bool false)) Try.func27 (by kernel_rfl) ?_
   rw [hR]
   exact ⟨ret_bool (name_len (by first | omega | (rw [h2p]; decide))).symm, rfl⟩
  ·
   have h4p : ¬ (((s.length : Nat) : Int) > 16) := of_decide_eq_false h4
   refine GoS.run [0] [.n] _ [.code (csub (cd Try.f27) [1,1])] [(0, .string (sb s))] w (by kernel_rfl) .nil ?_
   have o5 : (Builtin.len_ #[9] 3 #[.string (sb s)]).run Try.prog w = .ok (.int .i64 ((s.length : Nat) : Int)) w := f_len (by kernel_rfl)
   refine GoS.run [0, 13, 14] [.n, .n, .n, .n, .h (.int .i64 ((s.length : Nat) : Int)), .n, .n, .n, .n] _ [.code (csub (cd Try.f27) uA0), .inLoop (csub (cd Try.f27) uA0), .inBlock 0, .code (csub (cd Try.f27) uA2)] [(0, .string (sb s)), (13, .int .i64 ((s.length : Nat) : Int)), (14, .int .i64 0)] w (by kernel_rfl) (.cons o5 .nil) ?_
   exact name_c_L s ⟨Nat.pos_of_ne_zero (fun z => h2p (List.eq_nil_of_length_eq_zero z)), by omega⟩ w R hR (s.length + 1) 0 (Nat.zero_le _) (fun j hj => absurd hj (Nat.not_lt_zero _)) (by omega)

set_option maxHeartbeats 400000 in
theorem rname_c_L (s : List UInt8) (hs : s.length ≤ 9223372036854775807) (w : World) (R : Ending → World → Prop) (hR : R = (fun e w' => e = .returned (.bool (nameP s)) ∧ w = w')) : ∀ (N : Nat) (i : Nat) (hi : i ≤ s.length) (hz : ∀ j, j < i → okI (bl s j)) (hN : s.length - i < N), GoS Try.prog 34 R 41 [.code (csub (cd Try.f34) uA1), .inLoop (csub (cd Try.f34) uA1), .inBlock 0, .code (csub (cd Try.f34) [1,1])] [(0, .string (sb s)), (3, .int .i64 ((i : Nat) : Int))] w := by
 intro N
 induction N with
 | zero => intro i hi hz hN; exact absurd hN (Nat.not_lt_zero _)
 | succ N ih =>
  intro i hi hz hN
  have hb := bl_bd s i
  have o1 : (Builtin.len_ #[9] 3 #[.string (sb s)]).run Try.prog w = .ok (.int .i64 ((s.length : Nat) : Int)) w := f_len (by kernel_rfl)
  refine GoS.run [0, 3, 8] [.n, .n, .n, .n, .n, .h (.int .i64 ((s.length : Nat) : Int)), .n, .n] _ [.code (csub (cd Try.f34) [1,0,1,0,0,0,1]), .code (csub (cd Try.f34) [1,0,1,0,0,1]), .inLoop (csub (cd Try.f34) uA1), .inBlock 0, .code (csub (cd Try.f34) [1,1])] [(0, .string (sb s)), (3, .int .i64 ((i : Nat) : Int)), (8, .bool (decide (((i : Nat) : Int) < ((s.length : Nat) : Int))))] w (by kernel_rfl) (.cons o1 .nil) ?_
  refine GoS.cond (decide (((i : Nat) : Int) < ((s.length : Nat) : Int))) [.code (csub (cd Try.f34) [1,0,1,0,0,0,1,0]), .code (csub (cd Try.f34) [1,0,1,0,0,1]), .inLoop (csub (cd Try.f34) uA1), .inBlock 0, .code (csub (cd Try.f34) [1,1])] [.code (csub (cd Try.f34) [1,0,1,0,0,0,1,1]), .code (csub (cd Try.f34) [1,0,1,0,0,1]), .inLoop (csub (cd Try.f34) uA1), .inBlock 0, .code (csub (cd Try.f34) [1,1])] (by kernel_rfl) (fun h2 => ?_) (fun h2 => ?_)
  ·
   have h2p : ((i : Nat) : Int) < ((s.length : Nat) : Int) := of_decide_eq_true h2
   refine GoS.run [0, 3] [.n] _ [.code (csub (cd Try.f34) [1,0,1,0,0,1]), .inLoop (csub (cd Try.f34) uA1), .inBlock 0, .code (csub (cd Try.f34) [1,1])] [(0, .string (sb s)), (3, .int .i64 ((i : Nat) : Int))] w (by kernel_rfl) .nil ?_
   have hb6 := bl_bd s i
   have o7 : (Instr.index 9 (.string (sb s)) (.int .i64 ((i : Nat) : Int))).run Try.prog w = .ok (.int .u8 (bl s i)) w := f_index i (by kernel_rfl) (by omega) (by omega)
   refine GoS.run [0, 3, 4, 16] [.n, .n, .n, .n, .n, .n, .h (.int .u8 (bl s i)), .n, .n, .n, .n, .n, .n, .n] _ [.inRegion (cops (csub (cd Try.f34) uA8)) [3,4,5,6,7,8,9,10,11,12,13,14,15,16,17,18], .code (csub (cd Try.f34) uA6), .inBlock 1, .code (csub (cd Try.f34) uA4), .inLoop (csub (cd Try.f34) uA1), .inBlock 0, .code (csub (cd Try.f34) [1,1])] [(0, .string (sb s)), (3, .int .i64 ((i : Nat) : Int)), (4, .int .u8 (bl s i)), (16, .bool (decide ((bl s i) ≥ 97)))] w (by kernel_rfl) (.cons o7 .nil) ?_
   refine GoS.fork 16 (decide ((bl s i) ≥ 97)) (by kernel_rfl) (fun h8 => ?_) (fun h8 => ?_)
   ·
    have h8p : (bl s i) ≥ 97 := of_decide_eq_true h8
    refine GoS.run [0, 3, 4, 20] [.n, .n, .n, .n] _ [.inRegion (cops (csub (cd Try.f34) uA8)) [7,8,9,10,11,12,13,14,15,16,17,18], .code (csub (cd Try.f34) uA6), .inBlock 1, .code (csub (cd Try.f34) uA4), .inLoop (csub (cd Try.f34) uA1), .inBlock 0, .code (csub (cd Try.f34) [1,1])] [(0, .string (sb s)), (3, .int .i64 ((i : Nat) : Int)), (4, .int .u8 (bl s i)), (20, .bool (decide ((bl s i) ≤ 122)))] w (by kernel_rfl) .nil ?_
    refine GoS.fork 20 (decide ((bl s i) ≤ 122)) (by kernel_rfl) (fun h9 => ?_) (fun h9 => ?_)
    ·
     have h9p : (bl s i) ≤ 122 := of_decide_eq_true h9
     refine GoS.run [0, 3, 32] [.n, .n, .n, .n, .n, .n, .n, .n, .n, .n, .n, .n] _ [.inRegion (cops (csub (cd Try.f34) uA8)) [], .code (csub (cd Try.f34) uA6), .inBlock 1, .code (csub (cd Try.f34) uA4), .inLoop (csub (cd Try.f34) uA1), .inBlock 0, .code (csub (cd Try.f34) [1,1])] [(0, .string (sb s)), (3, .int .i64 ((i : Nat) : Int)), (32, .bool false)] w (by kernel_rfl) .nil ?_
     have o14 : (binOp .add 3 (.int .i64 ((i : Nat) : Int)) (.int .i64 1)).run Try.prog w = .ok (.int .i64 (((i + 1) : Nat) : Int)) w := f_add (by rw [show ((i : Nat) : Int) + 1 = (((i + 1) : Nat) : Int) by omega]; exact IntWalk.i64_in _ (by omega))
     refine GoS.run [0, 3] [.n, .n, .n, .n, .n, .n, .h (.int .i64 (((i + 1) : Nat) : Int)), .n, .n, .n] _ [.code (csub (cd Try.f34) uA1), .inLoop (csub (cd Try.f34) uA1), .inBlock 0, .code (csub (cd Try.f34) [1,1])] [(0, .string (sb s)), (3, .int .i64 (((i + 1) : Nat) : Int))] w (by kernel_rfl) (.cons o14 .nil) ?_
     exact ih (i + 1) (by omega) (fun j hj => by rcases Nat.lt_succ_iff_lt_or_eq.1 hj with g | g; exact hz j g; subst g; unfold okI; omega) (by omega)
    ·
     have h9p : ¬ ((bl s i) ≤ 122) := of_decide_eq_false h9
     refine GoS.run [0, 3, 4, 20, 23] [.n, .n, .n] _ [.inRegion (cops (csub (cd Try.f34) uA8)) [10,11,12,13,14,15,16,17,18], .code (csub (cd Try.f34) uA6), .inBlock 1, .code (csub (cd Try.f34) uA4), .inLoop (csub (cd Try.f34) uA1), .inBlock 0, .code (csub (cd Try.f34) [1,1])] [(0, .string (sb s)), (3, .int .i64 ((i : Nat) : Int)), (4, .int .u8 (bl s i)), (20, .bool false), (23, .bool (decide ((bl s i) ≥ 48)))] w (by kernel_rfl) .nil ?_
     refine GoS.fork 23 (decide ((bl s i) ≥ 48)) (by kernel_rfl) (fun h10 => ?_) (fun h10 => ?_)
     ·
      have h10p : (bl s i) ≥ 48 := of_decide_eq_true h10
      refine GoS.run [0, 3, 4, 28] [.n, .n, .n, .n, .n] _ [.inRegion (cops (csub (cd Try.f34) uA8)) [15,16,17,18], .code (csub (cd Try.f34) uA6), .inBlock 1, .code (csub (cd Try.f34) uA4), .inLoop (csub (cd Try.f34) uA1), .inBlock 0, .code (csub (cd Try.f34) [1,1])] [(0, .string (sb s)), (3, .int .i64 ((i : Nat) : Int)), (4, .int .u8 (bl s i)), (28, .bool (decide ((bl s i) ≤ 57)))] w (by kernel_rfl) .nil ?_
      refine GoS.fork 28 (decide ((bl s i) ≤ 57)) (by kernel_rfl) (fun h11 => ?_) (fun h11 => ?_)
      ·
       have h11p : (bl s i) ≤ 57 := of_decide_eq_true h11
       refine GoS.run [0, 3, 32] [.n, .n, .n, .n] _ [.inRegion (cops (csub (cd Try.f34) uA8)) [], .code (csub (cd Try.f34) uA6), .inBlock 1, .code (csub (cd Try.f34) uA4), .inLoop (csub (cd Try.f34) uA1), .inBlock 0, .code (csub (cd Try.f34) [1,1])] [(0, .string (sb s)), (3, .int .i64 ((i : Nat) : Int)), (32, .bool false)] w (by kernel_rfl) .nil ?_
       have o15 : (binOp .add 3 (.int .i64 ((i : Nat) : Int)) (.int .i64 1)).run Try.prog w = .ok (.int .i64 (((i + 1) : Nat) : Int)) w := f_add (by rw [show ((i : Nat) : Int) + 1 = (((i + 1) : Nat) : Int) by omega]; exact IntWalk.i64_in _ (by omega))
       refine GoS.run [0, 3] [.n, .n, .n, .n, .n, .n, .h (.int .i64 (((i + 1) : Nat) : Int)), .n, .n, .n] _ [.code (csub (cd Try.f34) uA1), .inLoop (csub (cd Try.f34) uA1), .inBlock 0, .code (csub (cd Try.f34) [1,1])] [(0, .string (sb s)), (3, .int .i64 (((i + 1) : Nat) : Int))] w (by kernel_rfl) (.cons o15 .nil) ?_
       exact ih (i + 1) (by omega) (fun j hj => by rcases Nat.lt_succ_iff_lt_or_eq.1 hj with g | g; exact hz j g; subst g; unfold okI; omega) (by omega)
      ·
       have h11p : ¬ ((bl s i) ≤ 57) := of_decide_eq_false h11
       refine GoS.run [0, 3, 32] [.n, .n, .n, .n] _ [.inRegion (cops (csub (cd Try.f34) uA8)) [], .code (csub (cd Try.f34) uA6), .inBlock 1, .code (csub (cd Try.f34) uA4), .inLoop (csub (cd Try.f34) uA1), .inBlock 0, .code (csub (cd Try.f34) [1,1])] [(0, .string (sb s)), (3, .int .i64 ((i : Nat) : Int)), (32, .bool (!((bl s i) == 95)))] w (by kernel_rfl) .nil ?_
       refine GoS.run [0, 3, 32] [.n] _ [.code (csub (cd Try.f34) uA6), .inBlock 1, .code (csub (cd Try.f34) uA4), .inLoop (csub (cd Try.f34) uA1), .inBlock 0, .code (csub (cd Try.f34) [1,1])] [(0, .string (sb s)), (3, .int .i64 ((i : Nat) : Int)), (32, .bool (!((bl s i) == 95)))] w (by kernel_rfl) .nil ?_
       refine GoS.cond (!((bl s i) == 95)) [.code (csub (cd Try.f34) uA13), .inBlock 1, .code (csub (cd Try.f34) uA4), .inLoop (csub (cd Try.f34) uA1), .inBlock 0, .code (csub (cd Try.f34) [1,1])] [.code (csub (cd Try.f34) uA14), .inBlock 1, .code (csub (cd Try.f34) uA4), .inLoop (csub (cd Try.f34) uA1), .inBlock 0, .code (csub (cd Try.f34) [1,1])] (by kernel_rfl) (fun h16 => ?_) (fun h16 => ?_)
       ·
        have h16p : ¬ ((bl s i) = 95) := p_ne (p_nf h16)
        refine GoS.run [2] [.n, .n, .n, .n] _ [.code (csub (cd Try.f34) uA15), .inBlock 1, .code (csub (cd Try.f34) uA4), .inLoop (csub (cd Try.f34) uA1), .inBlock 0, .code (csub (cd Try.f34) [1,1])] [(2, .bool false)] w (by kernel_rfl) .nil ?_
        refine GoS.ret (fn := Try.f34) (v := (.bool false)) Try.func34 (by kernel_rfl) ?_
        rw [hR]
        exact ⟨ret_bool (name_no (j := i) (by omega) (by unfold okI; omega)).symm, rfl⟩
       ·
        have h16p : (bl s i) = 95 := eq_of_beq (p_nt h16)
        refine GoS.run [0, 3] [.n] _ [.inBlock 1, .code (csub (cd Try.f34) uA4), .inLoop (csub (cd Try.f34) uA1), .inBlock 0, .code (csub (cd Try.f34) [1,1])] [(0, .string (sb s)), (3, .int .i64 ((i : Nat) : Int))] w (by kernel_rfl) .nil ?_
        have o17 : (binOp .add 3 (.int .i64 ((i : Nat) : Int)) (.int .i64 1)).run Try.prog w = .ok (.int .i64 (((i + 1) : Nat) : Int)) w := f_add (by rw [show ((i : Nat) : Int) + 1 = (((i + 1) : Nat) : Int) by omega]; exact IntWalk.i64_in _ (by omega))
        refine GoS.run [0, 3] [.n, .n, .n, .h (.int .i64 (((i + 1) : Nat) : Int)), .n, .n, .n] _ [.code (csub (cd Try.f34) uA1), .inLoop (csub (cd Try.f34) uA1), .inBlock 0, .code (csub (cd Try.f34) [1,1])] [(0, .string (sb s)), (3, .int .i64 (((i + 1) : Nat) : Int))] w (by kernel_rfl) (.cons o17 .nil) ?_
        exact ih (i + 1) (by omega) (fun j hj => by rcases Nat.lt_succ_iff_lt_or_eq.1 hj with g | g; exact hz j g; subst g; unfold okI; omega) (by omega)
     ·
      have h10p : ¬ ((bl s i) ≥ 48) := of_decide_eq_false h10
      refine GoS.run [0, 3, 32] [.n, .n, .n, .n, .n, .n, .n, .n, .n] _ [.inRegion (cops (csub (cd Try.f34) uA8)) [], .code (csub (cd Try.f34) uA6), .inBlock 1, .code (csub (cd Try.f34) uA4), .inLoop (csub (cd Try.f34) uA1), .inBlock 0, .code (csub (cd Try.f34) [1,1])] [(0, .string (sb s)), (3, .int .i64 ((i : Nat) : Int)), (32, .bool (!((bl s i) == 95)))] w (by kernel_rfl) .nil ?_
      refine GoS.run [0, 3, 32] [.n] _ [.code (csub (cd Try.f34) uA6), .inBlock 1, .code (csub (cd Try.f34) uA4), .inLoop (csub (cd Try.f34) uA1), .inBlock 0, .code (csub (cd Try.f34) [1,1])] [(0, .string (sb s)), (3, .int .i64 ((i : Nat) : Int)), (32, .bool (!((bl s i) == 95)))] w (by kernel_rfl) .nil ?_
      refine GoS.cond (!((bl s i) == 95)) [.code (csub (cd Try.f34) uA13), .inBlock 1, .code (csub (cd Try.f34) uA4), .inLoop (csub (cd Try.f34) uA1), .inBlock 0, .code (csub (cd Try.f34) [1,1])] [.code (csub (cd Try.f34) uA14), .inBlock 1, .code (csub (cd Try.f34) uA4), .inLoop (csub (cd Try.f34) uA1), .inBlock 0, .code (csub (cd Try.f34) [1,1])] (by kernel_rfl) (fun h18 => ?_) (fun h18 => ?_)
      ·
       have h18p : ¬ ((bl s i) = 95) := p_ne (p_nf h18)
       refine GoS.run [2] [.n, .n, .n, .n] _ [.code (csub (cd Try.f34) uA15), .inBlock 1, .code (csub (cd Try.f34) uA4), .inLoop (csub (cd Try.f34) uA1), .inBlock 0, .code (csub (cd Try.f34) [1,1])] [(2, .bool false)] w (by kernel_rfl) .nil ?_
       refine GoS.ret (fn := Try.f34) (v := (.bool false)) Try.func34 (by kernel_rfl) ?_
       rw [hR]
       exact ⟨ret_bool (name_no (j := i) (by omega) (by unfold okI; omega)).symm, rfl⟩
      ·
       have h18p : (bl s i) = 95 := eq_of_beq (p_nt h18)
       refine GoS.run [0, 3] [.n] _ [.inBlock 1, .code (csub (cd Try.f34) uA4), .inLoop (csub (cd Try.f34) uA1), .inBlock 0, .code (csub (cd Try.f34) [1,1])] [(0, .string (sb s)), (3, .int .i64 ((i : Nat) : Int))] w (by kernel_rfl) .nil ?_
       have o19 : (binOp .add 3 (.int .i64 ((i : Nat) : Int)) (.int .i64 1)).run Try.prog w = .ok (.int .i64 (((i + 1) : Nat) : Int)) w := f_add (by rw [show ((i : Nat) : Int) + 1 = (((i + 1) : Nat) : Int) by omega]; exact IntWalk.i64_in _ (by omega))
       refine GoS.run [0, 3] [.n, .n, .n, .h (.int .i64 (((i + 1) : Nat) : Int)), .n, .n, .n] _ [.code (csub (cd Try.f34) uA1), .inLoop (csub (cd Try.f34) uA1), .inBlock 0, .code (csub (cd Try.f34) [1,1])] [(0, .string (sb s)), (3, .int .i64 (((i + 1) : Nat) : Int))] w (by kernel_rfl) (.cons o19 .nil) ?_
       exact ih (i + 1) (by omega) (fun j hj => by rcases Nat.lt_succ_iff_lt_or_eq.1 hj with g | g; exact hz j g; subst g; unfold okI; omega) (by omega)
   ·
    have h8p : ¬ ((bl s i) ≥ 97) := of_decide_eq_false h8
    refine GoS.run [0, 3, 4, 20, 23] [.n, .n, .n, .n, .n, .n, .n] _ [.inRegion (cops (csub (cd Try.f34) uA8)) [10,11,12,13,14,15,16,17,18], .code (csub (cd Try.f34) uA6), .inBlock 1, .code (csub (cd Try.f34) uA4), .inLoop (csub (cd Try.f34) uA1), .inBlock 0, .code (csub (cd Try.f34) [1,1])] [(0, .string (sb s)), (3, .int .i64 ((i : Nat) : Int)), (4, .int .u8 (bl s i)), (20, .bool false), (23, .bool (decide ((bl s i) ≥ 48)))] w (by kernel_rfl) .nil ?_
    refine GoS.fork 23 (decide ((bl s i) ≥ 48)) (by kernel_rfl) (fun h12 => ?_) (fun h12 => ?_)
    ·
     have h12p : (bl s i) ≥ 48 := of_decide_eq_true h12
     refine GoS.run [0, 3, 4, 28] [.n, .n, .n, .n, .n] _ [.inRegion (cops (csub (cd Try.f34) uA8)) [15,16,17,18], .code (csub (cd Try.f34) uA6), .inBlock 1, .code (csub (cd Try.f34) uA4), .inLoop (csub (cd Try.f34) uA1), .inBlock 0, .code (csub (cd Try.f34) [1,1])] [(0, .string (sb s)), (3, .int .i64 ((i : Nat) : Int)), (4, .int .u8 (bl s i)), (28, .bool (decide ((bl s i) ≤ 57)))] w (by kernel_rfl) .nil ?_
     refine GoS.fork 28 (decide ((bl s i) ≤ 57)) (by kernel_rfl) (fun h13 => ?_) (fun h13 => ?_)
     ·
      have h13p : (bl s i) ≤ 57 := of_decide_eq_true h13
      refine GoS.run [0, 3, 32] [.n, .n, .n, .n] _ [.inRegion (cops (csub (cd Try.f34) uA8)) [], .code (csub (cd Try.f34) uA6), .inBlock 1, .code (csub (cd Try.f34) uA4), .inLoop (csub (cd Try.f34) uA1), .inBlock 0, .code (csub (cd Try.f34) [1,1])] [(0, .string (sb s)), (3, .int .i64 ((i : Nat) : Int)), (32, .bool false)] w (by kernel_rfl) .nil ?_
      have o20 : (binOp .add 3 (.int .i64 ((i : Nat) : Int)) (.int .i64 1)).run Try.prog w = .ok (.int .i64 (((i + 1) : Nat) : Int)) w := f_add (by rw [show ((i : Nat) : Int) + 1 = (((i + 1) : Nat) : Int) by omega]; exact IntWalk.i64_in _ (by omega))
      refine GoS.run [0, 3] [.n, .n, .n, .n, .n, .n, .h (.int .i64 (((i + 1) : Nat) : Int)), .n, .n, .n] _ [.code (csub (cd Try.f34) uA1), .inLoop (csub (cd Try.f34) uA1), .inBlock 0, .code (csub (cd Try.f34) [1,1])] [(0, .string (sb s)), (3, .int .i64 (((i + 1) : Nat) : Int))] w (by kernel_rfl) (.cons o20 .nil) ?_
      exact ih (i + 1) (by omega) (fun j hj => by rcases Nat.lt_succ_iff_lt_or_eq.1 hj with g | g; exact hz j g; subst g; unfold okI; omega) (by omega)
     ·
      have h13p : ¬ ((bl s i) ≤ 57) := of_decide_eq_false h13
      refine GoS.run [0, 3, 32] [.n, .n, .n, .n] _ [.inRegion (cops (csub (cd Try.f34) uA8)) [], .code (csub (cd Try.f34) uA6), .inBlock 1, .code (csub (cd Try.f34) uA4), .inLoop (csub (cd Try.f34) uA1), .inBlock 0, .code (csub (cd Try.f34) [1,1])] [(0, .string (sb s)), (3, .int .i64 ((i : Nat) : Int)), (32, .bool (!((bl s i) == 95)))] w (by kernel_rfl) .nil ?_
      refine GoS.run [0, 3, 32] [.n] _ [.code (csub (cd Try.f34) uA6), .inBlock 1, .code (csub (cd Try.f34) uA4), .inLoop (csub (cd Try.f34) uA1), .inBlock 0, .code (csub (cd Try.f34) [1,1])] [(0, .string (sb s)), (3, .int .i64 ((i : Nat) : Int)), (32, .bool (!((bl s i) == 95)))] w (by kernel_rfl) .nil ?_
      refine GoS.cond (!((bl s i) == 95)) [.code (csub (cd Try.f34) uA13), .inBlock 1, .code (csub (cd Try.f34) uA4), .inLoop (csub (cd Try.f34) uA1), .inBlock 0, .code (csub (cd Try.f34) [1,1])] [.code (csub (cd Try.f34) uA14), .inBlock 1, .code (csub (cd Try.f34) uA4), .inLoop (csub (cd Try.f34) uA1), .inBlock 0, .code (csub (cd Try.f34) [1,1])] (by kernel_rfl) (fun h21 => ?_) (fun h21 => ?_)
      ·
       have h21p : ¬ ((bl s i) = 95) := p_ne (p_nf h21)
       refine GoS.run [2] [.n, .n, .n, .n] _ [.code (csub (cd Try.f34) uA15), .inBlock 1, .code (csub (cd Try.f34) uA4), .inLoop (csub (cd Try.f34) uA1), .inBlock 0, .code (csub (cd Try.f34) [1,1])] [(2, .bool false)] w (by kernel_rfl) .nil ?_
       refine GoS.ret (fn := Try.f34) (v := (.bool false)) Try.func34 (by kernel_rfl) ?_
       rw [hR]
       exact ⟨ret_bool (name_no (j := i) (by omega) (by unfold okI; omega)).symm, rfl⟩
      ·
       have h21p : (bl s i) = 95 := eq_of_beq (p_nt h21)
       refine GoS.run [0, 3] [.n] _ [.inBlock 1, .code (csub (cd Try.f34) uA4), .inLoop (csub (cd Try.f34) uA1), .inBlock 0, .code (csub (cd Try.f34) [1,1])] [(0, .string (sb s)), (3, .int .i64 ((i : Nat) : Int))] w (by kernel_rfl) .nil ?_
       have o22 : (binOp .add 3 (.int .i64 ((i : Nat) : Int)) (.int .i64 1)).run Try.prog w = .ok (.int .i64 (((i + 1) : Nat) : Int)) w := f_add (by rw [show ((i : Nat) : Int) + 1 = (((i + 1) : Nat) : Int) by omega]; exact IntWalk.i64_in _ (by omega))
       refine GoS.run [0, 3] [.n, .n, .n, .h (.int .i64 (((i + 1) : Nat) : Int)), .n, .n, .n] _ [.code (csub (cd Try.f34) uA1), .inLoop (csub (cd Try.f34) uA1), .inBlock 0, .code (csub (cd Try.f34) [1,1])] [(0, .string (sb s)), (3, .int .i64 (((i + 1) : Nat) : Int))] w (by kernel_rfl) (.cons o22 .nil) ?_
       exact ih (i + 1) (by omega) (fun j hj => by rcases Nat.lt_succ_iff_lt_or_eq.1 hj with g | g; exact hz j g; subst g; unfold okI; omega) (by omega)
    ·
     have h12p : ¬ ((bl s i) ≥ 48) := of_decide_eq_false h12
     refine GoS.run [0, 3, 32] [.n, .n, .n, .n, .n, .n, .n, .n, .n] _ [.inRegion (cops (csub (cd Try.f34) uA8)) [], .code (csub (cd Try.f34) uA6), .inBlock 1, .code (csub (cd Try.f34) uA4), .inLoop (csub (cd Try.f34) uA1), .inBlock 0, .code (csub (cd Try.f34) [1,1])] [(0, .string (sb s)), (3, .int .i64 ((i : Nat) : Int)), (32, .bool (!((bl s i) == 95)))] w (by kernel_rfl) .nil ?_
     refine GoS.run [0, 3, 32] [.n] _ [.code (csub (cd Try.f34) uA6), .inBlock 1, .code (csub (cd Try.f34) uA4), .inLoop (csub (cd Try.f34) uA1), .inBlock 0, .code (csub (cd Try.f34) [1,1])] [(0, .string (sb s)), (3, .int .i64 ((i : Nat) : Int)), (32, .bool (!((bl s i) == 95)))] w (by kernel_rfl) .nil ?_
     refine GoS.cond (!((bl s i) == 95)) [.code (csub (cd Try.f34) uA13), .inBlock 1, .code (csub (cd Try.f34) uA4), .inLoop (csub (cd Try.f34) uA1), .inBlock 0, .code (csub (cd Try.f34) [1,1])] [.code (csub (cd Try.f34) uA14), .inBlock 1, .code (csub (cd Try.f34) uA4), .inLoop (csub (cd Try.f34) uA1), .inBlock 0, .code (csub (cd Try.f34) [1,1])] (by kernel_rfl) (fun h23 => ?_) (fun h23 => ?_)
     ·
      have h23p : ¬ ((bl s i) = 95) := p_ne (p_nf h23)
      refine GoS.run [2] [.n, .n, .n, .n] _ [.code (csub (cd Try.f34) uA15), .inBlock 1, .code (csub (cd Try.f34) uA4), .inLoop (csub (cd Try.f34) uA1), .inBlock 0, .code (csub (cd Try.f34) [1,1])] [(2, .bool false)] w (by kernel_rfl) .nil ?_
      refine GoS.ret (fn := Try.f34) (v := (.bool false)) Try.func34 (by kernel_rfl) ?_
      rw [hR]
      exact ⟨ret_bool (name_no (j := i) (by omega) (by unfold okI; omega)).symm, rfl⟩
     ·
      have h23p : (bl s i) = 95 := eq_of_beq (p_nt h23)
      refine GoS.run [0, 3] [.n] _ [.inBlock 1, .code (csub (cd Try.f34) uA4), .inLoop (csub (cd Try.f34) uA1), .inBlock 0, .code (csub (cd Try.f34) [1,1])] [(0, .string (sb s)), (3, .int .i64 ((i : Nat) : Int))] w (by kernel_rfl) .nil ?_
      have o24 : (binOp .add 3 (.int .i64 ((i : Nat) : Int)) (.int .i64 1)).run Try.prog w = .ok (.int .i64 (((i + 1) : Nat) : Int)) w := f_add (by rw [show ((i : Nat) : Int) + 1 = (((i + 1) : Nat) : Int) by omega]; exact IntWalk.i64_in _ (by omega))
      refine GoS.run [0, 3] [.n, .n, .n, .h (.int .i64 (((i + 1) : Nat) : Int)), .n, .n, .n] _ [.code (csub (cd Try.f34) uA1), .inLoop (csub (cd Try.f34) uA1), .inBlock 0, .code (csub (cd Try.f34) [1,1])] [(0, .string (sb s)), (3, .int .i64 (((i + 1) : Nat) : Int))] w (by kernel_rfl) (.cons o24 .nil) ?_
      exact ih (i + 1) (by omega) (fun j hj => by rcases Nat.lt_succ_iff_lt_or_eq.1 hj with g | g; exact hz j g; subst g; unfold okI; omega) (by omega)
  ·
   have h2p : ¬ (((i : Nat) : Int) < ((s.length : Nat) : Int)) := of_decide_eq_false h2
   have o3 : (Builtin.len_ #[9] 3 #[.string (sb s)]).run Try.prog w = .ok (.int .i64 ((s.length : Nat) : Int)) w := f_len (by kernel_rfl)
   refine GoS.run [0, 36] [.n, .n, .n, .n, .h (.int .i64 ((s.length : Nat) : Int)), .n, .n] _ [.inRegion (cops (csub (cd Try.f34) [1,1,0])) [4,5,6,7,8], .code (csub (cd Try.f34) uA2)] [(0, .string (sb s)), (36, .bool (decide (((s.length : Nat) : Int) ≥ 1)))] w (by kernel_rfl) (.cons o3 .nil) ?_
   refine GoS.fork 36 (decide (((s.length : Nat) : Int) ≥ 1)) (by kernel_rfl) (fun h4 => ?_) (fun h4 => ?_)
   ·
    have h4p : ((s.length : Nat) : Int) ≥ 1 := of_decide_eq_true h4
    have o5 : (Builtin.len_ #[9] 3 #[.string (sb s)]).run Try.prog w = .ok (.int .i64 ((s.length : Nat) : Int)) w := f_len (by kernel_rfl)
    refine GoS.run [2] [.n, .h (.int .i64 ((s.length : Nat) : Int)), .n, .n, .n] _ [.inRegion (cops (csub (cd Try.f34) [1,1,0])) [], .code (csub (cd Try.f34) uA2)] [(2, .bool (decide (((s.length : Nat) : Int) ≤ 16)))] w (by kernel_rfl) (.cons o5 .nil) ?_
    refine GoS.run [2] [.n] _ [.code (csub (cd Try.f34) uA2)] [(2, .bool (decide (((s.length : Nat) : Int) ≤ 16)))] w (by kernel_rfl) .nil ?_
    refine GoS.ret (fn := Try.f34) (v := (.bool (decide (((s.length : Nat) : Int) ≤ 16)))) Try.func34 (by kernel_rfl) ?_
    rw [hR]
    exact ⟨ret_bool (by by_cases g : List.length s ≤ 16; rw [name_yes (by omega) (fun j hj => hz j (by omega)), decide_eq_true (by omega)]; rw [name_len (by omega), decide_eq_false (by omega)]), rfl⟩
   ·
    have h4p : ¬ (((s.length : Nat) : Int) ≥ 1) := of_decide_eq_false h4
    refine GoS.run [2] [.n, .n, .n, .n, .n] _ [.inRegion (cops (csub (cd Try.f34) [1,1,0])) [], .code (csub (cd Try.f34) uA2)] [(2, .bool false)] w (by kernel_rfl) .nil ?_
    refine GoS.run [2] [.n] _ [.code (csub (cd Try.f34) uA2)] [(2, .bool false)] w (by kernel_rfl) .nil ?_
    refine GoS.ret (fn := Try.f34) (v := (.bool false)) Try.func34 (by kernel_rfl) ?_
    rw [hR]
    exact ⟨ret_bool (name_len (by omega)).symm, rfl⟩

set_option maxHeartbeats 400000 in
theorem rname_c (s : List UInt8) (hs : s.length ≤ 9223372036854775807) (w : World) :
  Calls Try.prog 34 #[.string (sb s)] w (fun e w' => e = .returned (.bool (nameP s)) ∧ w = w') := by
 obtain ⟨R, hR⟩ : ∃ R : Ending → World → Prop, R = (fun e w' => e = .returned (.bool (nameP s)) ∧ w = w') := ⟨_, rfl⟩
 rw [← hR]
 refine GoS.enter (n := 41) Try.func34 (by kernel_rfl) rfl [(0, .string (sb s))] (by kernel_rfl) (by kernel_rfl) ?_
 refine GoS.run [0, 3] [.n, .n, .n, .n, .n, .n, .n, .n, .n, .n, .n] _ [.code (csub (cd Try.f34) uA1), .inLoop (csub (cd Try.f34) uA1), .inBlock 0, .code (csub (cd Try.f34) [1,1])] [(0, .string (sb s)), (3, .int .i64 0)] w (by kernel_rfl) .nil ?_
 exact rname_c_L s hs w R hR (s.length + 1) 0 (Nat.zero_le _) (fun j hj => absurd hj (Nat.not_lt_zero _)) (by omega)


end Go.Proofs.Ytcdcehjilneifaa
