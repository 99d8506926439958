/-
  The walks of Len64 and size. For every number below 2^64.
-/
import Derived.Test.YtmjkbmlcclmdkaaDoorNum
import Derived.Test.YtmjkbmlcclmdkaaDoorObj
import Derived.Test.YtmjkbmlcclmdkaaDoorSealP
import Derived.Test.YtmjkbmlcclmdkaaDoorChecked
namespace Go.Proofs.YtmjkbmlcclmdkaaDoor
open Go Go.Gw Go.NumP Go.CrcP Go.SealP Go.RowKit
set_option linter.unusedVariables false
set_option linter.unusedSimpArgs false


set_option maxHeartbeats 400000 in
theorem len64_c (x : Nat) (hx : x < 18446744073709551616) (w : World) :
    Calls Tryd.prog 36 #[.int .u64 ((x : Nat) : Int)] w (fun e w' => e = .returned (.int .i64 ((bitLen x : Nat) : Int)) ∧ w = w') := by
  obtain ⟨R, hR⟩ : ∃ R : Ending → World → Prop, R = (fun e w' => e = .returned (.int .i64 ((bitLen x : Nat) : Int)) ∧ w = w') := ⟨_, rfl⟩
  rw [← hR]
  refine GoS.enter (n := 25) Tryd.func36 (by kernel_rfl) rfl [(0, .int .u64 ((x : Nat) : Int))] (by kernel_rfl) (by kernel_rfl) ?_
  refine GoS.run [0, 2, 4] [.n, .n, .n, .n, .n, .n, .n, .n, .n, .n] _ [.code (csub (cd Tryd.f36) [1,0,1]), .code (csub (cd Tryd.f36) [1,1])] [(0, .int .u64 ((x : Nat) : Int)), (2, .int .i64 0), (4, .bool (decide (((x : Nat) : Int) ≥ 4294967296)))] w (by kernel_rfl) .nil ?_
  refine GoS.cond (decide (((x : Nat) : Int) ≥ 4294967296)) [.code (csub (cd Tryd.f36) [1,0,1,0]), .code (csub (cd Tryd.f36) [1,1])] [.code (csub (cd Tryd.f36) [1,0,1,1]), .code (csub (cd Tryd.f36) [1,1])] (by kernel_rfl) (fun h1 => ?_) (fun h1 => ?_)
  ·
    have h1p : ((x : Nat) : Int) ≥ 4294967296 := of_decide_eq_true h1
    have o2 : (binOp .shr 62 (.int .u64 ((x : Nat) : Int)) (.int .u64 32)).run Tryd.prog w = .ok (.int .u64 (((x / 4294967296) : Nat) : Int)) w := f_shr (by decide) (by rw [show min (Int.toNat 32) (IntKind.bits .u64) = 32 by decide]; exact (fdiv_pow _ 32 4294967296 (by decide) (by decide)).trans (by omega))
    refine GoS.run [0, 2] [.n, .n, .n, .h (.int .u64 (((x / 4294967296) : Nat) : Int)), .n, .n, .n, .n, .n] _ [.code (csub (cd Tryd.f36) [1,1])] [(0, .int .u64 (((x / 4294967296) : Nat) : Int)), (2, .int .i64 32)] w (by kernel_rfl) (.cons o2 .nil) ?_
    refine GoS.run [0, 2, 8] [.n, .n, .n, .n, .n, .n] _ [.code (csub (cd Tryd.f36) [1,1,0,1]), .code (csub (cd Tryd.f36) [1,1,1])] [(0, .int .u64 (((x / 4294967296) : Nat) : Int)), (2, .int .i64 32), (8, .bool (decide ((((x / 4294967296) : Nat) : Int) ≥ 65536)))] w (by kernel_rfl) .nil ?_
    refine GoS.cond (decide ((((x / 4294967296) : Nat) : Int) ≥ 65536)) [.code (csub (cd Tryd.f36) [1,1,0,1,0]), .code (csub (cd Tryd.f36) [1,1,1])] [.code (csub (cd Tryd.f36) [1,1,0,1,1]), .code (csub (cd Tryd.f36) [1,1,1])] (by kernel_rfl) (fun h3 => ?_) (fun h3 => ?_)
    ·
      have h3p : (((x / 4294967296) : Nat) : Int) ≥ 65536 := of_decide_eq_true h3
      have o4 : (binOp .shr 62 (.int .u64 (((x / 4294967296) : Nat) : Int)) (.int .u64 16)).run Tryd.prog w = .ok (.int .u64 ((((x / 4294967296) / 65536) : Nat) : Int)) w := f_shr (by decide) (by rw [show min (Int.toNat 16) (IntKind.bits .u64) = 16 by decide]; exact (fdiv_pow _ 16 65536 (by decide) (by decide)).trans (by omega))
      refine GoS.run [0, 2] [.n, .n, .n, .h (.int .u64 ((((x / 4294967296) / 65536) : Nat) : Int)), .n, .n, .n, .n, .n, .n, .n] _ [.code (csub (cd Tryd.f36) [1,1,1])] [(0, .int .u64 ((((x / 4294967296) / 65536) : Nat) : Int)), (2, .int .i64 48)] w (by kernel_rfl) (.cons o4 .nil) ?_
      refine GoS.run [0, 2, 14] [.n, .n, .n, .n, .n, .n] _ [.code (csub (cd Tryd.f36) [1,1,1,0,1]), .code (csub (cd Tryd.f36) [1,1,1,1])] [(0, .int .u64 ((((x / 4294967296) / 65536) : Nat) : Int)), (2, .int .i64 48), (14, .bool (decide (((((x / 4294967296) / 65536) : Nat) : Int) ≥ 256)))] w (by kernel_rfl) .nil ?_
      refine GoS.cond (decide (((((x / 4294967296) / 65536) : Nat) : Int) ≥ 256)) [.code (csub (cd Tryd.f36) [1,1,1,0,1,0]), .code (csub (cd Tryd.f36) [1,1,1,1])] [.code (csub (cd Tryd.f36) [1,1,1,0,1,1]), .code (csub (cd Tryd.f36) [1,1,1,1])] (by kernel_rfl) (fun h5 => ?_) (fun h5 => ?_)
      ·
        have h5p : ((((x / 4294967296) / 65536) : Nat) : Int) ≥ 256 := of_decide_eq_true h5
        have o6 : (binOp .shr 62 (.int .u64 ((((x / 4294967296) / 65536) : Nat) : Int)) (.int .u64 8)).run Tryd.prog w = .ok (.int .u64 (((((x / 4294967296) / 65536) / 256) : Nat) : Int)) w := f_shr (by decide) (by rw [show min (Int.toNat 8) (IntKind.bits .u64) = 8 by decide]; exact (fdiv_pow _ 8 256 (by decide) (by decide)).trans (by omega))
        refine GoS.run [0, 2] [.n, .n, .n, .h (.int .u64 (((((x / 4294967296) / 65536) / 256) : Nat) : Int)), .n, .n, .n, .n, .n, .n, .n] _ [.code (csub (cd Tryd.f36) [1,1,1,1])] [(0, .int .u64 (((((x / 4294967296) / 65536) / 256) : Nat) : Int)), (2, .int .i64 56)] w (by kernel_rfl) (.cons o6 .nil) ?_
        have o8 : (convert 62 5 (.int .u64 (((((x / 4294967296) / 65536) / 256) : Nat) : Int))).run Tryd.prog w = .ok (.int .u8 (((((x / 4294967296) / 65536) / 256) : Nat) : Int)) w := f_conv (u := .int .u64) (by kernel_rfl) (by kernel_rfl) (IntWalk.u8_in _ (by omega))
        have hb7 := bl_bd len8 (((x / 4294967296) / 65536) / 256)
        have o9 : (Instr.index 9 (.string (sb len8)) (.int .u8 (((((x / 4294967296) / 65536) / 256) : Nat) : Int))).run Tryd.prog w = .ok (.int .u8 (bl len8 (((x / 4294967296) / 65536) / 256))) w := f_index (((x / 4294967296) / 65536) / 256) (by kernel_rfl) (by omega) (by rw [len8_len]; omega)
        have o10 : (convert 5 3 (.int .u8 (bl len8 (((x / 4294967296) / 65536) / 256)))).run Tryd.prog w = .ok (.int .i64 (bl len8 (((x / 4294967296) / 65536) / 256))) w := f_conv (u := .int .u8) (by kernel_rfl) (by kernel_rfl) (IntWalk.i64_in _ (by omega))
        have o11 : (binOp .add 3 (.int .i64 56) (.int .i64 (bl len8 (((x / 4294967296) / 65536) / 256)))).run Tryd.prog w = .ok (.int .i64 (56 + (bl len8 (((x / 4294967296) / 65536) / 256)))) w := f_add (IntWalk.i64_in _ (by omega))
        refine GoS.run [2] [.n, .n, .n, .n, .h (.int .u8 (((((x / 4294967296) / 65536) / 256) : Nat) : Int)), .h (.int .u8 (bl len8 (((x / 4294967296) / 65536) / 256))), .h (.int .i64 (bl len8 (((x / 4294967296) / 65536) / 256))), .h (.int .i64 (56 + (bl len8 (((x / 4294967296) / 65536) / 256)))), .n, .n] _ [.code (csub (cd Tryd.f36) [1,1,1,1,1])] [(2, .int .i64 (56 + (bl len8 (((x / 4294967296) / 65536) / 256))))] w (by kernel_rfl) (.cons o8 (.cons o9 (.cons o10 (.cons o11 .nil)))) ?_
        refine GoS.ret (fn := Tryd.f36) (v := (.int .i64 (56 + (bl len8 (((x / 4294967296) / 65536) / 256))))) Tryd.func36 (by kernel_rfl) ?_
        rw [hR]
        have e0 := bitLen_shift x 32 (by omega)
        simp only [show (2:Nat) ^ 32 = 4294967296 by decide] at e0
        have e1 := bitLen_shift (x / 4294967296) 16 (by omega)
        simp only [show (2:Nat) ^ 16 = 65536 by decide] at e1
        have e2 := bitLen_shift ((x / 4294967296) / 65536) 8 (by omega)
        simp only [show (2:Nat) ^ 8 = 256 by decide] at e2
        have e9 := len8_get (i := (((x / 4294967296) / 65536) / 256)) (by omega)
        exact ⟨ret_int (by omega), rfl⟩
      ·
        have h5p : ¬ (((((x / 4294967296) / 65536) : Nat) : Int) ≥ 256) := of_decide_eq_false h5
        refine GoS.run [0, 2] [.n] _ [.code (csub (cd Tryd.f36) [1,1,1,1])] [(0, .int .u64 ((((x / 4294967296) / 65536) : Nat) : Int)), (2, .int .i64 48)] w (by kernel_rfl) .nil ?_
        have o13 : (convert 62 5 (.int .u64 ((((x / 4294967296) / 65536) : Nat) : Int))).run Tryd.prog w = .ok (.int .u8 ((((x / 4294967296) / 65536) : Nat) : Int)) w := f_conv (u := .int .u64) (by kernel_rfl) (by kernel_rfl) (IntWalk.u8_in _ (by omega))
        have hb12 := bl_bd len8 ((x / 4294967296) / 65536)
        have o14 : (Instr.index 9 (.string (sb len8)) (.int .u8 ((((x / 4294967296) / 65536) : Nat) : Int))).run Tryd.prog w = .ok (.int .u8 (bl len8 ((x / 4294967296) / 65536))) w := f_index ((x / 4294967296) / 65536) (by kernel_rfl) (by omega) (by rw [len8_len]; omega)
        have o15 : (convert 5 3 (.int .u8 (bl len8 ((x / 4294967296) / 65536)))).run Tryd.prog w = .ok (.int .i64 (bl len8 ((x / 4294967296) / 65536))) w := f_conv (u := .int .u8) (by kernel_rfl) (by kernel_rfl) (IntWalk.i64_in _ (by omega))
        have o16 : (binOp .add 3 (.int .i64 48) (.int .i64 (bl len8 ((x / 4294967296) / 65536)))).run Tryd.prog w = .ok (.int .i64 (48 + (bl len8 ((x / 4294967296) / 65536)))) w := f_add (IntWalk.i64_in _ (by omega))
        refine GoS.run [2] [.n, .n, .n, .n, .h (.int .u8 ((((x / 4294967296) / 65536) : Nat) : Int)), .h (.int .u8 (bl len8 ((x / 4294967296) / 65536))), .h (.int .i64 (bl len8 ((x / 4294967296) / 65536))), .h (.int .i64 (48 + (bl len8 ((x / 4294967296) / 65536)))), .n, .n] _ [.code (csub (cd Tryd.f36) [1,1,1,1,1])] [(2, .int .i64 (48 + (bl len8 ((x / 4294967296) / 65536))))] w (by kernel_rfl) (.cons o13 (.cons o14 (.cons o15 (.cons o16 .nil)))) ?_
        refine GoS.ret (fn := Tryd.f36) (v := (.int .i64 (48 + (bl len8 ((x / 4294967296) / 65536))))) Tryd.func36 (by kernel_rfl) ?_
        rw [hR]
        have e0 := bitLen_shift x 32 (by omega)
        simp only [show (2:Nat) ^ 32 = 4294967296 by decide] at e0
        have e1 := bitLen_shift (x / 4294967296) 16 (by omega)
        simp only [show (2:Nat) ^ 16 = 65536 by decide] at e1
        have e9 := len8_get (i := ((x / 4294967296) / 65536)) (by omega)
        exact ⟨ret_int (by omega), rfl⟩
    ·
      have h3p : ¬ ((((x / 4294967296) : Nat) : Int) ≥ 65536) := of_decide_eq_false h3
      refine GoS.run [0, 2] [.n] _ [.code (csub (cd Tryd.f36) [1,1,1])] [(0, .int .u64 (((x / 4294967296) : Nat) : Int)), (2, .int .i64 32)] w (by kernel_rfl) .nil ?_
      refine GoS.run [0, 2, 14] [.n, .n, .n, .n, .n, .n] _ [.code (csub (cd Tryd.f36) [1,1,1,0,1]), .code (csub (cd Tryd.f36) [1,1,1,1])] [(0, .int .u64 (((x / 4294967296) : Nat) : Int)), (2, .int .i64 32), (14, .bool (decide ((((x / 4294967296) : Nat) : Int) ≥ 256)))] w (by kernel_rfl) .nil ?_
      refine GoS.cond (decide ((((x / 4294967296) : Nat) : Int) ≥ 256)) [.code (csub (cd Tryd.f36) [1,1,1,0,1,0]), .code (csub (cd Tryd.f36) [1,1,1,1])] [.code (csub (cd Tryd.f36) [1,1,1,0,1,1]), .code (csub (cd Tryd.f36) [1,1,1,1])] (by kernel_rfl) (fun h17 => ?_) (fun h17 => ?_)
      ·
        have h17p : (((x / 4294967296) : Nat) : Int) ≥ 256 := of_decide_eq_true h17
        have o18 : (binOp .shr 62 (.int .u64 (((x / 4294967296) : Nat) : Int)) (.int .u64 8)).run Tryd.prog w = .ok (.int .u64 ((((x / 4294967296) / 256) : Nat) : Int)) w := f_shr (by decide) (by rw [show min (Int.toNat 8) (IntKind.bits .u64) = 8 by decide]; exact (fdiv_pow _ 8 256 (by decide) (by decide)).trans (by omega))
        refine GoS.run [0, 2] [.n, .n, .n, .h (.int .u64 ((((x / 4294967296) / 256) : Nat) : Int)), .n, .n, .n, .n, .n, .n, .n] _ [.code (csub (cd Tryd.f36) [1,1,1,1])] [(0, .int .u64 ((((x / 4294967296) / 256) : Nat) : Int)), (2, .int .i64 40)] w (by kernel_rfl) (.cons o18 .nil) ?_
        have o20 : (convert 62 5 (.int .u64 ((((x / 4294967296) / 256) : Nat) : Int))).run Tryd.prog w = .ok (.int .u8 ((((x / 4294967296) / 256) : Nat) : Int)) w := f_conv (u := .int .u64) (by kernel_rfl) (by kernel_rfl) (IntWalk.u8_in _ (by omega))
        have hb19 := bl_bd len8 ((x / 4294967296) / 256)
        have o21 : (Instr.index 9 (.string (sb len8)) (.int .u8 ((((x / 4294967296) / 256) : Nat) : Int))).run Tryd.prog w = .ok (.int .u8 (bl len8 ((x / 4294967296) / 256))) w := f_index ((x / 4294967296) / 256) (by kernel_rfl) (by omega) (by rw [len8_len]; omega)
        have o22 : (convert 5 3 (.int .u8 (bl len8 ((x / 4294967296) / 256)))).run Tryd.prog w = .ok (.int .i64 (bl len8 ((x / 4294967296) / 256))) w := f_conv (u := .int .u8) (by kernel_rfl) (by kernel_rfl) (IntWalk.i64_in _ (by omega))
        have o23 : (binOp .add 3 (.int .i64 40) (.int .i64 (bl len8 ((x / 4294967296) / 256)))).run Tryd.prog w = .ok (.int .i64 (40 + (bl len8 ((x / 4294967296) / 256)))) w := f_add (IntWalk.i64_in _ (by omega))
        refine GoS.run [2] [.n, .n, .n, .n, .h (.int .u8 ((((x / 4294967296) / 256) : Nat) : Int)), .h (.int .u8 (bl len8 ((x / 4294967296) / 256))), .h (.int .i64 (bl len8 ((x / 4294967296) / 256))), .h (.int .i64 (40 + (bl len8 ((x / 4294967296) / 256)))), .n, .n] _ [.code (csub (cd Tryd.f36) [1,1,1,1,1])] [(2, .int .i64 (40 + (bl len8 ((x / 4294967296) / 256))))] w (by kernel_rfl) (.cons o20 (.cons o21 (.cons o22 (.cons o23 .nil)))) ?_
        refine GoS.ret (fn := Tryd.f36) (v := (.int .i64 (40 + (bl len8 ((x / 4294967296) / 256))))) Tryd.func36 (by kernel_rfl) ?_
        rw [hR]
        have e0 := bitLen_shift x 32 (by omega)
        simp only [show (2:Nat) ^ 32 = 4294967296 by decide] at e0
        have e1 := bitLen_shift (x / 4294967296) 8 (by omega)
        simp only [show (2:Nat) ^ 8 = 256 by decide] at e1
        have e9 := len8_get (i := ((x / 4294967296) / 256)) (by omega)
        exact ⟨ret_int (by omega), rfl⟩
      ·
        have h17p : ¬ ((((x / 4294967296) : Nat) : Int) ≥ 256) := of_decide_eq_false h17
        refine GoS.run [0, 2] [.n] _ [.code (csub (cd Tryd.f36) [1,1,1,1])] [(0, .int .u64 (((x / 4294967296) : Nat) : Int)), (2, .int .i64 32)] w (by kernel_rfl) .nil ?_
        have o25 : (convert 62 5 (.int .u64 (((x / 4294967296) : Nat) : Int))).run Tryd.prog w = .ok (.int .u8 (((x / 4294967296) : Nat) : Int)) w := f_conv (u := .int .u64) (by kernel_rfl) (by kernel_rfl) (IntWalk.u8_in _ (by omega))
        have hb24 := bl_bd len8 (x / 4294967296)
        have o26 : (Instr.index 9 (.string (sb len8)) (.int .u8 (((x / 4294967296) : Nat) : Int))).run Tryd.prog w = .ok (.int .u8 (bl len8 (x / 4294967296))) w := f_index (x / 4294967296) (by kernel_rfl) (by omega) (by rw [len8_len]; omega)
        have o27 : (convert 5 3 (.int .u8 (bl len8 (x / 4294967296)))).run Tryd.prog w = .ok (.int .i64 (bl len8 (x / 4294967296))) w := f_conv (u := .int .u8) (by kernel_rfl) (by kernel_rfl) (IntWalk.i64_in _ (by omega))
        have o28 : (binOp .add 3 (.int .i64 32) (.int .i64 (bl len8 (x / 4294967296)))).run Tryd.prog w = .ok (.int .i64 (32 + (bl len8 (x / 4294967296)))) w := f_add (IntWalk.i64_in _ (by omega))
        refine GoS.run [2] [.n, .n, .n, .n, .h (.int .u8 (((x / 4294967296) : Nat) : Int)), .h (.int .u8 (bl len8 (x / 4294967296))), .h (.int .i64 (bl len8 (x / 4294967296))), .h (.int .i64 (32 + (bl len8 (x / 4294967296)))), .n, .n] _ [.code (csub (cd Tryd.f36) [1,1,1,1,1])] [(2, .int .i64 (32 + (bl len8 (x / 4294967296))))] w (by kernel_rfl) (.cons o25 (.cons o26 (.cons o27 (.cons o28 .nil)))) ?_
        refine GoS.ret (fn := Tryd.f36) (v := (.int .i64 (32 + (bl len8 (x / 4294967296))))) Tryd.func36 (by kernel_rfl) ?_
        rw [hR]
        have e0 := bitLen_shift x 32 (by omega)
        simp only [show (2:Nat) ^ 32 = 4294967296 by decide] at e0
        have e9 := len8_get (i := (x / 4294967296)) (by omega)
        exact ⟨ret_int (by omega), rfl⟩
  ·
    have h1p : ¬ (((x : Nat) : Int) ≥ 4294967296) := of_decide_eq_false h1
    refine GoS.run [0, 2] [.n] _ [.code (csub (cd Tryd.f36) [1,1])] [(0, .int .u64 ((x : Nat) : Int)), (2, .int .i64 0)] w (by kernel_rfl) .nil ?_
    refine GoS.run [0, 2, 8] [.n, .n, .n, .n, .n, .n] _ [.code (csub (cd Tryd.f36) [1,1,0,1]), .code (csub (cd Tryd.f36) [1,1,1])] [(0, .int .u64 ((x : Nat) : Int)), (2, .int .i64 0), (8, .bool (decide (((x : Nat) : Int) ≥ 65536)))] w (by kernel_rfl) .nil ?_
    refine GoS.cond (decide (((x : Nat) : Int) ≥ 65536)) [.code (csub (cd Tryd.f36) [1,1,0,1,0]), .code (csub (cd Tryd.f36) [1,1,1])] [.code (csub (cd Tryd.f36) [1,1,0,1,1]), .code (csub (cd Tryd.f36) [1,1,1])] (by kernel_rfl) (fun h29 => ?_) (fun h29 => ?_)
    ·
      have h29p : ((x : Nat) : Int) ≥ 65536 := of_decide_eq_true h29
      have o30 : (binOp .shr 62 (.int .u64 ((x : Nat) : Int)) (.int .u64 16)).run Tryd.prog w = .ok (.int .u64 (((x / 65536) : Nat) : Int)) w := f_shr (by decide) (by rw [show min (Int.toNat 16) (IntKind.bits .u64) = 16 by decide]; exact (fdiv_pow _ 16 65536 (by decide) (by decide)).trans (by omega))
      refine GoS.run [0, 2] [.n, .n, .n, .h (.int .u64 (((x / 65536) : Nat) : Int)), .n, .n, .n, .n, .n, .n, .n] _ [.code (csub (cd Tryd.f36) [1,1,1])] [(0, .int .u64 (((x / 65536) : Nat) : Int)), (2, .int .i64 16)] w (by kernel_rfl) (.cons o30 .nil) ?_
      refine GoS.run [0, 2, 14] [.n, .n, .n, .n, .n, .n] _ [.code (csub (cd Tryd.f36) [1,1,1,0,1]), .code (csub (cd Tryd.f36) [1,1,1,1])] [(0, .int .u64 (((x / 65536) : Nat) : Int)), (2, .int .i64 16), (14, .bool (decide ((((x / 65536) : Nat) : Int) ≥ 256)))] w (by kernel_rfl) .nil ?_
      refine GoS.cond (decide ((((x / 65536) : Nat) : Int) ≥ 256)) [.code (csub (cd Tryd.f36) [1,1,1,0,1,0]), .code (csub (cd Tryd.f36) [1,1,1,1])] [.code (csub (cd Tryd.f36) [1,1,1,0,1,1]), .code (csub (cd Tryd.f36) [1,1,1,1])] (by kernel_rfl) (fun h31 => ?_) (fun h31 => ?_)
      ·
        have h31p : (((x / 65536) : Nat) : Int) ≥ 256 := of_decide_eq_true h31
        have o32 : (binOp .shr 62 (.int .u64 (((x / 65536) : Nat) : Int)) (.int .u64 8)).run Tryd.prog w = .ok (.int .u64 ((((x / 65536) / 256) : Nat) : Int)) w := f_shr (by decide) (by rw [show min (Int.toNat 8) (IntKind.bits .u64) = 8 by decide]; exact (fdiv_pow _ 8 256 (by decide) (by decide)).trans (by omega))
        refine GoS.run [0, 2] [.n, .n, .n, .h (.int .u64 ((((x / 65536) / 256) : Nat) : Int)), .n, .n, .n, .n, .n, .n, .n] _ [.code (csub (cd Tryd.f36) [1,1,1,1])] [(0, .int .u64 ((((x / 65536) / 256) : Nat) : Int)), (2, .int .i64 24)] w (by kernel_rfl) (.cons o32 .nil) ?_
        have o34 : (convert 62 5 (.int .u64 ((((x / 65536) / 256) : Nat) : Int))).run Tryd.prog w = .ok (.int .u8 ((((x / 65536) / 256) : Nat) : Int)) w := f_conv (u := .int .u64) (by kernel_rfl) (by kernel_rfl) (IntWalk.u8_in _ (by omega))
        have hb33 := bl_bd len8 ((x / 65536) / 256)
        have o35 : (Instr.index 9 (.string (sb len8)) (.int .u8 ((((x / 65536) / 256) : Nat) : Int))).run Tryd.prog w = .ok (.int .u8 (bl len8 ((x / 65536) / 256))) w := f_index ((x / 65536) / 256) (by kernel_rfl) (by omega) (by rw [len8_len]; omega)
        have o36 : (convert 5 3 (.int .u8 (bl len8 ((x / 65536) / 256)))).run Tryd.prog w = .ok (.int .i64 (bl len8 ((x / 65536) / 256))) w := f_conv (u := .int .u8) (by kernel_rfl) (by kernel_rfl) (IntWalk.i64_in _ (by omega))
        have o37 : (binOp .add 3 (.int .i64 24) (.int .i64 (bl len8 ((x / 65536) / 256)))).run Tryd.prog w = .ok (.int .i64 (24 + (bl len8 ((x / 65536) / 256)))) w := f_add (IntWalk.i64_in _ (by omega))
        refine GoS.run [2] [.n, .n, .n, .n, .h (.int .u8 ((((x / 65536) / 256) : Nat) : Int)), .h (.int .u8 (bl len8 ((x / 65536) / 256))), .h (.int .i64 (bl len8 ((x / 65536) / 256))), .h (.int .i64 (24 + (bl len8 ((x / 65536) / 256)))), .n, .n] _ [.code (csub (cd Tryd.f36) [1,1,1,1,1])] [(2, .int .i64 (24 + (bl len8 ((x / 65536) / 256))))] w (by kernel_rfl) (.cons o34 (.cons o35 (.cons o36 (.cons o37 .nil)))) ?_
        refine GoS.ret (fn := Tryd.f36) (v := (.int .i64 (24 + (bl len8 ((x / 65536) / 256))))) Tryd.func36 (by kernel_rfl) ?_
        rw [hR]
        have e0 := bitLen_shift x 16 (by omega)
        simp only [show (2:Nat) ^ 16 = 65536 by decide] at e0
        have e1 := bitLen_shift (x / 65536) 8 (by omega)
        simp only [show (2:Nat) ^ 8 = 256 by decide] at e1
        have e9 := len8_get (i := ((x / 65536) / 256)) (by omega)
        exact ⟨ret_int (by omega), rfl⟩
      ·
        have h31p : ¬ ((((x / 65536) : Nat) : Int) ≥ 256) := of_decide_eq_false h31
        refine GoS.run [0, 2] [.n] _ [.code (csub (cd Tryd.f36) [1,1,1,1])] [(0, .int .u64 (((x / 65536) : Nat) : Int)), (2, .int .i64 16)] w (by kernel_rfl) .nil ?_
        have o39 : (convert 62 5 (.int .u64 (((x / 65536) : Nat) : Int))).run Tryd.prog w = .ok (.int .u8 (((x / 65536) : Nat) : Int)) w := f_conv (u := .int .u64) (by kernel_rfl) (by kernel_rfl) (IntWalk.u8_in _ (by omega))
        have hb38 := bl_bd len8 (x / 65536)
        have o40 : (Instr.index 9 (.string (sb len8)) (.int .u8 (((x / 65536) : Nat) : Int))).run Tryd.prog w = .ok (.int .u8 (bl len8 (x / 65536))) w := f_index (x / 65536) (by kernel_rfl) (by omega) (by rw [len8_len]; omega)
        have o41 : (convert 5 3 (.int .u8 (bl len8 (x / 65536)))).run Tryd.prog w = .ok (.int .i64 (bl len8 (x / 65536))) w := f_conv (u := .int .u8) (by kernel_rfl) (by kernel_rfl) (IntWalk.i64_in _ (by omega))
        have o42 : (binOp .add 3 (.int .i64 16) (.int .i64 (bl len8 (x / 65536)))).run Tryd.prog w = .ok (.int .i64 (16 + (bl len8 (x / 65536)))) w := f_add (IntWalk.i64_in _ (by omega))
        refine GoS.run [2] [.n, .n, .n, .n, .h (.int .u8 (((x / 65536) : Nat) : Int)), .h (.int .u8 (bl len8 (x / 65536))), .h (.int .i64 (bl len8 (x / 65536))), .h (.int .i64 (16 + (bl len8 (x / 65536)))), .n, .n] _ [.code (csub (cd Tryd.f36) [1,1,1,1,1])] [(2, .int .i64 (16 + (bl len8 (x / 65536))))] w (by kernel_rfl) (.cons o39 (.cons o40 (.cons o41 (.cons o42 .nil)))) ?_
        refine GoS.ret (fn := Tryd.f36) (v := (.int .i64 (16 + (bl len8 (x / 65536))))) Tryd.func36 (by kernel_rfl) ?_
        rw [hR]
        have e0 := bitLen_shift x 16 (by omega)
        simp only [show (2:Nat) ^ 16 = 65536 by decide] at e0
        have e9 := len8_get (i := (x / 65536)) (by omega)
        exact ⟨ret_int (by omega), rfl⟩
    ·
      have h29p : ¬ (((x : Nat) : Int) ≥ 65536) := of_decide_eq_false h29
      refine GoS.run [0, 2] [.n] _ [.code (csub (cd Tryd.f36) [1,1,1])] [(0, .int .u64 ((x : Nat) : Int)), (2, .int .i64 0)] w (by kernel_rfl) .nil ?_
      refine GoS.run [0, 2, 14] [.n, .n, .n, .n, .n, .n] _ [.code (csub (cd Tryd.f36) [1,1,1,0,1]), .code (csub (cd Tryd.f36) [1,1,1,1])] [(0, .int .u64 ((x : Nat) : Int)), (2, .int .i64 0), (14, .bool (decide (((x : Nat) : Int) ≥ 256)))] w (by kernel_rfl) .nil ?_
      refine GoS.cond (decide (((x : Nat) : Int) ≥ 256)) [.code (csub (cd Tryd.f36) [1,1,1,0,1,0]), .code (csub (cd Tryd.f36) [1,1,1,1])] [.code (csub (cd Tryd.f36) [1,1,1,0,1,1]), .code (csub (cd Tryd.f36) [1,1,1,1])] (by kernel_rfl) (fun h43 => ?_) (fun h43 => ?_)
      ·
        have h43p : ((x : Nat) : Int) ≥ 256 := of_decide_eq_true h43
        have o44 : (binOp .shr 62 (.int .u64 ((x : Nat) : Int)) (.int .u64 8)).run Tryd.prog w = .ok (.int .u64 (((x / 256) : Nat) : Int)) w := f_shr (by decide) (by rw [show min (Int.toNat 8) (IntKind.bits .u64) = 8 by decide]; exact (fdiv_pow _ 8 256 (by decide) (by decide)).trans (by omega))
        refine GoS.run [0, 2] [.n, .n, .n, .h (.int .u64 (((x / 256) : Nat) : Int)), .n, .n, .n, .n, .n, .n, .n] _ [.code (csub (cd Tryd.f36) [1,1,1,1])] [(0, .int .u64 (((x / 256) : Nat) : Int)), (2, .int .i64 8)] w (by kernel_rfl) (.cons o44 .nil) ?_
        have o46 : (convert 62 5 (.int .u64 (((x / 256) : Nat) : Int))).run Tryd.prog w = .ok (.int .u8 (((x / 256) : Nat) : Int)) w := f_conv (u := .int .u64) (by kernel_rfl) (by kernel_rfl) (IntWalk.u8_in _ (by omega))
        have hb45 := bl_bd len8 (x / 256)
        have o47 : (Instr.index 9 (.string (sb len8)) (.int .u8 (((x / 256) : Nat) : Int))).run Tryd.prog w = .ok (.int .u8 (bl len8 (x / 256))) w := f_index (x / 256) (by kernel_rfl) (by omega) (by rw [len8_len]; omega)
        have o48 : (convert 5 3 (.int .u8 (bl len8 (x / 256)))).run Tryd.prog w = .ok (.int .i64 (bl len8 (x / 256))) w := f_conv (u := .int .u8) (by kernel_rfl) (by kernel_rfl) (IntWalk.i64_in _ (by omega))
        have o49 : (binOp .add 3 (.int .i64 8) (.int .i64 (bl len8 (x / 256)))).run Tryd.prog w = .ok (.int .i64 (8 + (bl len8 (x / 256)))) w := f_add (IntWalk.i64_in _ (by omega))
        refine GoS.run [2] [.n, .n, .n, .n, .h (.int .u8 (((x / 256) : Nat) : Int)), .h (.int .u8 (bl len8 (x / 256))), .h (.int .i64 (bl len8 (x / 256))), .h (.int .i64 (8 + (bl len8 (x / 256)))), .n, .n] _ [.code (csub (cd Tryd.f36) [1,1,1,1,1])] [(2, .int .i64 (8 + (bl len8 (x / 256))))] w (by kernel_rfl) (.cons o46 (.cons o47 (.cons o48 (.cons o49 .nil)))) ?_
        refine GoS.ret (fn := Tryd.f36) (v := (.int .i64 (8 + (bl len8 (x / 256))))) Tryd.func36 (by kernel_rfl) ?_
        rw [hR]
        have e0 := bitLen_shift x 8 (by omega)
        simp only [show (2:Nat) ^ 8 = 256 by decide] at e0
        have e9 := len8_get (i := (x / 256)) (by omega)
        exact ⟨ret_int (by omega), rfl⟩
      ·
        have h43p : ¬ (((x : Nat) : Int) ≥ 256) := of_decide_eq_false h43
        refine GoS.run [0, 2] [.n] _ [.code (csub (cd Tryd.f36) [1,1,1,1])] [(0, .int .u64 ((x : Nat) : Int)), (2, .int .i64 0)] w (by kernel_rfl) .nil ?_
        have o51 : (convert 62 5 (.int .u64 ((x : Nat) : Int))).run Tryd.prog w = .ok (.int .u8 ((x : Nat) : Int)) w := f_conv (u := .int .u64) (by kernel_rfl) (by kernel_rfl) (IntWalk.u8_in _ (by omega))
        have hb50 := bl_bd len8 x
        have o52 : (Instr.index 9 (.string (sb len8)) (.int .u8 ((x : Nat) : Int))).run Tryd.prog w = .ok (.int .u8 (bl len8 x)) w := f_index x (by kernel_rfl) (by omega) (by rw [len8_len]; omega)
        have o53 : (convert 5 3 (.int .u8 (bl len8 x))).run Tryd.prog w = .ok (.int .i64 (bl len8 x)) w := f_conv (u := .int .u8) (by kernel_rfl) (by kernel_rfl) (IntWalk.i64_in _ (by omega))
        have o54 : (binOp .add 3 (.int .i64 0) (.int .i64 (bl len8 x))).run Tryd.prog w = .ok (.int .i64 (bl len8 x)) w := f_add (by rw [show 0 + (bl len8 x) = (bl len8 x) by omega]; exact IntWalk.i64_in _ (by omega))
        refine GoS.run [2] [.n, .n, .n, .n, .h (.int .u8 ((x : Nat) : Int)), .h (.int .u8 (bl len8 x)), .h (.int .i64 (bl len8 x)), .h (.int .i64 (bl len8 x)), .n, .n] _ [.code (csub (cd Tryd.f36) [1,1,1,1,1])] [(2, .int .i64 (bl len8 x))] w (by kernel_rfl) (.cons o51 (.cons o52 (.cons o53 (.cons o54 .nil)))) ?_
        refine GoS.ret (fn := Tryd.f36) (v := (.int .i64 (bl len8 x))) Tryd.func36 (by kernel_rfl) ?_
        rw [hR]
        have e9 := len8_get (i := x) (by omega)
        exact ⟨ret_int (by omega), rfl⟩

set_option maxHeartbeats 400000 in
theorem size_c (x : Nat) (hx : x < 18446744073709551616) (w : World) :
    Calls Tryd.prog 31 #[.int .u64 ((x : Nat) : Int)] w (fun e w' => e = .returned (.int .i64 ((sz x : Nat) : Int)) ∧ w = w') := by
  obtain ⟨R, hR⟩ : ∃ R : Ending → World → Prop, R = (fun e w' => e = .returned (.int .i64 ((sz x : Nat) : Int)) ∧ w = w') := ⟨_, rfl⟩
  rw [← hR]
  refine GoS.enter (n := 8) Tryd.func31 (by kernel_rfl) rfl [(0, .int .u64 ((x : Nat) : Int))] (by kernel_rfl) (by kernel_rfl) ?_
  refine GoS.run [3] [.n, .n, .n, .n, .n, .n, .n] _ [.inRegion (cops (csub (cd Tryd.f31) [1,0])) [1,2,3,4,5], .code (csub (cd Tryd.f31) [1,1])] [(3, .int .u64 ((x : Nat) : Int))] w (by kernel_rfl) .nil ?_
  have hbl := bitLen_sz x (by omega)
  refine GoS.call [] 36 #[.int .u64 ((x : Nat) : Int)] (some 4) [.inRegion (cops (csub (cd Tryd.f31) [1,0])) [2,3,4,5], .code (csub (cd Tryd.f31) [1,1])] [] (by kernel_rfl) (len64_c x (by omega) w) ?_
  rintro _ _ ⟨rfl, rfl⟩
  refine ⟨_, rfl, ?_⟩
  have o1 : (binOp .add 3 (.int .i64 (((bitLen x) : Nat) : Int)) (.int .i64 7)).run Tryd.prog w = .ok (.int .i64 ((((bitLen x) + 7) : Nat) : Int)) w := f_add (by rw [show (((bitLen x) : Nat) : Int) + 7 = ((((bitLen x) + 7) : Nat) : Int) by omega]; exact IntWalk.i64_in _ (by omega))
  have o2 : (binOp .quo 3 (.int .i64 ((((bitLen x) + 7) : Nat) : Int)) (.int .i64 8)).run Tryd.prog w = .ok (.int .i64 (((((bitLen x) + 7) / 8) : Nat) : Int)) w := f_quo (by decide) ((IntWalk.i64_quo _ _ (by omega)).trans (by omega))
  refine GoS.run [2] [.h (.int .i64 ((((bitLen x) + 7) : Nat) : Int)), .h (.int .i64 (((((bitLen x) + 7) / 8) : Nat) : Int)), .n, .n, .n] _ [.code (csub (cd Tryd.f31) [1,1])] [(2, .int .i64 (if 1 < (((((bitLen x) + 7) / 8) : Nat) : Int) then (((((bitLen x) + 7) / 8) : Nat) : Int) else 1))] w (by kernel_rfl) (.cons o1 (.cons o2 .nil)) ?_
  refine GoS.ret (fn := Tryd.f31) (v := (.int .i64 (if 1 < (((((bitLen x) + 7) / 8) : Nat) : Int) then (((((bitLen x) + 7) / 8) : Nat) : Int) else 1))) Tryd.func31 (by kernel_rfl) ?_
  rw [hR]
  exact ⟨ret_int (by rw [hbl.2]; (repeat' split) <;> omega), rfl⟩


end Go.Proofs.YtmjkbmlcclmdkaaDoor
