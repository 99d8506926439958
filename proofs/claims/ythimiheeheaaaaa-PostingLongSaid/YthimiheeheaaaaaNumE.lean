/-
  The walks of the reference: ReadNum, ReadCount.
-/
import Derived.Test.YthimiheeheaaaaaNumD
namespace Go.Proofs.Ythimiheeheaaaaa
open Go Go.Gw Go.NumP Go.RowKit
set_option linter.unusedVariables false
set_option linter.unusedSimpArgs false


set_option maxHeartbeats 400000 in
theorem rreadnum_L (s : List UInt8) {w0 : World} (hne : ¬ (s = [])) (ha1 : ¬ (16 ≤ bl s 0 ∧ bl s 0 < 240)) (ha2 : ¬ (bl s 0 < 8 ∨ 247 < bl s 0)) (k : Nat) (f : Int) (hk : k = headK (bl s 0)) (hf : f = headF (bl s 0)) (hl : k < s.length) (R : Ending → World → Prop) (hR : R = (fun e w' => e = .returned (.tuple #[.int .i64 (numP s).1, .int .i64 (numP s).2.1, .int .i64 (numP s).2.2]) ∧ Mem [] w0 w' [])) : ∀ (N : Nat) (i : Nat) (w : World) (hi : 1 ≤ i) (hik : i ≤ k + 1) (hM : Mem [] w0 w []) (hN : k + 1 - i < N), GoS Try.prog 48 R 67 [.code (csub (cd Try.f48) [1,1,1,1,1,1,1,0,1,0,0]), .inLoop (csub (cd Try.f48) [1,1,1,1,1,1,1,0,1,0,0]), .inBlock 0, .code (csub (cd Try.f48) [1,1,1,1,1,1,1,1])] [(0, .string (sb s)), (5, .int .i64 ((k : Nat) : Int)), (6, .int .u64 (((rdx f s (i - 1)) : Nat) : Int)), (7, .int .i64 ((i : Nat) : Int))] w := by
  intro N
  induction N with
  | zero => intro i w hi hik hM hN; exact absurd hN (Nat.not_lt_zero _)
  | succ N ih =>
    intro i w hi hik hM hN
    have hk0 := headK_bd ha1 ha2
    have hfb : (f = 0 ∧ 16 ≤ bl s 0) ∨ (f = 255 ∧ bl s 0 < 16) := by (rw [hf]; unfold headF; split <;> omega)
    have hF : f = 0 ∨ f = 255 := by omega
    have hx7 : i ≤ 8 → rdx f s (i - 1) < 72057594037927936 := fun h => rdx_lt7 f s (i - 1) (by omega)
    have hx8 := rdx_lt8 f s (i - 1) (by omega)
    have hfl := flip_bd (f := f) (bl_bd s i)
    have hb0 := bl_bd s 0
    refine GoS.run [0, 5, 6, 7, 30] [.n, .n, .n, .n, .n, .n, .n] _ [.code (csub (cd Try.f48) [1,1,1,1,1,1,1,0,1,0,0,0,1]), .code (csub (cd Try.f48) [1,1,1,1,1,1,1,0,1,0,0,1]), .inLoop (csub (cd Try.f48) [1,1,1,1,1,1,1,0,1,0,0]), .inBlock 0, .code (csub (cd Try.f48) [1,1,1,1,1,1,1,1])] [(0, .string (sb s)), (5, .int .i64 ((k : Nat) : Int)), (6, .int .u64 (((rdx f s (i - 1)) : Nat) : Int)), (7, .int .i64 ((i : Nat) : Int)), (30, .bool (decide (((i : Nat) : Int) ≤ ((k : Nat) : Int))))] w (by kernel_rfl) .nil ?_
    refine GoS.cond (decide (((i : Nat) : Int) ≤ ((k : Nat) : Int))) [.code (csub (cd Try.f48) [1,1,1,1,1,1,1,0,1,0,0,0,1,0]), .code (csub (cd Try.f48) [1,1,1,1,1,1,1,0,1,0,0,1]), .inLoop (csub (cd Try.f48) [1,1,1,1,1,1,1,0,1,0,0]), .inBlock 0, .code (csub (cd Try.f48) [1,1,1,1,1,1,1,1])] [.code (csub (cd Try.f48) [1,1,1,1,1,1,1,0,1,0,0,0,1,1]), .code (csub (cd Try.f48) [1,1,1,1,1,1,1,0,1,0,0,1]), .inLoop (csub (cd Try.f48) [1,1,1,1,1,1,1,0,1,0,0]), .inBlock 0, .code (csub (cd Try.f48) [1,1,1,1,1,1,1,1])] (by kernel_rfl) (fun h1 => ?_) (fun h1 => ?_)
    ·
      have h1p : ((i : Nat) : Int) ≤ ((k : Nat) : Int) := of_decide_eq_true h1
      refine GoS.run [0, 5, 6, 7] [.n] _ [.code (csub (cd Try.f48) [1,1,1,1,1,1,1,0,1,0,0,1]), .inLoop (csub (cd Try.f48) [1,1,1,1,1,1,1,0,1,0,0]), .inBlock 0, .code (csub (cd Try.f48) [1,1,1,1,1,1,1,1])] [(0, .string (sb s)), (5, .int .i64 ((k : Nat) : Int)), (6, .int .u64 (((rdx f s (i - 1)) : Nat) : Int)), (7, .int .i64 ((i : Nat) : Int))] w (by kernel_rfl) .nil ?_
      have hb20 := bl_bd s i
      have o22 : (Instr.index 9 (.string (sb s)) (.int .i64 ((i : Nat) : Int))).run Try.prog w = .ok (.int .u8 (bl s i)) w := f_index i (by kernel_rfl) (by omega) (by first | omega | (rw [List.length_take]; omega))
      have o23 : (convert 5 81 (.int .u8 (bl s i))).run Try.prog w = .ok (.int .u64 (((Int.toNat (bl s i)) : Nat) : Int)) w := f_conv (u := .int .u8) (by kernel_rfl) (by kernel_rfl) ((IntWalk.u64_in _ (by omega)).trans (by omega))
      have hb21 := bl_bd s 0
      have o24 : (Instr.index 9 (.string (sb s)) (.int .i64 0)).run Try.prog w = .ok (.int .u8 (bl s 0)) w := f_index 0 (by kernel_rfl) (by omega) (by first | omega | (rw [List.length_take]; omega))
      refine GoS.run [0, 5, 6, 7, 8, 39] [.n, .n, .n, .n, .n, .n, .h (.int .u8 (bl s i)), .h (.int .u64 (((Int.toNat (bl s i)) : Nat) : Int)), .n, .n, .n, .n, .n, .n, .h (.int .u8 (bl s 0)), .n, .n] _ [.code (csub (cd Try.f48) [1,1,1,1,1,1,1,0,1,0,0,1,0,0,1,0,1]), .code (csub (cd Try.f48) [1,1,1,1,1,1,1,0,1,0,0,1,0,0,1,1]), .inBlock 1, .code (csub (cd Try.f48) [1,1,1,1,1,1,1,0,1,0,0,1,1]), .inLoop (csub (cd Try.f48) [1,1,1,1,1,1,1,0,1,0,0]), .inBlock 0, .code (csub (cd Try.f48) [1,1,1,1,1,1,1,1])] [(0, .string (sb s)), (5, .int .i64 ((k : Nat) : Int)), (6, .int .u64 (((rdx f s (i - 1)) : Nat) : Int)), (7, .int .i64 ((i : Nat) : Int)), (8, .int .u64 (((Int.toNat (bl s i)) : Nat) : Int)), (39, .bool (decide ((bl s 0) < 16)))] w (by kernel_rfl) (.cons o22 (.cons o23 (.cons o24 .nil))) ?_
      refine GoS.cond (decide ((bl s 0) < 16)) [.code (csub (cd Try.f48) [1,1,1,1,1,1,1,0,1,0,0,1,0,0,1,0,1,0]), .code (csub (cd Try.f48) [1,1,1,1,1,1,1,0,1,0,0,1,0,0,1,1]), .inBlock 1, .code (csub (cd Try.f48) [1,1,1,1,1,1,1,0,1,0,0,1,1]), .inLoop (csub (cd Try.f48) [1,1,1,1,1,1,1,0,1,0,0]), .inBlock 0, .code (csub (cd Try.f48) [1,1,1,1,1,1,1,1])] [.code (csub (cd Try.f48) [1,1,1,1,1,1,1,0,1,0,0,1,0,0,1,0,1,1]), .code (csub (cd Try.f48) [1,1,1,1,1,1,1,0,1,0,0,1,0,0,1,1]), .inBlock 1, .code (csub (cd Try.f48) [1,1,1,1,1,1,1,0,1,0,0,1,1]), .inLoop (csub (cd Try.f48) [1,1,1,1,1,1,1,0,1,0,0]), .inBlock 0, .code (csub (cd Try.f48) [1,1,1,1,1,1,1,1])] (by kernel_rfl) (fun h25 => ?_) (fun h25 => ?_)
      ·
        have h25p : (bl s 0) < 16 := of_decide_eq_true h25
        have o26 : (binOp .sub 81 (.int .u64 255) (.int .u64 (((Int.toNat (bl s i)) : Nat) : Int))).run Try.prog w = .ok (.int .u64 (255 - (((Int.toNat (bl s i)) : Nat) : Int))) w := f_sub (IntWalk.u64_in _ (by omega))
        refine GoS.run [0, 5, 6, 7, 8] [.n, .n, .h (.int .u64 (255 - (((Int.toNat (bl s i)) : Nat) : Int))), .n, .n] _ [.code (csub (cd Try.f48) [1,1,1,1,1,1,1,0,1,0,0,1,0,0,1,1]), .inBlock 1, .code (csub (cd Try.f48) [1,1,1,1,1,1,1,0,1,0,0,1,1]), .inLoop (csub (cd Try.f48) [1,1,1,1,1,1,1,0,1,0,0]), .inBlock 0, .code (csub (cd Try.f48) [1,1,1,1,1,1,1,1])] [(0, .string (sb s)), (5, .int .i64 ((k : Nat) : Int)), (6, .int .u64 (((rdx f s (i - 1)) : Nat) : Int)), (7, .int .i64 ((i : Nat) : Int)), (8, .int .u64 (255 - (((Int.toNat (bl s i)) : Nat) : Int)))] w (by kernel_rfl) (.cons o26 .nil) ?_
        have o27 : (binOp .mul 81 (.int .u64 256) (.int .u64 (((rdx f s (i - 1)) : Nat) : Int))).run Try.prog w = .ok (.int .u64 (((256 * (rdx f s (i - 1))) : Nat) : Int)) w := f_mul (by rw [show 256 * (((rdx f s (i - 1)) : Nat) : Int) = (((256 * (rdx f s (i - 1))) : Nat) : Int) by omega]; exact IntWalk.u64_in _ (by omega))
        have o28 : (binOp .add 81 (.int .u64 (((256 * (rdx f s (i - 1))) : Nat) : Int)) (.int .u64 (255 - (((Int.toNat (bl s i)) : Nat) : Int)))).run Try.prog w = .ok (.int .u64 ((((256 * (rdx f s (i - 1))) : Nat) : Int) + (255 - (((Int.toNat (bl s i)) : Nat) : Int)))) w := f_add (IntWalk.u64_in _ (by omega))
        have o29 : (binOp .add 3 (.int .i64 ((i : Nat) : Int)) (.int .i64 1)).run Try.prog w = .ok (.int .i64 (((i + 1) : Nat) : Int)) w := f_add (by rw [show ((i : Nat) : Int) + 1 = (((i + 1) : Nat) : Int) by omega]; exact IntWalk.i64_in _ (by omega))
        refine GoS.run [0, 5, 6, 7] [.n, .n, .h (.int .u64 (((256 * (rdx f s (i - 1))) : Nat) : Int)), .n, .h (.int .u64 ((((256 * (rdx f s (i - 1))) : Nat) : Int) + (255 - (((Int.toNat (bl s i)) : Nat) : Int)))), .n, .n, .n, .n, .n, .h (.int .i64 (((i + 1) : Nat) : Int)), .n, .n, .n] _ [.code (csub (cd Try.f48) [1,1,1,1,1,1,1,0,1,0,0]), .inLoop (csub (cd Try.f48) [1,1,1,1,1,1,1,0,1,0,0]), .inBlock 0, .code (csub (cd Try.f48) [1,1,1,1,1,1,1,1])] [(0, .string (sb s)), (5, .int .i64 ((k : Nat) : Int)), (6, .int .u64 ((((256 * (rdx f s (i - 1))) : Nat) : Int) + (255 - (((Int.toNat (bl s i)) : Nat) : Int)))), (7, .int .i64 (((i + 1) : Nat) : Int))] w (by kernel_rfl) (.cons o27 (.cons o28 (.cons o29 .nil))) ?_
        have e : ((((256 * (rdx f s (i - 1))) : Nat) : Int) + (255 - (((Int.toNat (bl s i)) : Nat) : Int))) = ((rdx f s (i + 1 - 1) : Nat) : Int) := by
          rw [← rdx_step (f := f) (s := s) hi]; unfold flipI; split <;> omega
        exact GoS.cast (by rw [e]) (ih (i + 1) _ (by omega) (by omega) hM (by omega))
      ·
        have h25p : ¬ ((bl s 0) < 16) := of_decide_eq_false h25
        refine GoS.run [0, 5, 6, 7, 8] [.n] _ [.code (csub (cd Try.f48) [1,1,1,1,1,1,1,0,1,0,0,1,0,0,1,1]), .inBlock 1, .code (csub (cd Try.f48) [1,1,1,1,1,1,1,0,1,0,0,1,1]), .inLoop (csub (cd Try.f48) [1,1,1,1,1,1,1,0,1,0,0]), .inBlock 0, .code (csub (cd Try.f48) [1,1,1,1,1,1,1,1])] [(0, .string (sb s)), (5, .int .i64 ((k : Nat) : Int)), (6, .int .u64 (((rdx f s (i - 1)) : Nat) : Int)), (7, .int .i64 ((i : Nat) : Int)), (8, .int .u64 (((Int.toNat (bl s i)) : Nat) : Int))] w (by kernel_rfl) .nil ?_
        have o30 : (binOp .mul 81 (.int .u64 256) (.int .u64 (((rdx f s (i - 1)) : Nat) : Int))).run Try.prog w = .ok (.int .u64 (((256 * (rdx f s (i - 1))) : Nat) : Int)) w := f_mul (by rw [show 256 * (((rdx f s (i - 1)) : Nat) : Int) = (((256 * (rdx f s (i - 1))) : Nat) : Int) by omega]; exact IntWalk.u64_in _ (by omega))
        have o31 : (binOp .add 81 (.int .u64 (((256 * (rdx f s (i - 1))) : Nat) : Int)) (.int .u64 (((Int.toNat (bl s i)) : Nat) : Int))).run Try.prog w = .ok (.int .u64 ((((256 * (rdx f s (i - 1))) + (Int.toNat (bl s i))) : Nat) : Int)) w := f_add (by rw [show (((256 * (rdx f s (i - 1))) : Nat) : Int) + (((Int.toNat (bl s i)) : Nat) : Int) = ((((256 * (rdx f s (i - 1))) + (Int.toNat (bl s i))) : Nat) : Int) by omega]; exact IntWalk.u64_in _ (by omega))
        have o32 : (binOp .add 3 (.int .i64 ((i : Nat) : Int)) (.int .i64 1)).run Try.prog w = .ok (.int .i64 (((i + 1) : Nat) : Int)) w := f_add (by rw [show ((i : Nat) : Int) + 1 = (((i + 1) : Nat) : Int) by omega]; exact IntWalk.i64_in _ (by omega))
        refine GoS.run [0, 5, 6, 7] [.n, .n, .h (.int .u64 (((256 * (rdx f s (i - 1))) : Nat) : Int)), .n, .h (.int .u64 ((((256 * (rdx f s (i - 1))) + (Int.toNat (bl s i))) : Nat) : Int)), .n, .n, .n, .n, .n, .h (.int .i64 (((i + 1) : Nat) : Int)), .n, .n, .n] _ [.code (csub (cd Try.f48) [1,1,1,1,1,1,1,0,1,0,0]), .inLoop (csub (cd Try.f48) [1,1,1,1,1,1,1,0,1,0,0]), .inBlock 0, .code (csub (cd Try.f48) [1,1,1,1,1,1,1,1])] [(0, .string (sb s)), (5, .int .i64 ((k : Nat) : Int)), (6, .int .u64 ((((256 * (rdx f s (i - 1))) + (Int.toNat (bl s i))) : Nat) : Int)), (7, .int .i64 (((i + 1) : Nat) : Int))] w (by kernel_rfl) (.cons o30 (.cons o31 (.cons o32 .nil))) ?_
        have e : ((((256 * (rdx f s (i - 1))) + (Int.toNat (bl s i))) : Nat) : Int) = ((rdx f s (i + 1 - 1) : Nat) : Int) := by
          rw [← rdx_step (f := f) (s := s) hi]; unfold flipI; split <;> omega
        exact GoS.cast (by rw [e]) (ih (i + 1) _ (by omega) (by omega) hM (by omega))
    ·
      have h1p : ¬ (((i : Nat) : Int) ≤ ((k : Nat) : Int)) := of_decide_eq_false h1
      refine GoS.run [0, 5, 6, 47] [.n, .n, .n, .n, .n, .n, .n] _ [.code (csub (cd Try.f48) [1,1,1,1,1,1,1,1,0,1]), .code (csub (cd Try.f48) [1,1,1,1,1,1,1,1,1])] [(0, .string (sb s)), (5, .int .i64 ((k : Nat) : Int)), (6, .int .u64 (((rdx f s (i - 1)) : Nat) : Int)), (47, .bool (decide ((((rdx f s (i - 1)) : Nat) : Int) > 9223372036854775695)))] w (by kernel_rfl) .nil ?_
      refine GoS.cond (decide ((((rdx f s (i - 1)) : Nat) : Int) > 9223372036854775695)) [.code (csub (cd Try.f48) [1,1,1,1,1,1,1,1,0,1,0]), .code (csub (cd Try.f48) [1,1,1,1,1,1,1,1,1])] [.code (csub (cd Try.f48) [1,1,1,1,1,1,1,1,0,1,1]), .code (csub (cd Try.f48) [1,1,1,1,1,1,1,1,1])] (by kernel_rfl) (fun h2 => ?_) (fun h2 => ?_)
      ·
        have h2p : (((rdx f s (i - 1)) : Nat) : Int) > 9223372036854775695 := of_decide_eq_true h2
        refine GoS.run [2, 3, 4] [.n, .n, .n, .n, .n, .n] _ [.code (csub (cd Try.f48) [1,1,1,1,1,1,1,1,0,1,0,1]), .code (csub (cd Try.f48) [1,1,1,1,1,1,1,1,1])] [(2, .int .i64 0), (3, .int .i64 0), (4, .int .i64 3)] w (by kernel_rfl) .nil ?_
        refine GoS.ret (fn := Try.f48) (v := (.tuple #[.int .i64 0, .int .i64 0, .int .i64 3])) Try.func48 (by kernel_rfl) ?_
        rw [hR]
        obtain rfl : i = k + 1 := by omega
        simp only [Nat.add_sub_cancel] at *
        have e : numP s = (0, 0, 3) := by rw [numP_tail hne ha1 ha2 hk hf hl]; split <;> first | rfl | (rw [if_pos (by omega)])
        exact ⟨ret_num e, hM⟩
      ·
        have h2p : ¬ ((((rdx f s (i - 1)) : Nat) : Int) > 9223372036854775695) := of_decide_eq_false h2
        refine GoS.run [0, 5, 6] [.n] _ [.code (csub (cd Try.f48) [1,1,1,1,1,1,1,1,1])] [(0, .string (sb s)), (5, .int .i64 ((k : Nat) : Int)), (6, .int .u64 (((rdx f s (i - 1)) : Nat) : Int))] w (by kernel_rfl) .nil ?_
        have o4 : (convert 81 3 (.int .u64 (((rdx f s (i - 1)) : Nat) : Int))).run Try.prog w = .ok (.int .i64 (((rdx f s (i - 1)) : Nat) : Int)) w := f_conv (u := .int .u64) (by kernel_rfl) (by kernel_rfl) (IntWalk.i64_in _ (by omega))
        have o5 : (binOp .add 3 (.int .i64 (((rdx f s (i - 1)) : Nat) : Int)) (.int .i64 112)).run Try.prog w = .ok (.int .i64 ((((rdx f s (i - 1)) + 112) : Nat) : Int)) w := f_add (by rw [show (((rdx f s (i - 1)) : Nat) : Int) + 112 = ((((rdx f s (i - 1)) + 112) : Nat) : Int) by omega]; exact IntWalk.i64_in _ (by omega))
        have hb3 := bl_bd s 0
        have o6 : (Instr.index 9 (.string (sb s)) (.int .i64 0)).run Try.prog w = .ok (.int .u8 (bl s 0)) w := f_index 0 (by kernel_rfl) (by omega) (by first | omega | (rw [List.length_take]; omega))
        refine GoS.run [0, 5, 6, 9, 53] [.n, .n, .n, .h (.int .i64 (((rdx f s (i - 1)) : Nat) : Int)), .h (.int .i64 ((((rdx f s (i - 1)) + 112) : Nat) : Int)), .n, .n, .n, .n, .n, .n, .h (.int .u8 (bl s 0)), .n, .n] _ [.code (csub (cd Try.f48) [1,1,1,1,1,1,1,1,1,1,0,1]), .code (csub (cd Try.f48) [1,1,1,1,1,1,1,1,1,1,1])] [(0, .string (sb s)), (5, .int .i64 ((k : Nat) : Int)), (6, .int .u64 (((rdx f s (i - 1)) : Nat) : Int)), (9, .int .i64 ((((rdx f s (i - 1)) + 112) : Nat) : Int)), (53, .bool (decide ((bl s 0) < 16)))] w (by kernel_rfl) (.cons o4 (.cons o5 (.cons o6 .nil))) ?_
        refine GoS.cond (decide ((bl s 0) < 16)) [.code (csub (cd Try.f48) [1,1,1,1,1,1,1,1,1,1,0,1,0]), .code (csub (cd Try.f48) [1,1,1,1,1,1,1,1,1,1,1])] [.code (csub (cd Try.f48) [1,1,1,1,1,1,1,1,1,1,0,1,1]), .code (csub (cd Try.f48) [1,1,1,1,1,1,1,1,1,1,1])] (by kernel_rfl) (fun h7 => ?_) (fun h7 => ?_)
        ·
          have h7p : (bl s 0) < 16 := of_decide_eq_true h7
          have o8 : (convert 81 3 (.int .u64 (((rdx f s (i - 1)) : Nat) : Int))).run Try.prog w = .ok (.int .i64 (((rdx f s (i - 1)) : Nat) : Int)) w := f_conv (u := .int .u64) (by kernel_rfl) (by kernel_rfl) (IntWalk.i64_in _ (by omega))
          have o9 : (binOp .sub 3 (.int .i64 (-113)) (.int .i64 (((rdx f s (i - 1)) : Nat) : Int))).run Try.prog w = .ok (.int .i64 ((-113) - (((rdx f s (i - 1)) : Nat) : Int))) w := f_sub (IntWalk.i64_in _ (by omega))
          refine GoS.run [0, 5, 9] [.n, .n, .h (.int .i64 (((rdx f s (i - 1)) : Nat) : Int)), .h (.int .i64 ((-113) - (((rdx f s (i - 1)) : Nat) : Int))), .n, .n] _ [.code (csub (cd Try.f48) [1,1,1,1,1,1,1,1,1,1,1])] [(0, .string (sb s)), (5, .int .i64 ((k : Nat) : Int)), (9, .int .i64 ((-113) - (((rdx f s (i - 1)) : Nat) : Int)))] w (by kernel_rfl) (.cons o8 (.cons o9 .nil)) ?_
          refine GoS.run [0, 5, 9] [.n, .n] _ [.code (csub (cd Try.f48) [1,1,1,1,1,1,1,1,1,1,1,0,0]), .code (csub (cd Try.f48) [1,1,1,1,1,1,1,1,1,1,1,0,1]), .code (csub (cd Try.f48) [1,1,1,1,1,1,1,1,1,1,1,1])] [(0, .string (sb s)), (5, .int .i64 ((k : Nat) : Int)), (9, .int .i64 ((-113) - (((rdx f s (i - 1)) : Nat) : Int)))] w (by kernel_rfl) .nil ?_
          refine GoS.drawC (fun W_ => Kept [] w W_) 23 (by kernel_rfl) [5, 9, 63] [.u (.int .i64 ((-113) - (((rdx f s (i - 1)) : Nat) : Int))) w, .h (.string (sb (bytesOf (numB ((-113) - (((rdx f s (i - 1)) : Nat) : Int)))))), .u (.string (sb s)) w, .u (.int .i64 ((k : Nat) : Int)) w, .h (.int .i64 (((k + 1) : Nat) : Int)), .h (.string (sb (List.take (k + 1) s))), .h (.bool (!(decide ((bytesOf (numB ((-113) - (((rdx f s (i - 1)) : Nat) : Int)))) = (List.take (k + 1) s)))))] (fun W_ => [(W_ = W_) ∧ Calls Try.prog 35 #[.int .i64 ((-113) - (((rdx f s (i - 1)) : Nat) : Int))] W_ (fun e W2 => e = .returned (.string (sb (bytesOf (numB ((-113) - (((rdx f s (i - 1)) : Nat) : Int)))))) ∧ (fun W_ => Kept [] w W_) W2), (binOp .add 3 (.int .i64 ((k : Nat) : Int)) (.int .i64 1)).run Try.prog W_ = .ok (.int .i64 (((k + 1) : Nat) : Int)) W_, (Instr.sliceAt 9 (.string (sb s)) none (some (.int .i64 (((k + 1) : Nat) : Int))) none).run Try.prog W_ = .ok (.string (sb (List.take (k + 1) s))) W_, (binOp .neq 9 (.string (sb (bytesOf (numB ((-113) - (((rdx f s (i - 1)) : Nat) : Int)))))) (.string (sb (List.take (k + 1) s)))).run Try.prog W_ = .ok (.bool (!(decide ((bytesOf (numB ((-113) - (((rdx f s (i - 1)) : Nat) : Int)))) = (List.take (k + 1) s))))) W_]) [(.int .i64 ((-113) - (((rdx f s (i - 1)) : Nat) : Int)), .int .i64 ((-113) - (((rdx f s (i - 1)) : Nat) : Int))), (.string (sb s), .string (sb s)), (.int .i64 ((k : Nat) : Int), .int .i64 ((k : Nat) : Int))] [(5, .int .i64 ((k : Nat) : Int)), (9, .int .i64 ((-113) - (((rdx f s (i - 1)) : Nat) : Int))), (63, .bool (!(decide ((bytesOf (numB ((-113) - (((rdx f s (i - 1)) : Nat) : Int)))) = (List.take (k + 1) s)))))] (by kernel_rfl) (by kernel_rfl) ([(63, .bool (!(decide ((bytesOf (numB ((-113) - (((rdx f s (i - 1)) : Nat) : Int)))) = (List.take (k + 1) s))))), (62, .string (sb (List.take (k + 1) s))), (61, .int .i64 (((k + 1) : Nat) : Int)), (60, .int .i64 ((k : Nat) : Int)), (59, .string (sb s)), (58, .string (sb (bytesOf (numB ((-113) - (((rdx f s (i - 1)) : Nat) : Int)))))), (57, .int .i64 ((-113) - (((rdx f s (i - 1)) : Nat) : Int)))] ++ [(0, .string (sb s)), (5, .int .i64 ((k : Nat) : Int)), (9, .int .i64 ((-113) - (((rdx f s (i - 1)) : Nat) : Int)))]) (fun W_ => by kernel_rfl) (by kernel_rfl) (.cons rfl (.cons rfl (.cons rfl Obs.nil))) (Kept.drewN _ _ 1) (fun W_ hW_ => (.cons (⟨rfl, Calls.mono (rnum_c ((-113) - (((rdx f s (i - 1)) : Nat) : Int)) (by omega) W_) (fun e W2 h => ⟨h.1, Kept.trans hW_ h.2.kept⟩)⟩) (.cons (f_add (by rw [show ((k : Nat) : Int) + 1 = (((k + 1) : Nat) : Int) by omega]; exact IntWalk.i64_in _ (by omega))) (.cons (f_slice_hi (k + 1) (by kernel_rfl) (by omega) (by first | omega | (rw [List.length_take]; omega))) (.cons f_strneq Obs.nil))))) (fun w10 hw11 => ?_)
          have hM12 := hM.ext hw11
          refine GoS.cond (!(decide ((bytesOf (numB ((-113) - (((rdx f s (i - 1)) : Nat) : Int)))) = (List.take (k + 1) s)))) [.code (csub (cd Try.f48) [1,1,1,1,1,1,1,1,1,1,1,0,1,0]), .code (csub (cd Try.f48) [1,1,1,1,1,1,1,1,1,1,1,1])] [.code (csub (cd Try.f48) [1,1,1,1,1,1,1,1,1,1,1,0,1,1]), .code (csub (cd Try.f48) [1,1,1,1,1,1,1,1,1,1,1,1])] (by kernel_rfl) (fun h13 => ?_) (fun h13 => ?_)
          ·
            have h13p : ¬ ((bytesOf (numB ((-113) - (((rdx f s (i - 1)) : Nat) : Int)))) = (List.take (k + 1) s)) := of_decide_eq_false (p_nf h13)
            refine GoS.run [2, 3, 4] [.n, .n, .n, .n, .n, .n] _ [.code (csub (cd Try.f48) [1,1,1,1,1,1,1,1,1,1,1,0,1,0,1]), .code (csub (cd Try.f48) [1,1,1,1,1,1,1,1,1,1,1,1])] [(2, .int .i64 0), (3, .int .i64 0), (4, .int .i64 3)] w10 (by kernel_rfl) .nil ?_
            refine GoS.ret (fn := Try.f48) (v := (.tuple #[.int .i64 0, .int .i64 0, .int .i64 3])) Try.func48 (by kernel_rfl) ?_
            rw [hR]
            obtain rfl : i = k + 1 := by omega
            simp only [Nat.add_sub_cancel] at *
            have q := num_fits ha1 ha2 hk hf hl (n := ((-113) - (((rdx f s k) : Nat) : Int))) (by split <;> first | omega | (exfalso; omega))
            have e : numP s = (0, 0, 3) := by rw [numP_tail hne ha1 ha2 hk hf hl, if_pos (Decidable.not_not.1 (fun z => h13p (q.2 z)))]
            exact ⟨ret_num e, hM12⟩
          ·
            have h13p : (bytesOf (numB ((-113) - (((rdx f s (i - 1)) : Nat) : Int)))) = (List.take (k + 1) s) := of_decide_eq_true (p_nt h13)
            refine GoS.run [5, 9] [.n] _ [.code (csub (cd Try.f48) [1,1,1,1,1,1,1,1,1,1,1,1])] [(5, .int .i64 ((k : Nat) : Int)), (9, .int .i64 ((-113) - (((rdx f s (i - 1)) : Nat) : Int)))] w10 (by kernel_rfl) .nil ?_
            have o14 : (binOp .add 3 (.int .i64 ((k : Nat) : Int)) (.int .i64 1)).run Try.prog w10 = .ok (.int .i64 (((k + 1) : Nat) : Int)) w10 := f_add (by rw [show ((k : Nat) : Int) + 1 = (((k + 1) : Nat) : Int) by omega]; exact IntWalk.i64_in _ (by omega))
            refine GoS.run [2, 3, 4] [.n, .n, .n, .n, .h (.int .i64 (((k + 1) : Nat) : Int)), .n, .n, .n, .n] _ [.code (csub (cd Try.f48) [1,1,1,1,1,1,1,1,1,1,1,1,1])] [(2, .int .i64 ((-113) - (((rdx f s (i - 1)) : Nat) : Int))), (3, .int .i64 (((k + 1) : Nat) : Int)), (4, .int .i64 0)] w10 (by kernel_rfl) (.cons o14 .nil) ?_
            refine GoS.ret (fn := Try.f48) (v := (.tuple #[.int .i64 ((-113) - (((rdx f s (i - 1)) : Nat) : Int)), .int .i64 (((k + 1) : Nat) : Int), .int .i64 0])) Try.func48 (by kernel_rfl) ?_
            rw [hR]
            obtain rfl : i = k + 1 := by omega
            simp only [Nat.add_sub_cancel] at *
            have q := num_fits ha1 ha2 hk hf hl (n := ((-113) - (((rdx f s k) : Nat) : Int))) (by split <;> first | omega | (exfalso; omega))
            have e : numP s = (((-113) - (((rdx f s k) : Nat) : Int)), (((k + 1) : Nat) : Int), 0) := by rw [numP_tail hne ha1 ha2 hk hf hl, if_neg (q.1 h13p), if_neg (by omega)]; split <;> first | (exfalso; omega) | rfl | (congr 1; omega)
            exact ⟨ret_num e, hM12⟩
        ·
          have h7p : ¬ ((bl s 0) < 16) := of_decide_eq_false h7
          refine GoS.run [0, 5, 9] [.n] _ [.code (csub (cd Try.f48) [1,1,1,1,1,1,1,1,1,1,1])] [(0, .string (sb s)), (5, .int .i64 ((k : Nat) : Int)), (9, .int .i64 ((((rdx f s (i - 1)) + 112) : Nat) : Int))] w (by kernel_rfl) .nil ?_
          refine GoS.run [0, 5, 9] [.n, .n] _ [.code (csub (cd Try.f48) [1,1,1,1,1,1,1,1,1,1,1,0,0]), .code (csub (cd Try.f48) [1,1,1,1,1,1,1,1,1,1,1,0,1]), .code (csub (cd Try.f48) [1,1,1,1,1,1,1,1,1,1,1,1])] [(0, .string (sb s)), (5, .int .i64 ((k : Nat) : Int)), (9, .int .i64 ((((rdx f s (i - 1)) + 112) : Nat) : Int))] w (by kernel_rfl) .nil ?_
          refine GoS.drawC (fun W_ => Kept [] w W_) 23 (by kernel_rfl) [5, 9, 63] [.u (.int .i64 ((((rdx f s (i - 1)) + 112) : Nat) : Int)) w, .h (.string (sb (bytesOf (numB ((((rdx f s (i - 1)) + 112) : Nat) : Int))))), .u (.string (sb s)) w, .u (.int .i64 ((k : Nat) : Int)) w, .h (.int .i64 (((k + 1) : Nat) : Int)), .h (.string (sb (List.take (k + 1) s))), .h (.bool (!(decide ((bytesOf (numB ((((rdx f s (i - 1)) + 112) : Nat) : Int))) = (List.take (k + 1) s)))))] (fun W_ => [(W_ = W_) ∧ Calls Try.prog 35 #[.int .i64 ((((rdx f s (i - 1)) + 112) : Nat) : Int)] W_ (fun e W2 => e = .returned (.string (sb (bytesOf (numB ((((rdx f s (i - 1)) + 112) : Nat) : Int))))) ∧ (fun W_ => Kept [] w W_) W2), (binOp .add 3 (.int .i64 ((k : Nat) : Int)) (.int .i64 1)).run Try.prog W_ = .ok (.int .i64 (((k + 1) : Nat) : Int)) W_, (Instr.sliceAt 9 (.string (sb s)) none (some (.int .i64 (((k + 1) : Nat) : Int))) none).run Try.prog W_ = .ok (.string (sb (List.take (k + 1) s))) W_, (binOp .neq 9 (.string (sb (bytesOf (numB ((((rdx f s (i - 1)) + 112) : Nat) : Int))))) (.string (sb (List.take (k + 1) s)))).run Try.prog W_ = .ok (.bool (!(decide ((bytesOf (numB ((((rdx f s (i - 1)) + 112) : Nat) : Int))) = (List.take (k + 1) s))))) W_]) [(.int .i64 ((((rdx f s (i - 1)) + 112) : Nat) : Int), .int .i64 ((((rdx f s (i - 1)) + 112) : Nat) : Int)), (.string (sb s), .string (sb s)), (.int .i64 ((k : Nat) : Int), .int .i64 ((k : Nat) : Int))] [(5, .int .i64 ((k : Nat) : Int)), (9, .int .i64 ((((rdx f s (i - 1)) + 112) : Nat) : Int)), (63, .bool (!(decide ((bytesOf (numB ((((rdx f s (i - 1)) + 112) : Nat) : Int))) = (List.take (k + 1) s)))))] (by kernel_rfl) (by kernel_rfl) ([(63, .bool (!(decide ((bytesOf (numB ((((rdx f s (i - 1)) + 112) : Nat) : Int))) = (List.take (k + 1) s))))), (62, .string (sb (List.take (k + 1) s))), (61, .int .i64 (((k + 1) : Nat) : Int)), (60, .int .i64 ((k : Nat) : Int)), (59, .string (sb s)), (58, .string (sb (bytesOf (numB ((((rdx f s (i - 1)) + 112) : Nat) : Int))))), (57, .int .i64 ((((rdx f s (i - 1)) + 112) : Nat) : Int))] ++ [(0, .string (sb s)), (5, .int .i64 ((k : Nat) : Int)), (9, .int .i64 ((((rdx f s (i - 1)) + 112) : Nat) : Int))]) (fun W_ => by kernel_rfl) (by kernel_rfl) (.cons rfl (.cons rfl (.cons rfl Obs.nil))) (Kept.drewN _ _ 1) (fun W_ hW_ => (.cons (⟨rfl, Calls.mono (rnum_c ((((rdx f s (i - 1)) + 112) : Nat) : Int) (by omega) W_) (fun e W2 h => ⟨h.1, Kept.trans hW_ h.2.kept⟩)⟩) (.cons (f_add (by rw [show ((k : Nat) : Int) + 1 = (((k + 1) : Nat) : Int) by omega]; exact IntWalk.i64_in _ (by omega))) (.cons (f_slice_hi (k + 1) (by kernel_rfl) (by omega) (by first | omega | (rw [List.length_take]; omega))) (.cons f_strneq Obs.nil))))) (fun w15 hw16 => ?_)
          have hM17 := hM.ext hw16
          refine GoS.cond (!(decide ((bytesOf (numB ((((rdx f s (i - 1)) + 112) : Nat) : Int))) = (List.take (k + 1) s)))) [.code (csub (cd Try.f48) [1,1,1,1,1,1,1,1,1,1,1,0,1,0]), .code (csub (cd Try.f48) [1,1,1,1,1,1,1,1,1,1,1,1])] [.code (csub (cd Try.f48) [1,1,1,1,1,1,1,1,1,1,1,0,1,1]), .code (csub (cd Try.f48) [1,1,1,1,1,1,1,1,1,1,1,1])] (by kernel_rfl) (fun h18 => ?_) (fun h18 => ?_)
          ·
            have h18p : ¬ ((bytesOf (numB ((((rdx f s (i - 1)) + 112) : Nat) : Int))) = (List.take (k + 1) s)) := of_decide_eq_false (p_nf h18)
            refine GoS.run [2, 3, 4] [.n, .n, .n, .n, .n, .n] _ [.code (csub (cd Try.f48) [1,1,1,1,1,1,1,1,1,1,1,0,1,0,1]), .code (csub (cd Try.f48) [1,1,1,1,1,1,1,1,1,1,1,1])] [(2, .int .i64 0), (3, .int .i64 0), (4, .int .i64 3)] w15 (by kernel_rfl) .nil ?_
            refine GoS.ret (fn := Try.f48) (v := (.tuple #[.int .i64 0, .int .i64 0, .int .i64 3])) Try.func48 (by kernel_rfl) ?_
            rw [hR]
            obtain rfl : i = k + 1 := by omega
            simp only [Nat.add_sub_cancel] at *
            have q := num_fits ha1 ha2 hk hf hl (n := ((((rdx f s k) + 112) : Nat) : Int)) (by split <;> first | omega | (exfalso; omega))
            have e : numP s = (0, 0, 3) := by rw [numP_tail hne ha1 ha2 hk hf hl, if_pos (Decidable.not_not.1 (fun z => h18p (q.2 z)))]
            exact ⟨ret_num e, hM17⟩
          ·
            have h18p : (bytesOf (numB ((((rdx f s (i - 1)) + 112) : Nat) : Int))) = (List.take (k + 1) s) := of_decide_eq_true (p_nt h18)
            refine GoS.run [5, 9] [.n] _ [.code (csub (cd Try.f48) [1,1,1,1,1,1,1,1,1,1,1,1])] [(5, .int .i64 ((k : Nat) : Int)), (9, .int .i64 ((((rdx f s (i - 1)) + 112) : Nat) : Int))] w15 (by kernel_rfl) .nil ?_
            have o19 : (binOp .add 3 (.int .i64 ((k : Nat) : Int)) (.int .i64 1)).run Try.prog w15 = .ok (.int .i64 (((k + 1) : Nat) : Int)) w15 := f_add (by rw [show ((k : Nat) : Int) + 1 = (((k + 1) : Nat) : Int) by omega]; exact IntWalk.i64_in _ (by omega))
            refine GoS.run [2, 3, 4] [.n, .n, .n, .n, .h (.int .i64 (((k + 1) : Nat) : Int)), .n, .n, .n, .n] _ [.code (csub (cd Try.f48) [1,1,1,1,1,1,1,1,1,1,1,1,1])] [(2, .int .i64 ((((rdx f s (i - 1)) + 112) : Nat) : Int)), (3, .int .i64 (((k + 1) : Nat) : Int)), (4, .int .i64 0)] w15 (by kernel_rfl) (.cons o19 .nil) ?_
            refine GoS.ret (fn := Try.f48) (v := (.tuple #[.int .i64 ((((rdx f s (i - 1)) + 112) : Nat) : Int), .int .i64 (((k + 1) : Nat) : Int), .int .i64 0])) Try.func48 (by kernel_rfl) ?_
            rw [hR]
            obtain rfl : i = k + 1 := by omega
            simp only [Nat.add_sub_cancel] at *
            have q := num_fits ha1 ha2 hk hf hl (n := ((((rdx f s k) + 112) : Nat) : Int)) (by split <;> first | omega | (exfalso; omega))
            have e : numP s = (((((rdx f s k) + 112) : Nat) : Int), (((k + 1) : Nat) : Int), 0) := by rw [numP_tail hne ha1 ha2 hk hf hl, if_neg (q.1 h18p), if_neg (by omega)]; split <;> first | (exfalso; omega) | rfl | (congr 1; omega)
            exact ⟨ret_num e, hM17⟩

set_option maxHeartbeats 400000 in
theorem rreadnum_c (s : List UInt8) (w : World) :
    Calls Try.prog 48 #[.string (sb s)] w (fun e w' => e = .returned (.tuple #[.int .i64 (numP s).1, .int .i64 (numP s).2.1, .int .i64 (numP s).2.2]) ∧ Mem [] w w' []) := by
  obtain ⟨R, hR⟩ : ∃ R : Ending → World → Prop, R = (fun e w' => e = .returned (.tuple #[.int .i64 (numP s).1, .int .i64 (numP s).2.1, .int .i64 (numP s).2.2]) ∧ Mem [] w w' []) := ⟨_, rfl⟩
  rw [← hR]
  refine GoS.enter (n := 67) Try.func48 (by kernel_rfl) rfl [(0, .string (sb s))] (by kernel_rfl) (by kernel_rfl) ?_
  have hM0 := Mem.start w
  have o1 : (binOp .eql 9 (.string (sb s)) (.string (sb ([])))).run Try.prog w = .ok (.bool (decide (s = []))) w := f_streq
  refine GoS.run [0, 11] [.n, .n, .n, .n, .n, .n, .n, .n, .n, .n, .h (.bool (decide (s = []))), .n] _ [.code (csub (cd Try.f48) [1,0,1]), .code (csub (cd Try.f48) [1,1])] [(0, .string (sb s)), (11, .bool (decide (s = [])))] w (by kernel_rfl) (.cons o1 .nil) ?_
  refine GoS.cond (decide (s = [])) [.code (csub (cd Try.f48) [1,0,1,0]), .code (csub (cd Try.f48) [1,1])] [.code (csub (cd Try.f48) [1,0,1,1]), .code (csub (cd Try.f48) [1,1])] (by kernel_rfl) (fun h2 => ?_) (fun h2 => ?_)
  ·
    have h2p : s = [] := of_decide_eq_true h2
    refine GoS.run [2, 3, 4] [.n, .n, .n, .n, .n, .n] _ [.code (csub (cd Try.f48) [1,0,1,0,1]), .code (csub (cd Try.f48) [1,1])] [(2, .int .i64 0), (3, .int .i64 0), (4, .int .i64 2)] w (by kernel_rfl) .nil ?_
    refine GoS.ret (fn := Try.f48) (v := (.tuple #[.int .i64 0, .int .i64 0, .int .i64 2])) Try.func48 (by kernel_rfl) ?_
    rw [hR]
    have e : numP s = (0, 0, 2) := by rw [numP, if_pos h2p]
    exact ⟨ret_num e, hM0⟩
  ·
    have h2p : ¬ (s = []) := of_decide_eq_false h2
    refine GoS.run [0] [.n] _ [.code (csub (cd Try.f48) [1,1])] [(0, .string (sb s))] w (by kernel_rfl) .nil ?_
    have hb3 := bl_bd s 0
    have o4 : (Instr.index 9 (.string (sb s)) (.int .i64 0)).run Try.prog w = .ok (.int .u8 (bl s 0)) w := f_index 0 (by kernel_rfl) (by omega) (by first | omega | exact List.length_pos_iff.2 h2p)
    refine GoS.run [0, 13] [.n, .n, .n, .h (.int .u8 (bl s 0))] _ [.inRegion (cops (csub (cd Try.f48) [1,1,0])) [2,3], .code (csub (cd Try.f48) [1,1,1])] [(0, .string (sb s)), (13, .int .u8 (bl s 0))] w (by kernel_rfl) (.cons o4 .nil) ?_
    refine GoS.call [0] 52 #[.int .u8 (bl s 0)] (some 14) [.inRegion (cops (csub (cd Try.f48) [1,1,0])) [3], .code (csub (cd Try.f48) [1,1,1])] [(0, .string (sb s))] (by kernel_rfl) (long_c (bl s 0) (by omega) w) ?_
    rintro _ _ ⟨rfl, rfl⟩
    refine ⟨_, rfl, ?_⟩
    have hlp := longP_cases (bl s 0)
    refine GoS.run [0, 5, 16] [.n, .n, .n, .n, .n, .n, .n, .n] _ [.code (csub (cd Try.f48) [1,1,1,0,1]), .code (csub (cd Try.f48) [1,1,1,1])] [(0, .string (sb s)), (5, .int .i64 (longP (bl s 0))), (16, .bool (decide ((longP (bl s 0)) < 0)))] w (by kernel_rfl) .nil ?_
    refine GoS.cond (decide ((longP (bl s 0)) < 0)) [.code (csub (cd Try.f48) [1,1,1,0,1,0]), .code (csub (cd Try.f48) [1,1,1,1])] [.code (csub (cd Try.f48) [1,1,1,0,1,1]), .code (csub (cd Try.f48) [1,1,1,1])] (by kernel_rfl) (fun h5 => ?_) (fun h5 => ?_)
    ·
      have h5p : (longP (bl s 0)) < 0 := of_decide_eq_true h5
      refine GoS.run [2, 3, 4] [.n, .n, .n, .n, .n, .n] _ [.code (csub (cd Try.f48) [1,1,1,0,1,0,1]), .code (csub (cd Try.f48) [1,1,1,1])] [(2, .int .i64 0), (3, .int .i64 0), (4, .int .i64 3)] w (by kernel_rfl) .nil ?_
      refine GoS.ret (fn := Try.f48) (v := (.tuple #[.int .i64 0, .int .i64 0, .int .i64 3])) Try.func48 (by kernel_rfl) ?_
      rw [hR]
      have e : numP s = (0, 0, 3) := by rw [numP, if_neg h2p, if_neg (by omega), if_pos (by omega)]
      exact ⟨ret_num e, hM0⟩
    ·
      have h5p : ¬ ((longP (bl s 0)) < 0) := of_decide_eq_false h5
      refine GoS.run [0, 5] [.n] _ [.code (csub (cd Try.f48) [1,1,1,1])] [(0, .string (sb s)), (5, .int .i64 (longP (bl s 0)))] w (by kernel_rfl) .nil ?_
      refine GoS.run [0, 5, 18] [.n, .n, .n, .n, .n, .n] _ [.code (csub (cd Try.f48) [1,1,1,1,0,1]), .code (csub (cd Try.f48) [1,1,1,1,1])] [(0, .string (sb s)), (5, .int .i64 (longP (bl s 0))), (18, .bool ((longP (bl s 0)) == 0))] w (by kernel_rfl) .nil ?_
      refine GoS.cond ((longP (bl s 0)) == 0) [.code (csub (cd Try.f48) [1,1,1,1,0,1,0]), .code (csub (cd Try.f48) [1,1,1,1,1])] [.code (csub (cd Try.f48) [1,1,1,1,0,1,1]), .code (csub (cd Try.f48) [1,1,1,1,1])] (by kernel_rfl) (fun h6 => ?_) (fun h6 => ?_)
      ·
        have h6p : (longP (bl s 0)) = 0 := eq_of_beq h6
        have hb7 := bl_bd s 0
        have o8 : (Instr.index 9 (.string (sb s)) (.int .i64 0)).run Try.prog w = .ok (.int .u8 (bl s 0)) w := f_index 0 (by kernel_rfl) (by omega) (by first | omega | exact List.length_pos_iff.2 h2p)
        have o9 : (convert 5 3 (.int .u8 (bl s 0))).run Try.prog w = .ok (.int .i64 (bl s 0)) w := f_conv (u := .int .u8) (by kernel_rfl) (by kernel_rfl) (IntWalk.i64_in _ (by omega))
        have o10 : (binOp .sub 3 (.int .i64 (bl s 0)) (.int .i64 128)).run Try.prog w = .ok (.int .i64 ((bl s 0) - 128)) w := f_sub (IntWalk.i64_in _ (by omega))
        refine GoS.run [2, 3, 4] [.n, .n, .n, .h (.int .u8 (bl s 0)), .h (.int .i64 (bl s 0)), .h (.int .i64 ((bl s 0) - 128)), .n, .n, .n, .n] _ [.code (csub (cd Try.f48) [1,1,1,1,0,1,0,1]), .code (csub (cd Try.f48) [1,1,1,1,1])] [(2, .int .i64 ((bl s 0) - 128)), (3, .int .i64 1), (4, .int .i64 0)] w (by kernel_rfl) (.cons o8 (.cons o9 (.cons o10 .nil))) ?_
        refine GoS.ret (fn := Try.f48) (v := (.tuple #[.int .i64 ((bl s 0) - 128), .int .i64 1, .int .i64 0])) Try.func48 (by kernel_rfl) ?_
        rw [hR]
        have e : numP s = (((bl s 0) - 128), 1, 0) := by rw [numP, if_neg h2p, if_pos (by omega)]
        exact ⟨ret_num e, hM0⟩
      ·
        have h6p : ¬ ((longP (bl s 0)) = 0) := p_ne h6
        refine GoS.run [0, 5] [.n] _ [.code (csub (cd Try.f48) [1,1,1,1,1])] [(0, .string (sb s)), (5, .int .i64 (longP (bl s 0)))] w (by kernel_rfl) .nil ?_
        have o11 : (Builtin.len_ #[9] 3 #[.string (sb s)]).run Try.prog w = .ok (.int .i64 ((s.length : Nat) : Int)) w := f_len (by kernel_rfl)
        have o12 : (binOp .add 3 (.int .i64 (longP (bl s 0))) (.int .i64 1)).run Try.prog w = .ok (.int .i64 ((longP (bl s 0)) + 1)) w := f_add (IntWalk.i64_in _ (by omega))
        refine GoS.run [0, 5, 27] [.n, .n, .n, .n, .h (.int .i64 ((s.length : Nat) : Int)), .n, .h (.int .i64 ((longP (bl s 0)) + 1)), .n, .n] _ [.code (csub (cd Try.f48) [1,1,1,1,1,0,1]), .code (csub (cd Try.f48) [1,1,1,1,1,1])] [(0, .string (sb s)), (5, .int .i64 (longP (bl s 0))), (27, .bool (decide (((s.length : Nat) : Int) < ((longP (bl s 0)) + 1))))] w (by kernel_rfl) (.cons o11 (.cons o12 .nil)) ?_
        refine GoS.cond (decide (((s.length : Nat) : Int) < ((longP (bl s 0)) + 1))) [.code (csub (cd Try.f48) [1,1,1,1,1,0,1,0]), .code (csub (cd Try.f48) [1,1,1,1,1,1])] [.code (csub (cd Try.f48) [1,1,1,1,1,0,1,1]), .code (csub (cd Try.f48) [1,1,1,1,1,1])] (by kernel_rfl) (fun h13 => ?_) (fun h13 => ?_)
        ·
          have h13p : ((s.length : Nat) : Int) < ((longP (bl s 0)) + 1) := of_decide_eq_true h13
          refine GoS.run [2, 3, 4] [.n, .n, .n, .n, .n, .n] _ [.code (csub (cd Try.f48) [1,1,1,1,1,0,1,0,1]), .code (csub (cd Try.f48) [1,1,1,1,1,1])] [(2, .int .i64 0), (3, .int .i64 0), (4, .int .i64 2)] w (by kernel_rfl) .nil ?_
          refine GoS.ret (fn := Try.f48) (v := (.tuple #[.int .i64 0, .int .i64 0, .int .i64 2])) Try.func48 (by kernel_rfl) ?_
          rw [hR]
          have e : numP s = (0, 0, 2) := by rw [numP, if_neg h2p, if_neg (by omega), if_neg (by omega), if_pos (by unfold headK; split <;> omega)]
          exact ⟨ret_num e, hM0⟩
        ·
          have h13p : ¬ (((s.length : Nat) : Int) < ((longP (bl s 0)) + 1)) := of_decide_eq_false h13
          refine GoS.run [0, 5] [.n] _ [.code (csub (cd Try.f48) [1,1,1,1,1,1])] [(0, .string (sb s)), (5, .int .i64 (longP (bl s 0)))] w (by kernel_rfl) .nil ?_
          refine GoS.run [0, 5, 6, 7] [.n, .n, .n, .n, .n, .n, .n, .n, .n, .n, .n] _ [.code (csub (cd Try.f48) [1,1,1,1,1,1,1,0,1,0,0]), .inLoop (csub (cd Try.f48) [1,1,1,1,1,1,1,0,1,0,0]), .inBlock 0, .code (csub (cd Try.f48) [1,1,1,1,1,1,1,1])] [(0, .string (sb s)), (5, .int .i64 (longP (bl s 0))), (6, .int .u64 0), (7, .int .i64 1)] w (by kernel_rfl) .nil ?_
          have hk0 := headK_bd (b := bl s 0) (by omega) (by omega)
          have ek : ((headK (bl s 0) : Nat) : Int) = longP (bl s 0) := by unfold headK; split <;> omega
          exact GoS.cast (by rw [ek]; rfl) (rreadnum_L s h2p (by omega) (by omega) (headK (bl s 0)) (headF (bl s 0)) rfl rfl (by omega) R hR (headK (bl s 0) + 1) 1 w (by omega) (by omega) hM0 (by omega))

set_option maxHeartbeats 400000 in
theorem rreadcount_c (s : List UInt8) (w : World) :
    Calls Try.prog 41 #[.string (sb s)] w (fun e w' => e = .returned (.tuple #[.int .i64 (cntP s).1, .int .i64 (cntP s).2.1, .int .i64 (cntP s).2.2]) ∧ Mem [] w w' []) := by
  obtain ⟨R, hR⟩ : ∃ R : Ending → World → Prop, R = (fun e w' => e = .returned (.tuple #[.int .i64 (cntP s).1, .int .i64 (cntP s).2.1, .int .i64 (cntP s).2.2]) ∧ Mem [] w w' []) := ⟨_, rfl⟩
  rw [← hR]
  refine GoS.enter (n := 23) Try.func41 (by kernel_rfl) rfl [(0, .string (sb s))] (by kernel_rfl) (by kernel_rfl) ?_
  have hM0 := Mem.start w
  refine GoS.run [9] [.n, .n, .n, .n, .n, .n, .n, .n, .n] _ [.inRegion (cops (csub (cd Try.f41) [1,0])) [1,2,3,4,5,6,7,8], .code (csub (cd Try.f41) [1,1])] [(9, .string (sb s))] w (by kernel_rfl) .nil ?_
  refine GoS.call [] 48 #[.string (sb s)] (some 10) [.inRegion (cops (csub (cd Try.f41) [1,0])) [2,3,4,5,6,7,8], .code (csub (cd Try.f41) [1,1])] [] (by kernel_rfl) (rreadnum_c s w) ?_
  rintro _ w1 ⟨rfl, m2⟩
  refine ⟨_, rfl, ?_⟩
  have hM3 := Mem.join hM0 m2
  have hnb := numP_bd s
  refine GoS.run [5, 6, 7, 16] [.n, .n, .n, .n, .n, .n, .n, .n, .n, .n, .n, .n, .n, .n] _ [.inRegion (cops (csub (cd Try.f41) [1,1,0,0])) [3,4,5], .code (csub (cd Try.f41) [1,1,0,1]), .code (csub (cd Try.f41) [1,1,1])] [(5, .int .i64 ((numP s).1)), (6, .int .i64 ((numP s).2.1)), (7, .int .i64 ((numP s).2.2)), (16, .bool ((numP s).2.2 == 0))] w1 (by kernel_rfl) .nil ?_
  refine GoS.fork 16 ((numP s).2.2 == 0) (by kernel_rfl) (fun h4 => ?_) (fun h4 => ?_)
  ·
    have h4p : (numP s).2.2 = 0 := eq_of_beq h4
    refine GoS.run [5, 6, 7, 19] [.n, .n, .n] _ [.inRegion (cops (csub (cd Try.f41) [1,1,0,0])) [], .code (csub (cd Try.f41) [1,1,0,1]), .code (csub (cd Try.f41) [1,1,1])] [(5, .int .i64 ((numP s).1)), (6, .int .i64 ((numP s).2.1)), (7, .int .i64 ((numP s).2.2)), (19, .bool (decide ((numP s).1 < 0)))] w1 (by kernel_rfl) .nil ?_
    refine GoS.run [5, 6, 7, 19] [.n] _ [.code (csub (cd Try.f41) [1,1,0,1]), .code (csub (cd Try.f41) [1,1,1])] [(5, .int .i64 ((numP s).1)), (6, .int .i64 ((numP s).2.1)), (7, .int .i64 ((numP s).2.2)), (19, .bool (decide ((numP s).1 < 0)))] w1 (by kernel_rfl) .nil ?_
    refine GoS.cond (decide ((numP s).1 < 0)) [.code (csub (cd Try.f41) [1,1,0,1,0]), .code (csub (cd Try.f41) [1,1,1])] [.code (csub (cd Try.f41) [1,1,0,1,1]), .code (csub (cd Try.f41) [1,1,1])] (by kernel_rfl) (fun h5 => ?_) (fun h5 => ?_)
    ·
      have h5p : (numP s).1 < 0 := of_decide_eq_true h5
      refine GoS.run [2, 3, 4] [.n, .n, .n, .n, .n, .n] _ [.code (csub (cd Try.f41) [1,1,0,1,0,1]), .code (csub (cd Try.f41) [1,1,1])] [(2, .int .i64 0), (3, .int .i64 0), (4, .int .i64 3)] w1 (by kernel_rfl) .nil ?_
      refine GoS.ret (fn := Try.f41) (v := (.tuple #[.int .i64 0, .int .i64 0, .int .i64 3])) Try.func41 (by kernel_rfl) ?_
      rw [hR]
      rw [cntP_yes (by omega) (by omega)]
      exact ⟨rfl, hM3⟩
    ·
      have h5p : ¬ ((numP s).1 < 0) := of_decide_eq_false h5
      refine GoS.run [5, 6, 7] [.n] _ [.code (csub (cd Try.f41) [1,1,1])] [(5, .int .i64 ((numP s).1)), (6, .int .i64 ((numP s).2.1)), (7, .int .i64 ((numP s).2.2))] w1 (by kernel_rfl) .nil ?_
      refine GoS.run [2, 3, 4] [.n, .n, .n, .n, .n, .n, .n, .n, .n] _ [.code (csub (cd Try.f41) [1,1,1,1])] [(2, .int .i64 ((numP s).1)), (3, .int .i64 ((numP s).2.1)), (4, .int .i64 ((numP s).2.2))] w1 (by kernel_rfl) .nil ?_
      refine GoS.ret (fn := Try.f41) (v := (.tuple #[.int .i64 ((numP s).1), .int .i64 ((numP s).2.1), .int .i64 ((numP s).2.2)])) Try.func41 (by kernel_rfl) ?_
      rw [hR]
      rw [cntP_no (by omega)]
      exact ⟨rfl, hM3⟩
  ·
    have h4p : ¬ ((numP s).2.2 = 0) := p_ne h4
    refine GoS.run [5, 6, 7, 19] [.n, .n, .n] _ [.inRegion (cops (csub (cd Try.f41) [1,1,0,0])) [], .code (csub (cd Try.f41) [1,1,0,1]), .code (csub (cd Try.f41) [1,1,1])] [(5, .int .i64 ((numP s).1)), (6, .int .i64 ((numP s).2.1)), (7, .int .i64 ((numP s).2.2)), (19, .bool false)] w1 (by kernel_rfl) .nil ?_
    refine GoS.run [2, 3, 4] [.n, .n, .n, .n, .n, .n, .n, .n, .n, .n, .n, .n] _ [.code (csub (cd Try.f41) [1,1,1,1])] [(2, .int .i64 ((numP s).1)), (3, .int .i64 ((numP s).2.1)), (4, .int .i64 ((numP s).2.2))] w1 (by kernel_rfl) .nil ?_
    refine GoS.ret (fn := Try.f41) (v := (.tuple #[.int .i64 ((numP s).1), .int .i64 ((numP s).2.1), .int .i64 ((numP s).2.2)])) Try.func41 (by kernel_rfl) ?_
    rw [hR]
    rw [cntP_no (by omega)]
    exact ⟨rfl, hM3⟩


end Go.Proofs.Ythimiheeheaaaaa
