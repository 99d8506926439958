/-
  The walk of Parse, of the reference.
-/
import Derived.Test.YthioghimgiknkaaRealY
namespace Go.Proofs.Ythioghimgiknkaa
open Go Go.Gw Go.RealP Go.RealQ Go.RowKit
set_option linter.unusedVariables false
set_option linter.unusedSimpArgs false


set_option maxHeartbeats 400000 in
theorem rparse_L (mi x m y : Nat) (hm : m ≤ 3) (hx : x < 1000000000000) (hy : y < 1000) (hmi : mi = 0 ∨ mi = 9223372036854775808) {w0 : World} (R : Ending → World → Prop) (hR : R = (fun e w' => e = .returned (.tuple #[.int .u64 ((ratN (x * 10 ^ m + y) (10 ^ m) + mi : Nat) : Int), .int .i64 (0)]) ∧ Dr w0 w')) : ∀ (N : Nat) (j : Nat) (w : World) (hj : j ≤ m) (hD : Dr w0 w) (hN : m - j < N), GoS Try.prog 15 R 77 [.code (csub (cd Try.f15) [1,1,1,1,1,1,1,1,1,1,0,1,0,1,1,0,1,0,0]), .inLoop (csub (cd Try.f15) [1,1,1,1,1,1,1,1,1,1,0,1,0,1,1,0,1,0,0]), .inBlock 0, .code (csub (cd Try.f15) [1,1,1,1,1,1,1,1,1,1,0,1,0,1,1,1]), .code (csub (cd Try.f15) [1,1,1,1,1,1,1,1,1,1,1])] [(4, .int .u64 ((mi : Nat) : Int)), (6, .int .u64 ((x : Nat) : Int)), (7, .int .u64 (((10 ^ j) : Nat) : Int)), (8, .int .i64 ((m : Nat) : Int)), (9, .int .u64 ((y : Nat) : Int)), (10, .int .i64 ((j : Nat) : Int))] w := by
  intro N
  induction N with
  | zero => intro j w hj hD hN; exact absurd hN (Nat.not_lt_zero _)
  | succ N ih =>
    intro j w hj hD hN
    have hsb := sc_bd (d := j) (by omega)
    refine GoS.run [4, 6, 7, 8, 9, 10, 62] [.n, .n, .n, .n, .n, .n, .n] _ [.code (csub (cd Try.f15) [1,1,1,1,1,1,1,1,1,1,0,1,0,1,1,0,1,0,0,0,1]), .code (csub (cd Try.f15) [1,1,1,1,1,1,1,1,1,1,0,1,0,1,1,0,1,0,0,1]), .inLoop (csub (cd Try.f15) [1,1,1,1,1,1,1,1,1,1,0,1,0,1,1,0,1,0,0]), .inBlock 0, .code (csub (cd Try.f15) [1,1,1,1,1,1,1,1,1,1,0,1,0,1,1,1]), .code (csub (cd Try.f15) [1,1,1,1,1,1,1,1,1,1,1])] [(4, .int .u64 ((mi : Nat) : Int)), (6, .int .u64 ((x : Nat) : Int)), (7, .int .u64 (((10 ^ j) : Nat) : Int)), (8, .int .i64 ((m : Nat) : Int)), (9, .int .u64 ((y : Nat) : Int)), (10, .int .i64 ((j : Nat) : Int)), (62, .bool (decide (((j : Nat) : Int) < ((m : Nat) : Int))))] w (by kernel_rfl) .nil ?_
    refine GoS.cond (decide (((j : Nat) : Int) < ((m : Nat) : Int))) [.code (csub (cd Try.f15) [1,1,1,1,1,1,1,1,1,1,0,1,0,1,1,0,1,0,0,0,1,0]), .code (csub (cd Try.f15) [1,1,1,1,1,1,1,1,1,1,0,1,0,1,1,0,1,0,0,1]), .inLoop (csub (cd Try.f15) [1,1,1,1,1,1,1,1,1,1,0,1,0,1,1,0,1,0,0]), .inBlock 0, .code (csub (cd Try.f15) [1,1,1,1,1,1,1,1,1,1,0,1,0,1,1,1]), .code (csub (cd Try.f15) [1,1,1,1,1,1,1,1,1,1,1])] [.code (csub (cd Try.f15) [1,1,1,1,1,1,1,1,1,1,0,1,0,1,1,0,1,0,0,0,1,1]), .code (csub (cd Try.f15) [1,1,1,1,1,1,1,1,1,1,0,1,0,1,1,0,1,0,0,1]), .inLoop (csub (cd Try.f15) [1,1,1,1,1,1,1,1,1,1,0,1,0,1,1,0,1,0,0]), .inBlock 0, .code (csub (cd Try.f15) [1,1,1,1,1,1,1,1,1,1,0,1,0,1,1,1]), .code (csub (cd Try.f15) [1,1,1,1,1,1,1,1,1,1,1])] (by kernel_rfl) (fun h1 => ?_) (fun h1 => ?_)
    ·
      have h1p : ((j : Nat) : Int) < ((m : Nat) : Int) := of_decide_eq_true h1
      refine GoS.run [4, 6, 7, 8, 9, 10] [.n] _ [.code (csub (cd Try.f15) [1,1,1,1,1,1,1,1,1,1,0,1,0,1,1,0,1,0,0,1]), .inLoop (csub (cd Try.f15) [1,1,1,1,1,1,1,1,1,1,0,1,0,1,1,0,1,0,0]), .inBlock 0, .code (csub (cd Try.f15) [1,1,1,1,1,1,1,1,1,1,0,1,0,1,1,1]), .code (csub (cd Try.f15) [1,1,1,1,1,1,1,1,1,1,1])] [(4, .int .u64 ((mi : Nat) : Int)), (6, .int .u64 ((x : Nat) : Int)), (7, .int .u64 (((10 ^ j) : Nat) : Int)), (8, .int .i64 ((m : Nat) : Int)), (9, .int .u64 ((y : Nat) : Int)), (10, .int .i64 ((j : Nat) : Int))] w (by kernel_rfl) .nil ?_
      have o9 : (binOp .mul 22 (.int .u64 10) (.int .u64 (((10 ^ j) : Nat) : Int))).run Try.prog w = .ok (.int .u64 (((10 * (10 ^ j)) : Nat) : Int)) w := f_mul (by rw [show 10 * (((10 ^ j) : Nat) : Int) = (((10 * (10 ^ j)) : Nat) : Int) by omega]; exact IntWalk.u64_in _ (by omega))
      have o10 : (binOp .add 3 (.int .i64 ((j : Nat) : Int)) (.int .i64 1)).run Try.prog w = .ok (.int .i64 (((j + 1) : Nat) : Int)) w := f_add (by rw [show ((j : Nat) : Int) + 1 = (((j + 1) : Nat) : Int) by omega]; exact IntWalk.i64_in _ (by omega))
      refine GoS.run [4, 6, 7, 8, 9, 10] [.n, .n, .n, .n, .h (.int .u64 (((10 * (10 ^ j)) : Nat) : Int)), .n, .n, .n, .n, .n, .h (.int .i64 (((j + 1) : Nat) : Int)), .n, .n, .n] _ [.code (csub (cd Try.f15) [1,1,1,1,1,1,1,1,1,1,0,1,0,1,1,0,1,0,0]), .inLoop (csub (cd Try.f15) [1,1,1,1,1,1,1,1,1,1,0,1,0,1,1,0,1,0,0]), .inBlock 0, .code (csub (cd Try.f15) [1,1,1,1,1,1,1,1,1,1,0,1,0,1,1,1]), .code (csub (cd Try.f15) [1,1,1,1,1,1,1,1,1,1,1])] [(4, .int .u64 ((mi : Nat) : Int)), (6, .int .u64 ((x : Nat) : Int)), (7, .int .u64 (((10 * (10 ^ j)) : Nat) : Int)), (8, .int .i64 ((m : Nat) : Int)), (9, .int .u64 ((y : Nat) : Int)), (10, .int .i64 (((j + 1) : Nat) : Int))] w (by kernel_rfl) (.cons o9 (.cons o10 .nil)) ?_
      exact GoS.cast (by rw [show 10 * 10 ^ j = 10 ^ (j + 1) by rw [Nat.pow_succ, Nat.mul_comm]]; first | done | rfl) (ih (j + 1) _ (by omega) hD (by omega))
    ·
      have h1p : ¬ (((j : Nat) : Int) < ((m : Nat) : Int)) := of_decide_eq_false h1
      have hxm := xm_bd hx (show j ≤ 3 by omega)
      have o2 : (binOp .mul 22 (.int .u64 ((x : Nat) : Int)) (.int .u64 (((10 ^ j) : Nat) : Int))).run Try.prog w = .ok (.int .u64 (((x * (10 ^ j)) : Nat) : Int)) w := f_mul (by rw [show ((x : Nat) : Int) * (((10 ^ j) : Nat) : Int) = (((x * (10 ^ j)) : Nat) : Int) by omega]; exact IntWalk.u64_in _ (by omega))
      have o3 : (binOp .add 22 (.int .u64 (((x * (10 ^ j)) : Nat) : Int)) (.int .u64 ((y : Nat) : Int))).run Try.prog w = .ok (.int .u64 ((((x * (10 ^ j)) + y) : Nat) : Int)) w := f_add (by rw [show (((x * (10 ^ j)) : Nat) : Int) + ((y : Nat) : Int) = ((((x * (10 ^ j)) + y) : Nat) : Int) by omega]; exact IntWalk.u64_in _ (by omega))
      refine GoS.run [4, 72, 73] [.n, .n, .n, .n, .h (.int .u64 (((x * (10 ^ j)) : Nat) : Int)), .n, .h (.int .u64 ((((x * (10 ^ j)) + y) : Nat) : Int)), .n, .n, .n, .n, .n, .n] _ [.inRegion (cops (csub (cd Try.f15) [1,1,1,1,1,1,1,1,1,1,1,0])) [2,3,4,5,6], .code (csub (cd Try.f15) [1,1,1,1,1,1,1,1,1,1,1,1])] [(4, .int .u64 ((mi : Nat) : Int)), (72, .int .u64 ((((x * (10 ^ j)) + y) : Nat) : Int)), (73, .int .u64 (((10 ^ j) : Nat) : Int))] w (by kernel_rfl) (.cons o2 (.cons o3 .nil)) ?_
      refine GoS.call [4] 27 #[.int .u64 ((((x * (10 ^ j)) + y) : Nat) : Int), .int .u64 (((10 ^ j) : Nat) : Int)] (some 74) [.inRegion (cops (csub (cd Try.f15) [1,1,1,1,1,1,1,1,1,1,1,0])) [3,4,5,6], .code (csub (cd Try.f15) [1,1,1,1,1,1,1,1,1,1,1,1])] [(4, .int .u64 ((mi : Nat) : Int))] (by kernel_rfl) (ratio_c ((x * (10 ^ j)) + y) (10 ^ j) (by omega) (by omega) (by omega) w) ?_
      rintro _ w4 ⟨rfl, hd5⟩
      refine ⟨_, rfl, ?_⟩
      have hD6 := hD.trans hd5
      have hrl7 := ratN_lt (a := ((x * (10 ^ j)) + y)) (b := (10 ^ j)) (by omega) (by omega) (by omega)
      have o8 : (binOp .add 22 (.int .u64 (((ratN ((x * (10 ^ j)) + y) (10 ^ j)) : Nat) : Int)) (.int .u64 ((mi : Nat) : Int))).run Try.prog w4 = .ok (.int .u64 ((((ratN ((x * (10 ^ j)) + y) (10 ^ j)) + mi) : Nat) : Int)) w4 := f_add (by rw [show (((ratN ((x * (10 ^ j)) + y) (10 ^ j)) : Nat) : Int) + ((mi : Nat) : Int) = ((((ratN ((x * (10 ^ j)) + y) (10 ^ j)) + mi) : Nat) : Int) by omega]; exact IntWalk.u64_in _ (by omega))
      refine GoS.run [2, 3] [.n, .h (.int .u64 ((((ratN ((x * (10 ^ j)) + y) (10 ^ j)) + mi) : Nat) : Int)), .n, .n, .n] _ [.code (csub (cd Try.f15) [1,1,1,1,1,1,1,1,1,1,1,1])] [(2, .int .u64 ((((ratN ((x * (10 ^ j)) + y) (10 ^ j)) + mi) : Nat) : Int)), (3, .int .i64 0)] w4 (by kernel_rfl) (.cons o8 .nil) ?_
      refine GoS.ret (fn := Try.f15) (v := (.tuple #[.int .u64 ((((ratN ((x * (10 ^ j)) + y) (10 ^ j)) + mi) : Nat) : Int), .int .i64 0])) Try.func15 (by kernel_rfl) ?_
      rw [hR]
      obtain rfl : j = m := by omega
      exact ⟨rfl, hD6⟩

set_option maxHeartbeats 400000 in
theorem rparse_c (s : List UInt8) (hs : s.length ≤ 9223372036854775807) (w : World) :
    Calls Try.prog 15 #[.string (sb s)] w (fun e w' => e = .returned (.tuple #[.int .u64 ((parseV s : Nat) : Int), .int .i64 (parseE s)]) ∧ Dr w w') := by
  obtain ⟨R, hR⟩ : ∃ R : Ending → World → Prop, R = (fun e w' => e = .returned (.tuple #[.int .u64 ((parseV s : Nat) : Int), .int .i64 (parseE s)]) ∧ Dr w w') := ⟨_, rfl⟩
  rw [← hR]
  refine GoS.enter (n := 77) Try.func15 (by kernel_rfl) rfl [(0, .string (sb s))] (by kernel_rfl) (by kernel_rfl) ?_
  have hD0 := Dr.refl w
  have o1 : (binOp .eql 9 (.string (sb s)) (.string (sb ([110, 97, 110] : List UInt8)))).run Try.prog w = .ok (.bool (decide (s = ([110, 97, 110] : List UInt8)))) w := f_streq
  refine GoS.run [0, 12] [.n, .n, .n, .n, .n, .n, .n, .n, .n, .h (.bool (decide (s = ([110, 97, 110] : List UInt8)))), .n] _ [.code (csub (cd Try.f15) [1,0,1]), .code (csub (cd Try.f15) [1,1])] [(0, .string (sb s)), (12, .bool (decide (s = ([110, 97, 110] : List UInt8))))] w (by kernel_rfl) (.cons o1 .nil) ?_
  refine GoS.cond (decide (s = ([110, 97, 110] : List UInt8))) [.code (csub (cd Try.f15) [1,0,1,0]), .code (csub (cd Try.f15) [1,1])] [.code (csub (cd Try.f15) [1,0,1,1]), .code (csub (cd Try.f15) [1,1])] (by kernel_rfl) (fun h2 => ?_) (fun h2 => ?_)
  ·
    have h2p : s = ([110, 97, 110] : List UInt8) := of_decide_eq_true h2
    refine GoS.run [2, 3] [.n, .n, .n, .n, .n] _ [.code (csub (cd Try.f15) [1,0,1,0,1]), .code (csub (cd Try.f15) [1,1])] [(2, .int .u64 9221120237041090560), (3, .int .i64 0)] w (by kernel_rfl) .nil ?_
    refine GoS.ret (fn := Try.f15) (v := (.tuple #[.int .u64 9221120237041090560, .int .i64 0])) Try.func15 (by kernel_rfl) ?_
    rw [hR]
    obtain ⟨e1, e2⟩ := parse_nan h2p
    exact ⟨by rw [e1, e2]; rfl, hD0⟩
  ·
    have h2p : ¬ (s = ([110, 97, 110] : List UInt8)) := of_decide_eq_false h2
    refine GoS.run [0] [.n] _ [.code (csub (cd Try.f15) [1,1])] [(0, .string (sb s))] w (by kernel_rfl) .nil ?_
    have o3 : (binOp .eql 9 (.string (sb s)) (.string (sb ([105, 110, 102] : List UInt8)))).run Try.prog w = .ok (.bool (decide (s = ([105, 110, 102] : List UInt8)))) w := f_streq
    refine GoS.run [0, 14] [.n, .n, .n, .n, .h (.bool (decide (s = ([105, 110, 102] : List UInt8)))), .n] _ [.code (csub (cd Try.f15) [1,1,0,1]), .code (csub (cd Try.f15) [1,1,1])] [(0, .string (sb s)), (14, .bool (decide (s = ([105, 110, 102] : List UInt8))))] w (by kernel_rfl) (.cons o3 .nil) ?_
    refine GoS.cond (decide (s = ([105, 110, 102] : List UInt8))) [.code (csub (cd Try.f15) [1,1,0,1,0]), .code (csub (cd Try.f15) [1,1,1])] [.code (csub (cd Try.f15) [1,1,0,1,1]), .code (csub (cd Try.f15) [1,1,1])] (by kernel_rfl) (fun h4 => ?_) (fun h4 => ?_)
    ·
      have h4p : s = ([105, 110, 102] : List UInt8) := of_decide_eq_true h4
      refine GoS.run [2, 3] [.n, .n, .n, .n, .n] _ [.code (csub (cd Try.f15) [1,1,0,1,0,1]), .code (csub (cd Try.f15) [1,1,1])] [(2, .int .u64 9218868437227405312), (3, .int .i64 0)] w (by kernel_rfl) .nil ?_
      refine GoS.ret (fn := Try.f15) (v := (.tuple #[.int .u64 9218868437227405312, .int .i64 0])) Try.func15 (by kernel_rfl) ?_
      rw [hR]
      obtain ⟨e1, e2⟩ := parse_inf h2p h4p
      exact ⟨by rw [e1, e2]; rfl, hD0⟩
    ·
      have h4p : ¬ (s = ([105, 110, 102] : List UInt8)) := of_decide_eq_false h4
      refine GoS.run [0] [.n] _ [.code (csub (cd Try.f15) [1,1,1])] [(0, .string (sb s))] w (by kernel_rfl) .nil ?_
      have o5 : (binOp .eql 9 (.string (sb s)) (.string (sb ([45, 105, 110, 102] : List UInt8)))).run Try.prog w = .ok (.bool (decide (s = ([45, 105, 110, 102] : List UInt8)))) w := f_streq
      refine GoS.run [0, 16] [.n, .n, .n, .n, .h (.bool (decide (s = ([45, 105, 110, 102] : List UInt8)))), .n] _ [.code (csub (cd Try.f15) [1,1,1,0,1]), .code (csub (cd Try.f15) [1,1,1,1])] [(0, .string (sb s)), (16, .bool (decide (s = ([45, 105, 110, 102] : List UInt8))))] w (by kernel_rfl) (.cons o5 .nil) ?_
      refine GoS.cond (decide (s = ([45, 105, 110, 102] : List UInt8))) [.code (csub (cd Try.f15) [1,1,1,0,1,0]), .code (csub (cd Try.f15) [1,1,1,1])] [.code (csub (cd Try.f15) [1,1,1,0,1,1]), .code (csub (cd Try.f15) [1,1,1,1])] (by kernel_rfl) (fun h6 => ?_) (fun h6 => ?_)
      ·
        have h6p : s = ([45, 105, 110, 102] : List UInt8) := of_decide_eq_true h6
        refine GoS.run [2, 3] [.n, .n, .n, .n, .n] _ [.code (csub (cd Try.f15) [1,1,1,0,1,0,1]), .code (csub (cd Try.f15) [1,1,1,1])] [(2, .int .u64 18442240474082181120), (3, .int .i64 0)] w (by kernel_rfl) .nil ?_
        refine GoS.ret (fn := Try.f15) (v := (.tuple #[.int .u64 18442240474082181120, .int .i64 0])) Try.func15 (by kernel_rfl) ?_
        rw [hR]
        obtain ⟨e1, e2⟩ := parse_ninf h2p h4p h6p
        exact ⟨by rw [e1, e2]; rfl, hD0⟩
      ·
        have h6p : ¬ (s = ([45, 105, 110, 102] : List UInt8)) := of_decide_eq_false h6
        refine GoS.run [0] [.n] _ [.code (csub (cd Try.f15) [1,1,1,1])] [(0, .string (sb s))] w (by kernel_rfl) .nil ?_
        have o7 : (Builtin.len_ #[9] 3 #[.string (sb s)]).run Try.prog w = .ok (.int .i64 ((s.length : Nat) : Int)) w := f_len (by kernel_rfl)
        refine GoS.run [0, 4, 20] [.n, .n, .n, .n, .n, .n, .n, .n, .h (.int .i64 ((s.length : Nat) : Int)), .n, .n] _ [.inRegion (cops (csub (cd Try.f15) [1,1,1,1,1,0,0])) [4,5,6,7], .code (csub (cd Try.f15) [1,1,1,1,1,0,1]), .code (csub (cd Try.f15) [1,1,1,1,1,1])] [(0, .string (sb s)), (4, .int .u64 0), (20, .bool (decide (((s.length : Nat) : Int) > 0)))] w (by kernel_rfl) (.cons o7 .nil) ?_
        refine GoS.fork 20 (decide (((s.length : Nat) : Int) > 0)) (by kernel_rfl) (fun h8 => ?_) (fun h8 => ?_)
        ·
          have h8p : ((s.length : Nat) : Int) > 0 := of_decide_eq_true h8
          have hb9 := bl_bd s 0
          have o10 : (Instr.index 9 (.string (sb s)) (.int .i64 0)).run Try.prog w = .ok (.int .u8 (bl s 0)) w := f_index 0 (by kernel_rfl) (by omega) (by first | omega | exact List.length_pos_iff.2 (by assumption))
          refine GoS.run [0, 4, 24] [.n, .h (.int .u8 (bl s 0)), .n, .n] _ [.inRegion (cops (csub (cd Try.f15) [1,1,1,1,1,0,0])) [], .code (csub (cd Try.f15) [1,1,1,1,1,0,1]), .code (csub (cd Try.f15) [1,1,1,1,1,1])] [(0, .string (sb s)), (4, .int .u64 0), (24, .bool ((bl s 0) == 45))] w (by kernel_rfl) (.cons o10 .nil) ?_
          refine GoS.run [0, 4, 24] [.n] _ [.code (csub (cd Try.f15) [1,1,1,1,1,0,1]), .code (csub (cd Try.f15) [1,1,1,1,1,1])] [(0, .string (sb s)), (4, .int .u64 0), (24, .bool ((bl s 0) == 45))] w (by kernel_rfl) .nil ?_
          refine GoS.cond ((bl s 0) == 45) [.code (csub (cd Try.f15) [1,1,1,1,1,0,1,0]), .code (csub (cd Try.f15) [1,1,1,1,1,1])] [.code (csub (cd Try.f15) [1,1,1,1,1,0,1,1]), .code (csub (cd Try.f15) [1,1,1,1,1,1])] (by kernel_rfl) (fun h11 => ?_) (fun h11 => ?_)
          ·
            have h11p : (bl s 0) = 45 := eq_of_beq h11
            have o12 : (Instr.sliceAt 9 (.string (sb s)) (some (.int .i64 1)) none none).run Try.prog w = .ok (.string (sb (List.drop 1 s))) w := f_slice_lo 1 (by kernel_rfl) (by omega) (by first | omega | exact List.length_pos_iff.2 (by assumption))
            refine GoS.run [0, 4] [.n, .n, .n, .n, .n, .n, .h (.string (sb (List.drop 1 s))), .n, .n] _ [.code (csub (cd Try.f15) [1,1,1,1,1,1])] [(0, .string (sb (List.drop 1 s))), (4, .int .u64 9223372036854775808)] w (by kernel_rfl) (.cons o12 .nil) ?_
            refine GoS.run [0, 4, 28] [.n, .n, .n] _ [.inRegion (cops (csub (cd Try.f15) [1,1,1,1,1,1,0])) [1,2,3,4,5,6], .code (csub (cd Try.f15) [1,1,1,1,1,1,1])] [(0, .string (sb (List.drop 1 s))), (4, .int .u64 9223372036854775808), (28, .string (sb (List.drop 1 s)))] w (by kernel_rfl) .nil ?_
            refine GoS.call [0, 4] 26 #[.string (sb (List.drop 1 s)), .int .i64 12] (some 29) [.inRegion (cops (csub (cd Try.f15) [1,1,1,1,1,1,0])) [2,3,4,5,6], .code (csub (cd Try.f15) [1,1,1,1,1,1,1])] [(0, .string (sb (List.drop 1 s))), (4, .int .u64 9223372036854775808)] (by kernel_rfl) (digits_c (List.drop 1 s) (by first | omega | (simp only [List.length_drop]; omega)) 12 (by omega) w) ?_
            rintro _ _ ⟨rfl, rfl⟩
            refine ⟨_, rfl, ?_⟩
            have hdb13 := dgF_bd 12 0 (List.drop 1 s)
            have hdv14 := dg12 (List.drop 1 s)
            refine GoS.run [0, 4, 5, 6, 33] [.n, .n, .n, .n, .n, .n, .n, .n, .n, .n, .n, .n] _ [.code (csub (cd Try.f15) [1,1,1,1,1,1,1,0,1]), .code (csub (cd Try.f15) [1,1,1,1,1,1,1,1])] [(0, .string (sb (List.drop 1 s))), (4, .int .u64 9223372036854775808), (5, .int .i64 (((dgF 12 0 (List.drop 1 s)).1 : Nat) : Int)), (6, .int .u64 (((dgF 12 0 (List.drop 1 s)).2 : Nat) : Int)), (33, .bool ((((dgF 12 0 (List.drop 1 s)).1 : Nat) : Int) == 0))] w (by kernel_rfl) .nil ?_
            refine GoS.cond ((((dgF 12 0 (List.drop 1 s)).1 : Nat) : Int) == 0) [.code (csub (cd Try.f15) [1,1,1,1,1,1,1,0,1,0]), .code (csub (cd Try.f15) [1,1,1,1,1,1,1,1])] [.code (csub (cd Try.f15) [1,1,1,1,1,1,1,0,1,1]), .code (csub (cd Try.f15) [1,1,1,1,1,1,1,1])] (by kernel_rfl) (fun h15 => ?_) (fun h15 => ?_)
            ·
              have h15p : (((dgF 12 0 (List.drop 1 s)).1 : Nat) : Int) = 0 := eq_of_beq h15
              refine GoS.run [2, 3] [.n, .n, .n, .n, .n] _ [.code (csub (cd Try.f15) [1,1,1,1,1,1,1,0,1,0,1]), .code (csub (cd Try.f15) [1,1,1,1,1,1,1,1])] [(2, .int .u64 0), (3, .int .i64 3)] w (by kernel_rfl) .nil ?_
              refine GoS.ret (fn := Try.f15) (v := (.tuple #[.int .u64 0, .int .i64 3])) Try.func15 (by kernel_rfl) ?_
              rw [hR]
              obtain ⟨e1, e2⟩ := parse_neg h2p h4p h6p (minus_yes (List.length_pos_iff.1 (by omega)) h11)
              have hX : scan false 0 0 ((List.drop 1 s).drop 0) = none := by
                rw [List.drop_zero, ← refP_scan]; unfold refP; rw [if_pos (by omega)]
              exact ⟨by rw [e1, e2, hX]; simp only [valP, errP, Nat.pow_zero, Nat.add_zero, cond_true, cond_false]; first | done | rfl, hD0⟩
            ·
              have h15p : ¬ ((((dgF 12 0 (List.drop 1 s)).1 : Nat) : Int) = 0) := p_ne h15
              refine GoS.run [0, 4, 5, 6] [.n] _ [.code (csub (cd Try.f15) [1,1,1,1,1,1,1,1])] [(0, .string (sb (List.drop 1 s))), (4, .int .u64 9223372036854775808), (5, .int .i64 (((dgF 12 0 (List.drop 1 s)).1 : Nat) : Int)), (6, .int .u64 (((dgF 12 0 (List.drop 1 s)).2 : Nat) : Int))] w (by kernel_rfl) .nil ?_
              have o16 : (Instr.sliceAt 9 (.string (sb (List.drop 1 s))) (some (.int .i64 (((dgF 12 0 (List.drop 1 s)).1 : Nat) : Int))) none none).run Try.prog w = .ok (.string (sb (List.drop ((dgF 12 0 (List.drop 1 s)).1) (List.drop 1 s)))) w := f_slice_lo ((dgF 12 0 (List.drop 1 s)).1) (by kernel_rfl) (by omega) (by first | omega | exact List.length_pos_iff.2 (by assumption))
              have o17 : (Builtin.len_ #[9] 3 #[.string (sb (List.drop ((dgF 12 0 (List.drop 1 s)).1) (List.drop 1 s)))]).run Try.prog w = .ok (.int .i64 (((List.drop ((dgF 12 0 (List.drop 1 s)).1) (List.drop 1 s)).length : Nat) : Int)) w := f_len (by kernel_rfl)
              refine GoS.run [0, 4, 6, 7, 39] [.n, .n, .n, .n, .h (.string (sb (List.drop ((dgF 12 0 (List.drop 1 s)).1) (List.drop 1 s)))), .n, .n, .n, .n, .n, .n, .n, .n, .n, .n, .h (.int .i64 (((List.drop ((dgF 12 0 (List.drop 1 s)).1) (List.drop 1 s)).length : Nat) : Int)), .n, .n] _ [.code (csub (cd Try.f15) [1,1,1,1,1,1,1,1,1,1,0,1]), .code (csub (cd Try.f15) [1,1,1,1,1,1,1,1,1,1,1])] [(0, .string (sb (List.drop ((dgF 12 0 (List.drop 1 s)).1) (List.drop 1 s)))), (4, .int .u64 9223372036854775808), (6, .int .u64 (((dgF 12 0 (List.drop 1 s)).2 : Nat) : Int)), (7, .int .u64 1), (39, .bool (decide ((((List.drop ((dgF 12 0 (List.drop 1 s)).1) (List.drop 1 s)).length : Nat) : Int) > 0)))] w (by kernel_rfl) (.cons o16 (.cons o17 .nil)) ?_
              refine GoS.cond (decide ((((List.drop ((dgF 12 0 (List.drop 1 s)).1) (List.drop 1 s)).length : Nat) : Int) > 0)) [.code (csub (cd Try.f15) [1,1,1,1,1,1,1,1,1,1,0,1,0]), .code (csub (cd Try.f15) [1,1,1,1,1,1,1,1,1,1,1])] [.code (csub (cd Try.f15) [1,1,1,1,1,1,1,1,1,1,0,1,1]), .code (csub (cd Try.f15) [1,1,1,1,1,1,1,1,1,1,1])] (by kernel_rfl) (fun h18 => ?_) (fun h18 => ?_)
              ·
                have h18p : (((List.drop ((dgF 12 0 (List.drop 1 s)).1) (List.drop 1 s)).length : Nat) : Int) > 0 := of_decide_eq_true h18
                have o19 : (Instr.sliceAt 9 (.string (sb (List.drop ((dgF 12 0 (List.drop 1 s)).1) (List.drop 1 s)))) (some (.int .i64 1)) none none).run Try.prog w = .ok (.string (sb (List.drop 1 (List.drop ((dgF 12 0 (List.drop 1 s)).1) (List.drop 1 s))))) w := f_slice_lo 1 (by kernel_rfl) (by omega) (by first | omega | exact List.length_pos_iff.2 (by assumption))
                refine GoS.run [0, 4, 6, 7, 42] [.n, .n, .n, .h (.string (sb (List.drop 1 (List.drop ((dgF 12 0 (List.drop 1 s)).1) (List.drop 1 s)))))] _ [.inRegion (cops (csub (cd Try.f15) [1,1,1,1,1,1,1,1,1,1,0,1,0,0])) [2,3,4,5,6,7], .code (csub (cd Try.f15) [1,1,1,1,1,1,1,1,1,1,0,1,0,1]), .code (csub (cd Try.f15) [1,1,1,1,1,1,1,1,1,1,1])] [(0, .string (sb (List.drop ((dgF 12 0 (List.drop 1 s)).1) (List.drop 1 s)))), (4, .int .u64 9223372036854775808), (6, .int .u64 (((dgF 12 0 (List.drop 1 s)).2 : Nat) : Int)), (7, .int .u64 1), (42, .string (sb (List.drop 1 (List.drop ((dgF 12 0 (List.drop 1 s)).1) (List.drop 1 s)))))] w (by kernel_rfl) (.cons o19 .nil) ?_
                refine GoS.call [0, 4, 6, 7] 26 #[.string (sb (List.drop 1 (List.drop ((dgF 12 0 (List.drop 1 s)).1) (List.drop 1 s)))), .int .i64 3] (some 43) [.inRegion (cops (csub (cd Try.f15) [1,1,1,1,1,1,1,1,1,1,0,1,0,0])) [3,4,5,6,7], .code (csub (cd Try.f15) [1,1,1,1,1,1,1,1,1,1,0,1,0,1]), .code (csub (cd Try.f15) [1,1,1,1,1,1,1,1,1,1,1])] [(0, .string (sb (List.drop ((dgF 12 0 (List.drop 1 s)).1) (List.drop 1 s)))), (4, .int .u64 9223372036854775808), (6, .int .u64 (((dgF 12 0 (List.drop 1 s)).2 : Nat) : Int)), (7, .int .u64 1)] (by kernel_rfl) (digits_c (List.drop 1 (List.drop ((dgF 12 0 (List.drop 1 s)).1) (List.drop 1 s))) (by first | omega | (simp only [List.length_drop]; omega)) 3 (by omega) w) ?_
                rintro _ _ ⟨rfl, rfl⟩
                refine ⟨_, rfl, ?_⟩
                have hdb20 := dgF_bd 3 0 (List.drop 1 (List.drop ((dgF 12 0 (List.drop 1 s)).1) (List.drop 1 s)))
                have hdv21 := dg3 (List.drop 1 (List.drop ((dgF 12 0 (List.drop 1 s)).1) (List.drop 1 s)))
                have hb22 := bl_bd (List.drop ((dgF 12 0 (List.drop 1 s)).1) (List.drop 1 s)) 0
                have o23 : (Instr.index 9 (.string (sb (List.drop ((dgF 12 0 (List.drop 1 s)).1) (List.drop 1 s)))) (.int .i64 0)).run Try.prog w = .ok (.int .u8 (bl (List.drop ((dgF 12 0 (List.drop 1 s)).1) (List.drop 1 s)) 0)) w := f_index 0 (by kernel_rfl) (by omega) (by first | omega | exact List.length_pos_iff.2 (by assumption))
                refine GoS.run [0, 4, 6, 7, 8, 9, 49] [.n, .n, .n, .n, .n, .n, .n, .n, .n, .n, .h (.int .u8 (bl (List.drop ((dgF 12 0 (List.drop 1 s)).1) (List.drop 1 s)) 0)), .n, .n] _ [.inRegion (cops (csub (cd Try.f15) [1,1,1,1,1,1,1,1,1,1,0,1,0,1,0,0])) [4,5,6,7,8,9,10,11,12,13], .code (csub (cd Try.f15) [1,1,1,1,1,1,1,1,1,1,0,1,0,1,0,1]), .code (csub (cd Try.f15) [1,1,1,1,1,1,1,1,1,1,0,1,0,1,1]), .code (csub (cd Try.f15) [1,1,1,1,1,1,1,1,1,1,1])] [(0, .string (sb (List.drop ((dgF 12 0 (List.drop 1 s)).1) (List.drop 1 s)))), (4, .int .u64 9223372036854775808), (6, .int .u64 (((dgF 12 0 (List.drop 1 s)).2 : Nat) : Int)), (7, .int .u64 1), (8, .int .i64 (((dgF 3 0 (List.drop 1 (List.drop ((dgF 12 0 (List.drop 1 s)).1) (List.drop 1 s)))).1 : Nat) : Int)), (9, .int .u64 (((dgF 3 0 (List.drop 1 (List.drop ((dgF 12 0 (List.drop 1 s)).1) (List.drop 1 s)))).2 : Nat) : Int)), (49, .bool ((bl (List.drop ((dgF 12 0 (List.drop 1 s)).1) (List.drop 1 s)) 0) != 46))] w (by kernel_rfl) (.cons o23 .nil) ?_
                refine GoS.fork 49 ((bl (List.drop ((dgF 12 0 (List.drop 1 s)).1) (List.drop 1 s)) 0) != 46) (by kernel_rfl) (fun h24 => ?_) (fun h24 => ?_)
                ·
                  have h24p : ¬ ((bl (List.drop ((dgF 12 0 (List.drop 1 s)).1) (List.drop 1 s)) 0) = 46) := bne_iff_ne.1 h24
                  refine GoS.run [4, 6, 7, 8, 9, 59] [.n, .n, .n, .n, .n, .n, .n, .n, .n, .n] _ [.inRegion (cops (csub (cd Try.f15) [1,1,1,1,1,1,1,1,1,1,0,1,0,1,0,0])) [], .code (csub (cd Try.f15) [1,1,1,1,1,1,1,1,1,1,0,1,0,1,0,1]), .code (csub (cd Try.f15) [1,1,1,1,1,1,1,1,1,1,0,1,0,1,1]), .code (csub (cd Try.f15) [1,1,1,1,1,1,1,1,1,1,1])] [(4, .int .u64 9223372036854775808), (6, .int .u64 (((dgF 12 0 (List.drop 1 s)).2 : Nat) : Int)), (7, .int .u64 1), (8, .int .i64 (((dgF 3 0 (List.drop 1 (List.drop ((dgF 12 0 (List.drop 1 s)).1) (List.drop 1 s)))).1 : Nat) : Int)), (9, .int .u64 (((dgF 3 0 (List.drop 1 (List.drop ((dgF 12 0 (List.drop 1 s)).1) (List.drop 1 s)))).2 : Nat) : Int)), (59, .bool true)] w (by kernel_rfl) .nil ?_
                  refine GoS.run [2, 3] [.n, .n, .n, .n, .n, .n, .n] _ [.code (csub (cd Try.f15) [1,1,1,1,1,1,1,1,1,1,0,1,0,1,0,1,0,1]), .code (csub (cd Try.f15) [1,1,1,1,1,1,1,1,1,1,0,1,0,1,1]), .code (csub (cd Try.f15) [1,1,1,1,1,1,1,1,1,1,1])] [(2, .int .u64 0), (3, .int .i64 3)] w (by kernel_rfl) .nil ?_
                  refine GoS.ret (fn := Try.f15) (v := (.tuple #[.int .u64 0, .int .i64 3])) Try.func15 (by kernel_rfl) ?_
                  rw [hR]
                  obtain ⟨e1, e2⟩ := parse_neg h2p h4p h6p (minus_yes (List.length_pos_iff.1 (by omega)) h11)
                  have hX : scan false 0 0 ((List.drop 1 s).drop 0) = none := by
                    rw [List.drop_zero, ← refP_scan]; unfold refP; rw [if_neg (by omega), if_neg (by omega), if_pos (by omega)]
                  exact ⟨by rw [e1, e2, hX]; simp only [valP, errP, Nat.pow_zero, Nat.add_zero, cond_true, cond_false]; first | done | rfl, hD0⟩
                ·
                  have h24p : (bl (List.drop ((dgF 12 0 (List.drop 1 s)).1) (List.drop 1 s)) 0) = 46 := p_eq h24
                  refine GoS.run [0, 4, 6, 7, 8, 9, 53] [.n, .n, .n, .n] _ [.inRegion (cops (csub (cd Try.f15) [1,1,1,1,1,1,1,1,1,1,0,1,0,1,0,0])) [8,9,10,11,12,13], .code (csub (cd Try.f15) [1,1,1,1,1,1,1,1,1,1,0,1,0,1,0,1]), .code (csub (cd Try.f15) [1,1,1,1,1,1,1,1,1,1,0,1,0,1,1]), .code (csub (cd Try.f15) [1,1,1,1,1,1,1,1,1,1,1])] [(0, .string (sb (List.drop ((dgF 12 0 (List.drop 1 s)).1) (List.drop 1 s)))), (4, .int .u64 9223372036854775808), (6, .int .u64 (((dgF 12 0 (List.drop 1 s)).2 : Nat) : Int)), (7, .int .u64 1), (8, .int .i64 (((dgF 3 0 (List.drop 1 (List.drop ((dgF 12 0 (List.drop 1 s)).1) (List.drop 1 s)))).1 : Nat) : Int)), (9, .int .u64 (((dgF 3 0 (List.drop 1 (List.drop ((dgF 12 0 (List.drop 1 s)).1) (List.drop 1 s)))).2 : Nat) : Int)), (53, .bool ((((dgF 3 0 (List.drop 1 (List.drop ((dgF 12 0 (List.drop 1 s)).1) (List.drop 1 s)))).1 : Nat) : Int) == 0))] w (by kernel_rfl) .nil ?_
                  refine GoS.fork 53 ((((dgF 3 0 (List.drop 1 (List.drop ((dgF 12 0 (List.drop 1 s)).1) (List.drop 1 s)))).1 : Nat) : Int) == 0) (by kernel_rfl) (fun h25 => ?_) (fun h25 => ?_)
                  ·
                    have h25p : (((dgF 3 0 (List.drop 1 (List.drop ((dgF 12 0 (List.drop 1 s)).1) (List.drop 1 s)))).1 : Nat) : Int) = 0 := eq_of_beq h25
                    refine GoS.run [4, 6, 7, 8, 9, 59] [.n, .n, .n, .n, .n, .n] _ [.inRegion (cops (csub (cd Try.f15) [1,1,1,1,1,1,1,1,1,1,0,1,0,1,0,0])) [], .code (csub (cd Try.f15) [1,1,1,1,1,1,1,1,1,1,0,1,0,1,0,1]), .code (csub (cd Try.f15) [1,1,1,1,1,1,1,1,1,1,0,1,0,1,1]), .code (csub (cd Try.f15) [1,1,1,1,1,1,1,1,1,1,1])] [(4, .int .u64 9223372036854775808), (6, .int .u64 (((dgF 12 0 (List.drop 1 s)).2 : Nat) : Int)), (7, .int .u64 1), (8, .int .i64 (((dgF 3 0 (List.drop 1 (List.drop ((dgF 12 0 (List.drop 1 s)).1) (List.drop 1 s)))).1 : Nat) : Int)), (9, .int .u64 (((dgF 3 0 (List.drop 1 (List.drop ((dgF 12 0 (List.drop 1 s)).1) (List.drop 1 s)))).2 : Nat) : Int)), (59, .bool true)] w (by kernel_rfl) .nil ?_
                    refine GoS.run [2, 3] [.n, .n, .n, .n, .n, .n, .n] _ [.code (csub (cd Try.f15) [1,1,1,1,1,1,1,1,1,1,0,1,0,1,0,1,0,1]), .code (csub (cd Try.f15) [1,1,1,1,1,1,1,1,1,1,0,1,0,1,1]), .code (csub (cd Try.f15) [1,1,1,1,1,1,1,1,1,1,1])] [(2, .int .u64 0), (3, .int .i64 3)] w (by kernel_rfl) .nil ?_
                    refine GoS.ret (fn := Try.f15) (v := (.tuple #[.int .u64 0, .int .i64 3])) Try.func15 (by kernel_rfl) ?_
                    rw [hR]
                    obtain ⟨e1, e2⟩ := parse_neg h2p h4p h6p (minus_yes (List.length_pos_iff.1 (by omega)) h11)
                    have hX : scan false 0 0 ((List.drop 1 s).drop 0) = none := by
                      rw [List.drop_zero, ← refP_scan]; unfold refP; rw [if_neg (by omega), if_neg (by omega), if_pos (by omega)]
                    exact ⟨by rw [e1, e2, hX]; simp only [valP, errP, Nat.pow_zero, Nat.add_zero, cond_true, cond_false]; first | done | rfl, hD0⟩
                  ·
                    have h25p : ¬ ((((dgF 3 0 (List.drop 1 (List.drop ((dgF 12 0 (List.drop 1 s)).1) (List.drop 1 s)))).1 : Nat) : Int) = 0) := p_ne h25
                    have o26 : (Builtin.len_ #[9] 3 #[.string (sb (List.drop ((dgF 12 0 (List.drop 1 s)).1) (List.drop 1 s)))]).run Try.prog w = .ok (.int .i64 (((List.drop ((dgF 12 0 (List.drop 1 s)).1) (List.drop 1 s)).length : Nat) : Int)) w := f_len (by kernel_rfl)
                    have o27 : (binOp .sub 3 (.int .i64 (((List.drop ((dgF 12 0 (List.drop 1 s)).1) (List.drop 1 s)).length : Nat) : Int)) (.int .i64 1)).run Try.prog w = .ok (.int .i64 ((((List.drop ((dgF 12 0 (List.drop 1 s)).1) (List.drop 1 s)).length : Nat) : Int) - 1)) w := f_sub (IntWalk.i64_in _ (by first | omega | (simp only [List.length_drop]; omega)))
                    refine GoS.run [4, 6, 7, 8, 9, 59] [.n, .n, .h (.int .i64 (((List.drop ((dgF 12 0 (List.drop 1 s)).1) (List.drop 1 s)).length : Nat) : Int)), .h (.int .i64 ((((List.drop ((dgF 12 0 (List.drop 1 s)).1) (List.drop 1 s)).length : Nat) : Int) - 1)), .n, .n] _ [.inRegion (cops (csub (cd Try.f15) [1,1,1,1,1,1,1,1,1,1,0,1,0,1,0,0])) [], .code (csub (cd Try.f15) [1,1,1,1,1,1,1,1,1,1,0,1,0,1,0,1]), .code (csub (cd Try.f15) [1,1,1,1,1,1,1,1,1,1,0,1,0,1,1]), .code (csub (cd Try.f15) [1,1,1,1,1,1,1,1,1,1,1])] [(4, .int .u64 9223372036854775808), (6, .int .u64 (((dgF 12 0 (List.drop 1 s)).2 : Nat) : Int)), (7, .int .u64 1), (8, .int .i64 (((dgF 3 0 (List.drop 1 (List.drop ((dgF 12 0 (List.drop 1 s)).1) (List.drop 1 s)))).1 : Nat) : Int)), (9, .int .u64 (((dgF 3 0 (List.drop 1 (List.drop ((dgF 12 0 (List.drop 1 s)).1) (List.drop 1 s)))).2 : Nat) : Int)), (59, .bool ((((dgF 3 0 (List.drop 1 (List.drop ((dgF 12 0 (List.drop 1 s)).1) (List.drop 1 s)))).1 : Nat) : Int) != ((((List.drop ((dgF 12 0 (List.drop 1 s)).1) (List.drop 1 s)).length : Nat) : Int) - 1)))] w (by kernel_rfl) (.cons o26 (.cons o27 .nil)) ?_
                    refine GoS.run [4, 6, 7, 8, 9, 59] [.n] _ [.code (csub (cd Try.f15) [1,1,1,1,1,1,1,1,1,1,0,1,0,1,0,1]), .code (csub (cd Try.f15) [1,1,1,1,1,1,1,1,1,1,0,1,0,1,1]), .code (csub (cd Try.f15) [1,1,1,1,1,1,1,1,1,1,1])] [(4, .int .u64 9223372036854775808), (6, .int .u64 (((dgF 12 0 (List.drop 1 s)).2 : Nat) : Int)), (7, .int .u64 1), (8, .int .i64 (((dgF 3 0 (List.drop 1 (List.drop ((dgF 12 0 (List.drop 1 s)).1) (List.drop 1 s)))).1 : Nat) : Int)), (9, .int .u64 (((dgF 3 0 (List.drop 1 (List.drop ((dgF 12 0 (List.drop 1 s)).1) (List.drop 1 s)))).2 : Nat) : Int)), (59, .bool ((((dgF 3 0 (List.drop 1 (List.drop ((dgF 12 0 (List.drop 1 s)).1) (List.drop 1 s)))).1 : Nat) : Int) != ((((List.drop ((dgF 12 0 (List.drop 1 s)).1) (List.drop 1 s)).length : Nat) : Int) - 1)))] w (by kernel_rfl) .nil ?_
                    refine GoS.cond ((((dgF 3 0 (List.drop 1 (List.drop ((dgF 12 0 (List.drop 1 s)).1) (List.drop 1 s)))).1 : Nat) : Int) != ((((List.drop ((dgF 12 0 (List.drop 1 s)).1) (List.drop 1 s)).length : Nat) : Int) - 1)) [.code (csub (cd Try.f15) [1,1,1,1,1,1,1,1,1,1,0,1,0,1,0,1,0]), .code (csub (cd Try.f15) [1,1,1,1,1,1,1,1,1,1,0,1,0,1,1]), .code (csub (cd Try.f15) [1,1,1,1,1,1,1,1,1,1,1])] [.code (csub (cd Try.f15) [1,1,1,1,1,1,1,1,1,1,0,1,0,1,0,1,1]), .code (csub (cd Try.f15) [1,1,1,1,1,1,1,1,1,1,0,1,0,1,1]), .code (csub (cd Try.f15) [1,1,1,1,1,1,1,1,1,1,1])] (by kernel_rfl) (fun h28 => ?_) (fun h28 => ?_)
                    ·
                      have h28p : ¬ ((((dgF 3 0 (List.drop 1 (List.drop ((dgF 12 0 (List.drop 1 s)).1) (List.drop 1 s)))).1 : Nat) : Int) = ((((List.drop ((dgF 12 0 (List.drop 1 s)).1) (List.drop 1 s)).length : Nat) : Int) - 1)) := bne_iff_ne.1 h28
                      refine GoS.run [2, 3] [.n, .n, .n, .n, .n] _ [.code (csub (cd Try.f15) [1,1,1,1,1,1,1,1,1,1,0,1,0,1,0,1,0,1]), .code (csub (cd Try.f15) [1,1,1,1,1,1,1,1,1,1,0,1,0,1,1]), .code (csub (cd Try.f15) [1,1,1,1,1,1,1,1,1,1,1])] [(2, .int .u64 0), (3, .int .i64 3)] w (by kernel_rfl) .nil ?_
                      refine GoS.ret (fn := Try.f15) (v := (.tuple #[.int .u64 0, .int .i64 3])) Try.func15 (by kernel_rfl) ?_
                      rw [hR]
                      obtain ⟨e1, e2⟩ := parse_neg h2p h4p h6p (minus_yes (List.length_pos_iff.1 (by omega)) h11)
                      have hX : scan false 0 0 ((List.drop 1 s).drop 0) = none := by
                        rw [List.drop_zero, ← refP_scan]; unfold refP; rw [if_neg (by omega), if_neg (by omega), if_pos (by omega)]
                      exact ⟨by rw [e1, e2, hX]; simp only [valP, errP, Nat.pow_zero, Nat.add_zero, cond_true, cond_false]; first | done | rfl, hD0⟩
                    ·
                      have h28p : (((dgF 3 0 (List.drop 1 (List.drop ((dgF 12 0 (List.drop 1 s)).1) (List.drop 1 s)))).1 : Nat) : Int) = ((((List.drop ((dgF 12 0 (List.drop 1 s)).1) (List.drop 1 s)).length : Nat) : Int) - 1) := p_eq h28
                      refine GoS.run [4, 6, 7, 8, 9] [.n] _ [.code (csub (cd Try.f15) [1,1,1,1,1,1,1,1,1,1,0,1,0,1,1]), .code (csub (cd Try.f15) [1,1,1,1,1,1,1,1,1,1,1])] [(4, .int .u64 9223372036854775808), (6, .int .u64 (((dgF 12 0 (List.drop 1 s)).2 : Nat) : Int)), (7, .int .u64 1), (8, .int .i64 (((dgF 3 0 (List.drop 1 (List.drop ((dgF 12 0 (List.drop 1 s)).1) (List.drop 1 s)))).1 : Nat) : Int)), (9, .int .u64 (((dgF 3 0 (List.drop 1 (List.drop ((dgF 12 0 (List.drop 1 s)).1) (List.drop 1 s)))).2 : Nat) : Int))] w (by kernel_rfl) .nil ?_
                      refine GoS.run [4, 6, 7, 8, 9, 10] [.n, .n, .n, .n, .n, .n, .n] _ [.code (csub (cd Try.f15) [1,1,1,1,1,1,1,1,1,1,0,1,0,1,1,0,1,0,0]), .inLoop (csub (cd Try.f15) [1,1,1,1,1,1,1,1,1,1,0,1,0,1,1,0,1,0,0]), .inBlock 0, .code (csub (cd Try.f15) [1,1,1,1,1,1,1,1,1,1,0,1,0,1,1,1]), .code (csub (cd Try.f15) [1,1,1,1,1,1,1,1,1,1,1])] [(4, .int .u64 9223372036854775808), (6, .int .u64 (((dgF 12 0 (List.drop 1 s)).2 : Nat) : Int)), (7, .int .u64 1), (8, .int .i64 (((dgF 3 0 (List.drop 1 (List.drop ((dgF 12 0 (List.drop 1 s)).1) (List.drop 1 s)))).1 : Nat) : Int)), (9, .int .u64 (((dgF 3 0 (List.drop 1 (List.drop ((dgF 12 0 (List.drop 1 s)).1) (List.drop 1 s)))).2 : Nat) : Int)), (10, .int .i64 0)] w (by kernel_rfl) .nil ?_
                      obtain ⟨e1, e2⟩ := parse_neg h2p h4p h6p (minus_yes (List.length_pos_iff.1 (by omega)) h11)
                      have hX : scan false 0 0 ((List.drop 1 s).drop 0) = some ((dgF 12 0 (List.drop 1 s)).2 * 10 ^ (dgF 3 0 (List.drop 1 (List.drop ((dgF 12 0 (List.drop 1 s)).1) (List.drop 1 s)))).1 + (dgF 3 0 (List.drop 1 (List.drop ((dgF 12 0 (List.drop 1 s)).1) (List.drop 1 s)))).2, (dgF 3 0 (List.drop 1 (List.drop ((dgF 12 0 (List.drop 1 s)).1) (List.drop 1 s)))).1) := by
                        rw [List.drop_zero, ← refP_scan]; unfold refP; rw [if_neg (by omega), if_neg (by omega), if_neg (by omega)]
                      exact GoS.cast (by rw [Nat.pow_zero]; first | done | rfl) (rparse_L 9223372036854775808 (dgF 12 0 (List.drop 1 s)).2 (dgF 3 0 (List.drop 1 (List.drop ((dgF 12 0 (List.drop 1 s)).1) (List.drop 1 s)))).1 (dgF 3 0 (List.drop 1 (List.drop ((dgF 12 0 (List.drop 1 s)).1) (List.drop 1 s)))).2 (by omega) (by omega) (by omega) (by first | exact .inl rfl | exact .inr rfl) R (by rw [hR, e1, e2, hX]; simp only [valP, errP, cond_true, cond_false]; first | done | rfl) 4 0 w (by omega) hD0 (by omega))
              ·
                have h18p : ¬ ((((List.drop ((dgF 12 0 (List.drop 1 s)).1) (List.drop 1 s)).length : Nat) : Int) > 0) := of_decide_eq_false h18
                refine GoS.run [4, 6, 7] [.n] _ [.code (csub (cd Try.f15) [1,1,1,1,1,1,1,1,1,1,1])] [(4, .int .u64 9223372036854775808), (6, .int .u64 (((dgF 12 0 (List.drop 1 s)).2 : Nat) : Int)), (7, .int .u64 1)] w (by kernel_rfl) .nil ?_
                refine GoS.run [4, 72, 73] [.n, .n, .n, .n] _ [.inRegion (cops (csub (cd Try.f15) [1,1,1,1,1,1,1,1,1,1,1,0])) [2,3,4,5,6], .code (csub (cd Try.f15) [1,1,1,1,1,1,1,1,1,1,1,1])] [(4, .int .u64 9223372036854775808), (72, .int .u64 (((dgF 12 0 (List.drop 1 s)).2 : Nat) : Int)), (73, .int .u64 1)] w (by kernel_rfl) .nil ?_
                refine GoS.call [4] 27 #[.int .u64 (((dgF 12 0 (List.drop 1 s)).2 : Nat) : Int), .int .u64 1] (some 74) [.inRegion (cops (csub (cd Try.f15) [1,1,1,1,1,1,1,1,1,1,1,0])) [3,4,5,6], .code (csub (cd Try.f15) [1,1,1,1,1,1,1,1,1,1,1,1])] [(4, .int .u64 9223372036854775808)] (by kernel_rfl) (ratio_c ((dgF 12 0 (List.drop 1 s)).2) 1 (by omega) (by omega) (by omega) w) ?_
                rintro _ w29 ⟨rfl, hd30⟩
                refine ⟨_, rfl, ?_⟩
                have hD31 := hD0.trans hd30
                have hrl32 := ratN_lt (a := ((dgF 12 0 (List.drop 1 s)).2)) (b := 1) (by omega) (by omega) (by omega)
                have o33 : (binOp .add 22 (.int .u64 (((ratN ((dgF 12 0 (List.drop 1 s)).2) 1) : Nat) : Int)) (.int .u64 9223372036854775808)).run Try.prog w29 = .ok (.int .u64 ((((ratN ((dgF 12 0 (List.drop 1 s)).2) 1) + 9223372036854775808) : Nat) : Int)) w29 := f_add (by rw [show (((ratN ((dgF 12 0 (List.drop 1 s)).2) 1) : Nat) : Int) + 9223372036854775808 = ((((ratN ((dgF 12 0 (List.drop 1 s)).2) 1) + 9223372036854775808) : Nat) : Int) by omega]; exact IntWalk.u64_in _ (by first | omega | (simp only [List.length_drop]; omega)))
                refine GoS.run [2, 3] [.n, .h (.int .u64 ((((ratN ((dgF 12 0 (List.drop 1 s)).2) 1) + 9223372036854775808) : Nat) : Int)), .n, .n, .n] _ [.code (csub (cd Try.f15) [1,1,1,1,1,1,1,1,1,1,1,1])] [(2, .int .u64 ((((ratN ((dgF 12 0 (List.drop 1 s)).2) 1) + 9223372036854775808) : Nat) : Int)), (3, .int .i64 0)] w29 (by kernel_rfl) (.cons o33 .nil) ?_
                refine GoS.ret (fn := Try.f15) (v := (.tuple #[.int .u64 ((((ratN ((dgF 12 0 (List.drop 1 s)).2) 1) + 9223372036854775808) : Nat) : Int), .int .i64 0])) Try.func15 (by kernel_rfl) ?_
                rw [hR]
                obtain ⟨e1, e2⟩ := parse_neg h2p h4p h6p (minus_yes (List.length_pos_iff.1 (by omega)) h11)
                have hX : scan false 0 0 ((List.drop 1 s).drop 0) = some ((dgF 12 0 (List.drop 1 s)).2, 0) := by
                  rw [List.drop_zero, ← refP_scan]; unfold refP; rw [if_neg (by omega), if_pos (by omega)]
                exact ⟨by rw [e1, e2, hX]; simp only [valP, errP, Nat.pow_zero, Nat.add_zero, cond_true, cond_false]; first | done | rfl, hD31⟩
          ·
            have h11p : ¬ ((bl s 0) = 45) := p_ne h11
            refine GoS.run [0, 4] [.n] _ [.code (csub (cd Try.f15) [1,1,1,1,1,1])] [(0, .string (sb s)), (4, .int .u64 0)] w (by kernel_rfl) .nil ?_
            refine GoS.run [0, 4, 28] [.n, .n, .n] _ [.inRegion (cops (csub (cd Try.f15) [1,1,1,1,1,1,0])) [1,2,3,4,5,6], .code (csub (cd Try.f15) [1,1,1,1,1,1,1])] [(0, .string (sb s)), (4, .int .u64 0), (28, .string (sb s))] w (by kernel_rfl) .nil ?_
            refine GoS.call [0, 4] 26 #[.string (sb s), .int .i64 12] (some 29) [.inRegion (cops (csub (cd Try.f15) [1,1,1,1,1,1,0])) [2,3,4,5,6], .code (csub (cd Try.f15) [1,1,1,1,1,1,1])] [(0, .string (sb s)), (4, .int .u64 0)] (by kernel_rfl) (digits_c s (by first | omega | (simp only [List.length_drop]; omega)) 12 (by omega) w) ?_
            rintro _ _ ⟨rfl, rfl⟩
            refine ⟨_, rfl, ?_⟩
            have hdb34 := dgF_bd 12 0 s
            have hdv35 := dg12 s
            refine GoS.run [0, 4, 5, 6, 33] [.n, .n, .n, .n, .n, .n, .n, .n, .n, .n, .n, .n] _ [.code (csub (cd Try.f15) [1,1,1,1,1,1,1,0,1]), .code (csub (cd Try.f15) [1,1,1,1,1,1,1,1])] [(0, .string (sb s)), (4, .int .u64 0), (5, .int .i64 (((dgF 12 0 s).1 : Nat) : Int)), (6, .int .u64 (((dgF 12 0 s).2 : Nat) : Int)), (33, .bool ((((dgF 12 0 s).1 : Nat) : Int) == 0))] w (by kernel_rfl) .nil ?_
            refine GoS.cond ((((dgF 12 0 s).1 : Nat) : Int) == 0) [.code (csub (cd Try.f15) [1,1,1,1,1,1,1,0,1,0]), .code (csub (cd Try.f15) [1,1,1,1,1,1,1,1])] [.code (csub (cd Try.f15) [1,1,1,1,1,1,1,0,1,1]), .code (csub (cd Try.f15) [1,1,1,1,1,1,1,1])] (by kernel_rfl) (fun h36 => ?_) (fun h36 => ?_)
            ·
              have h36p : (((dgF 12 0 s).1 : Nat) : Int) = 0 := eq_of_beq h36
              refine GoS.run [2, 3] [.n, .n, .n, .n, .n] _ [.code (csub (cd Try.f15) [1,1,1,1,1,1,1,0,1,0,1]), .code (csub (cd Try.f15) [1,1,1,1,1,1,1,1])] [(2, .int .u64 0), (3, .int .i64 3)] w (by kernel_rfl) .nil ?_
              refine GoS.ret (fn := Try.f15) (v := (.tuple #[.int .u64 0, .int .i64 3])) Try.func15 (by kernel_rfl) ?_
              rw [hR]
              obtain ⟨e1, e2⟩ := parse_pos h2p h4p h6p (minus_no h11)
              have hX : scan false 0 0 (s.drop 0) = none := by
                rw [List.drop_zero, ← refP_scan]; unfold refP; rw [if_pos (by omega)]
              exact ⟨by rw [e1, e2, hX]; simp only [valP, errP, Nat.pow_zero, Nat.add_zero, cond_true, cond_false]; first | done | rfl, hD0⟩
            ·
              have h36p : ¬ ((((dgF 12 0 s).1 : Nat) : Int) = 0) := p_ne h36
              refine GoS.run [0, 4, 5, 6] [.n] _ [.code (csub (cd Try.f15) [1,1,1,1,1,1,1,1])] [(0, .string (sb s)), (4, .int .u64 0), (5, .int .i64 (((dgF 12 0 s).1 : Nat) : Int)), (6, .int .u64 (((dgF 12 0 s).2 : Nat) : Int))] w (by kernel_rfl) .nil ?_
              have o37 : (Instr.sliceAt 9 (.string (sb s)) (some (.int .i64 (((dgF 12 0 s).1 : Nat) : Int))) none none).run Try.prog w = .ok (.string (sb (List.drop ((dgF 12 0 s).1) s))) w := f_slice_lo ((dgF 12 0 s).1) (by kernel_rfl) (by omega) (by first | omega | exact List.length_pos_iff.2 (by assumption))
              have o38 : (Builtin.len_ #[9] 3 #[.string (sb (List.drop ((dgF 12 0 s).1) s))]).run Try.prog w = .ok (.int .i64 (((List.drop ((dgF 12 0 s).1) s).length : Nat) : Int)) w := f_len (by kernel_rfl)
              refine GoS.run [0, 4, 6, 7, 39] [.n, .n, .n, .n, .h (.string (sb (List.drop ((dgF 12 0 s).1) s))), .n, .n, .n, .n, .n, .n, .n, .n, .n, .n, .h (.int .i64 (((List.drop ((dgF 12 0 s).1) s).length : Nat) : Int)), .n, .n] _ [.code (csub (cd Try.f15) [1,1,1,1,1,1,1,1,1,1,0,1]), .code (csub (cd Try.f15) [1,1,1,1,1,1,1,1,1,1,1])] [(0, .string (sb (List.drop ((dgF 12 0 s).1) s))), (4, .int .u64 0), (6, .int .u64 (((dgF 12 0 s).2 : Nat) : Int)), (7, .int .u64 1), (39, .bool (decide ((((List.drop ((dgF 12 0 s).1) s).length : Nat) : Int) > 0)))] w (by kernel_rfl) (.cons o37 (.cons o38 .nil)) ?_
              refine GoS.cond (decide ((((List.drop ((dgF 12 0 s).1) s).length : Nat) : Int) > 0)) [.code (csub (cd Try.f15) [1,1,1,1,1,1,1,1,1,1,0,1,0]), .code (csub (cd Try.f15) [1,1,1,1,1,1,1,1,1,1,1])] [.code (csub (cd Try.f15) [1,1,1,1,1,1,1,1,1,1,0,1,1]), .code (csub (cd Try.f15) [1,1,1,1,1,1,1,1,1,1,1])] (by kernel_rfl) (fun h39 => ?_) (fun h39 => ?_)
              ·
                have h39p : (((List.drop ((dgF 12 0 s).1) s).length : Nat) : Int) > 0 := of_decide_eq_true h39
                have o40 : (Instr.sliceAt 9 (.string (sb (List.drop ((dgF 12 0 s).1) s))) (some (.int .i64 1)) none none).run Try.prog w = .ok (.string (sb (List.drop 1 (List.drop ((dgF 12 0 s).1) s)))) w := f_slice_lo 1 (by kernel_rfl) (by omega) (by first | omega | exact List.length_pos_iff.2 (by assumption))
                refine GoS.run [0, 4, 6, 7, 42] [.n, .n, .n, .h (.string (sb (List.drop 1 (List.drop ((dgF 12 0 s).1) s))))] _ [.inRegion (cops (csub (cd Try.f15) [1,1,1,1,1,1,1,1,1,1,0,1,0,0])) [2,3,4,5,6,7], .code (csub (cd Try.f15) [1,1,1,1,1,1,1,1,1,1,0,1,0,1]), .code (csub (cd Try.f15) [1,1,1,1,1,1,1,1,1,1,1])] [(0, .string (sb (List.drop ((dgF 12 0 s).1) s))), (4, .int .u64 0), (6, .int .u64 (((dgF 12 0 s).2 : Nat) : Int)), (7, .int .u64 1), (42, .string (sb (List.drop 1 (List.drop ((dgF 12 0 s).1) s))))] w (by kernel_rfl) (.cons o40 .nil) ?_
                refine GoS.call [0, 4, 6, 7] 26 #[.string (sb (List.drop 1 (List.drop ((dgF 12 0 s).1) s))), .int .i64 3] (some 43) [.inRegion (cops (csub (cd Try.f15) [1,1,1,1,1,1,1,1,1,1,0,1,0,0])) [3,4,5,6,7], .code (csub (cd Try.f15) [1,1,1,1,1,1,1,1,1,1,0,1,0,1]), .code (csub (cd Try.f15) [1,1,1,1,1,1,1,1,1,1,1])] [(0, .string (sb (List.drop ((dgF 12 0 s).1) s))), (4, .int .u64 0), (6, .int .u64 (((dgF 12 0 s).2 : Nat) : Int)), (7, .int .u64 1)] (by kernel_rfl) (digits_c (List.drop 1 (List.drop ((dgF 12 0 s).1) s)) (by first | omega | (simp only [List.length_drop]; omega)) 3 (by omega) w) ?_
                rintro _ _ ⟨rfl, rfl⟩
                refine ⟨_, rfl, ?_⟩
                have hdb41 := dgF_bd 3 0 (List.drop 1 (List.drop ((dgF 12 0 s).1) s))
                have hdv42 := dg3 (List.drop 1 (List.drop ((dgF 12 0 s).1) s))
                have hb43 := bl_bd (List.drop ((dgF 12 0 s).1) s) 0
                have o44 : (Instr.index 9 (.string (sb (List.drop ((dgF 12 0 s).1) s))) (.int .i64 0)).run Try.prog w = .ok (.int .u8 (bl (List.drop ((dgF 12 0 s).1) s) 0)) w := f_index 0 (by kernel_rfl) (by omega) (by first | omega | exact List.length_pos_iff.2 (by assumption))
                refine GoS.run [0, 4, 6, 7, 8, 9, 49] [.n, .n, .n, .n, .n, .n, .n, .n, .n, .n, .h (.int .u8 (bl (List.drop ((dgF 12 0 s).1) s) 0)), .n, .n] _ [.inRegion (cops (csub (cd Try.f15) [1,1,1,1,1,1,1,1,1,1,0,1,0,1,0,0])) [4,5,6,7,8,9,10,11,12,13], .code (csub (cd Try.f15) [1,1,1,1,1,1,1,1,1,1,0,1,0,1,0,1]), .code (csub (cd Try.f15) [1,1,1,1,1,1,1,1,1,1,0,1,0,1,1]), .code (csub (cd Try.f15) [1,1,1,1,1,1,1,1,1,1,1])] [(0, .string (sb (List.drop ((dgF 12 0 s).1) s))), (4, .int .u64 0), (6, .int .u64 (((dgF 12 0 s).2 : Nat) : Int)), (7, .int .u64 1), (8, .int .i64 (((dgF 3 0 (List.drop 1 (List.drop ((dgF 12 0 s).1) s))).1 : Nat) : Int)), (9, .int .u64 (((dgF 3 0 (List.drop 1 (List.drop ((dgF 12 0 s).1) s))).2 : Nat) : Int)), (49, .bool ((bl (List.drop ((dgF 12 0 s).1) s) 0) != 46))] w (by kernel_rfl) (.cons o44 .nil) ?_
                refine GoS.fork 49 ((bl (List.drop ((dgF 12 0 s).1) s) 0) != 46) (by kernel_rfl) (fun h45 => ?_) (fun h45 => ?_)
                ·
                  have h45p : ¬ ((bl (List.drop ((dgF 12 0 s).1) s) 0) = 46) := bne_iff_ne.1 h45
                  refine GoS.run [4, 6, 7, 8, 9, 59] [.n, .n, .n, .n, .n, .n, .n, .n, .n, .n] _ [.inRegion (cops (csub (cd Try.f15) [1,1,1,1,1,1,1,1,1,1,0,1,0,1,0,0])) [], .code (csub (cd Try.f15) [1,1,1,1,1,1,1,1,1,1,0,1,0,1,0,1]), .code (csub (cd Try.f15) [1,1,1,1,1,1,1,1,1,1,0,1,0,1,1]), .code (csub (cd Try.f15) [1,1,1,1,1,1,1,1,1,1,1])] [(4, .int .u64 0), (6, .int .u64 (((dgF 12 0 s).2 : Nat) : Int)), (7, .int .u64 1), (8, .int .i64 (((dgF 3 0 (List.drop 1 (List.drop ((dgF 12 0 s).1) s))).1 : Nat) : Int)), (9, .int .u64 (((dgF 3 0 (List.drop 1 (List.drop ((dgF 12 0 s).1) s))).2 : Nat) : Int)), (59, .bool true)] w (by kernel_rfl) .nil ?_
                  refine GoS.run [2, 3] [.n, .n, .n, .n, .n, .n, .n] _ [.code (csub (cd Try.f15) [1,1,1,1,1,1,1,1,1,1,0,1,0,1,0,1,0,1]), .code (csub (cd Try.f15) [1,1,1,1,1,1,1,1,1,1,0,1,0,1,1]), .code (csub (cd Try.f15) [1,1,1,1,1,1,1,1,1,1,1])] [(2, .int .u64 0), (3, .int .i64 3)] w (by kernel_rfl) .nil ?_
                  refine GoS.ret (fn := Try.f15) (v := (.tuple #[.int .u64 0, .int .i64 3])) Try.func15 (by kernel_rfl) ?_
                  rw [hR]
                  obtain ⟨e1, e2⟩ := parse_pos h2p h4p h6p (minus_no h11)
                  have hX : scan false 0 0 (s.drop 0) = none := by
                    rw [List.drop_zero, ← refP_scan]; unfold refP; rw [if_neg (by omega), if_neg (by omega), if_pos (by omega)]
                  exact ⟨by rw [e1, e2, hX]; simp only [valP, errP, Nat.pow_zero, Nat.add_zero, cond_true, cond_false]; first | done | rfl, hD0⟩
                ·
                  have h45p : (bl (List.drop ((dgF 12 0 s).1) s) 0) = 46 := p_eq h45
                  refine GoS.run [0, 4, 6, 7, 8, 9, 53] [.n, .n, .n, .n] _ [.inRegion (cops (csub (cd Try.f15) [1,1,1,1,1,1,1,1,1,1,0,1,0,1,0,0])) [8,9,10,11,12,13], .code (csub (cd Try.f15) [1,1,1,1,1,1,1,1,1,1,0,1,0,1,0,1]), .code (csub (cd Try.f15) [1,1,1,1,1,1,1,1,1,1,0,1,0,1,1]), .code (csub (cd Try.f15) [1,1,1,1,1,1,1,1,1,1,1])] [(0, .string (sb (List.drop ((dgF 12 0 s).1) s))), (4, .int .u64 0), (6, .int .u64 (((dgF 12 0 s).2 : Nat) : Int)), (7, .int .u64 1), (8, .int .i64 (((dgF 3 0 (List.drop 1 (List.drop ((dgF 12 0 s).1) s))).1 : Nat) : Int)), (9, .int .u64 (((dgF 3 0 (List.drop 1 (List.drop ((dgF 12 0 s).1) s))).2 : Nat) : Int)), (53, .bool ((((dgF 3 0 (List.drop 1 (List.drop ((dgF 12 0 s).1) s))).1 : Nat) : Int) == 0))] w (by kernel_rfl) .nil ?_
                  refine GoS.fork 53 ((((dgF 3 0 (List.drop 1 (List.drop ((dgF 12 0 s).1) s))).1 : Nat) : Int) == 0) (by kernel_rfl) (fun h46 => ?_) (fun h46 => ?_)
                  ·
                    have h46p : (((dgF 3 0 (List.drop 1 (List.drop ((dgF 12 0 s).1) s))).1 : Nat) : Int) = 0 := eq_of_beq h46
                    refine GoS.run [4, 6, 7, 8, 9, 59] [.n, .n, .n, .n, .n, .n] _ [.inRegion (cops (csub (cd Try.f15) [1,1,1,1,1,1,1,1,1,1,0,1,0,1,0,0])) [], .code (csub (cd Try.f15) [1,1,1,1,1,1,1,1,1,1,0,1,0,1,0,1]), .code (csub (cd Try.f15) [1,1,1,1,1,1,1,1,1,1,0,1,0,1,1]), .code (csub (cd Try.f15) [1,1,1,1,1,1,1,1,1,1,1])] [(4, .int .u64 0), (6, .int .u64 (((dgF 12 0 s).2 : Nat) : Int)), (7, .int .u64 1), (8, .int .i64 (((dgF 3 0 (List.drop 1 (List.drop ((dgF 12 0 s).1) s))).1 : Nat) : Int)), (9, .int .u64 (((dgF 3 0 (List.drop 1 (List.drop ((dgF 12 0 s).1) s))).2 : Nat) : Int)), (59, .bool true)] w (by kernel_rfl) .nil ?_
                    refine GoS.run [2, 3] [.n, .n, .n, .n, .n, .n, .n] _ [.code (csub (cd Try.f15) [1,1,1,1,1,1,1,1,1,1,0,1,0,1,0,1,0,1]), .code (csub (cd Try.f15) [1,1,1,1,1,1,1,1,1,1,0,1,0,1,1]), .code (csub (cd Try.f15) [1,1,1,1,1,1,1,1,1,1,1])] [(2, .int .u64 0), (3, .int .i64 3)] w (by kernel_rfl) .nil ?_
                    refine GoS.ret (fn := Try.f15) (v := (.tuple #[.int .u64 0, .int .i64 3])) Try.func15 (by kernel_rfl) ?_
                    rw [hR]
                    obtain ⟨e1, e2⟩ := parse_pos h2p h4p h6p (minus_no h11)
                    have hX : scan false 0 0 (s.drop 0) = none := by
                      rw [List.drop_zero, ← refP_scan]; unfold refP; rw [if_neg (by omega), if_neg (by omega), if_pos (by omega)]
                    exact ⟨by rw [e1, e2, hX]; simp only [valP, errP, Nat.pow_zero, Nat.add_zero, cond_true, cond_false]; first | done | rfl, hD0⟩
                  ·
                    have h46p : ¬ ((((dgF 3 0 (List.drop 1 (List.drop ((dgF 12 0 s).1) s))).1 : Nat) : Int) = 0) := p_ne h46
                    have o47 : (Builtin.len_ #[9] 3 #[.string (sb (List.drop ((dgF 12 0 s).1) s))]).run Try.prog w = .ok (.int .i64 (((List.drop ((dgF 12 0 s).1) s).length : Nat) : Int)) w := f_len (by kernel_rfl)
                    have o48 : (binOp .sub 3 (.int .i64 (((List.drop ((dgF 12 0 s).1) s).length : Nat) : Int)) (.int .i64 1)).run Try.prog w = .ok (.int .i64 ((((List.drop ((dgF 12 0 s).1) s).length : Nat) : Int) - 1)) w := f_sub (IntWalk.i64_in _ (by first | omega | (simp only [List.length_drop]; omega)))
                    refine GoS.run [4, 6, 7, 8, 9, 59] [.n, .n, .h (.int .i64 (((List.drop ((dgF 12 0 s).1) s).length : Nat) : Int)), .h (.int .i64 ((((List.drop ((dgF 12 0 s).1) s).length : Nat) : Int) - 1)), .n, .n] _ [.inRegion (cops (csub (cd Try.f15) [1,1,1,1,1,1,1,1,1,1,0,1,0,1,0,0])) [], .code (csub (cd Try.f15) [1,1,1,1,1,1,1,1,1,1,0,1,0,1,0,1]), .code (csub (cd Try.f15) [1,1,1,1,1,1,1,1,1,1,0,1,0,1,1]), .code (csub (cd Try.f15) [1,1,1,1,1,1,1,1,1,1,1])] [(4, .int .u64 0), (6, .int .u64 (((dgF 12 0 s).2 : Nat) : Int)), (7, .int .u64 1), (8, .int .i64 (((dgF 3 0 (List.drop 1 (List.drop ((dgF 12 0 s).1) s))).1 : Nat) : Int)), (9, .int .u64 (((dgF 3 0 (List.drop 1 (List.drop ((dgF 12 0 s).1) s))).2 : Nat) : Int)), (59, .bool ((((dgF 3 0 (List.drop 1 (List.drop ((dgF 12 0 s).1) s))).1 : Nat) : Int) != ((((List.drop ((dgF 12 0 s).1) s).length : Nat) : Int) - 1)))] w (by kernel_rfl) (.cons o47 (.cons o48 .nil)) ?_
                    refine GoS.run [4, 6, 7, 8, 9, 59] [.n] _ [.code (csub (cd Try.f15) [1,1,1,1,1,1,1,1,1,1,0,1,0,1,0,1]), .code (csub (cd Try.f15) [1,1,1,1,1,1,1,1,1,1,0,1,0,1,1]), .code (csub (cd Try.f15) [1,1,1,1,1,1,1,1,1,1,1])] [(4, .int .u64 0), (6, .int .u64 (((dgF 12 0 s).2 : Nat) : Int)), (7, .int .u64 1), (8, .int .i64 (((dgF 3 0 (List.drop 1 (List.drop ((dgF 12 0 s).1) s))).1 : Nat) : Int)), (9, .int .u64 (((dgF 3 0 (List.drop 1 (List.drop ((dgF 12 0 s).1) s))).2 : Nat) : Int)), (59, .bool ((((dgF 3 0 (List.drop 1 (List.drop ((dgF 12 0 s).1) s))).1 : Nat) : Int) != ((((List.drop ((dgF 12 0 s).1) s).length : Nat) : Int) - 1)))] w (by kernel_rfl) .nil ?_
                    refine GoS.cond ((((dgF 3 0 (List.drop 1 (List.drop ((dgF 12 0 s).1) s))).1 : Nat) : Int) != ((((List.drop ((dgF 12 0 s).1) s).length : Nat) : Int) - 1)) [.code (csub (cd Try.f15) [1,1,1,1,1,1,1,1,1,1,0,1,0,1,0,1,0]), .code (csub (cd Try.f15) [1,1,1,1,1,1,1,1,1,1,0,1,0,1,1]), .code (csub (cd Try.f15) [1,1,1,1,1,1,1,1,1,1,1])] [.code (csub (cd Try.f15) [1,1,1,1,1,1,1,1,1,1,0,1,0,1,0,1,1]), .code (csub (cd Try.f15) [1,1,1,1,1,1,1,1,1,1,0,1,0,1,1]), .code (csub (cd Try.f15) [1,1,1,1,1,1,1,1,1,1,1])] (by kernel_rfl) (fun h49 => ?_) (fun h49 => ?_)
                    ·
                      have h49p : ¬ ((((dgF 3 0 (List.drop 1 (List.drop ((dgF 12 0 s).1) s))).1 : Nat) : Int) = ((((List.drop ((dgF 12 0 s).1) s).length : Nat) : Int) - 1)) := bne_iff_ne.1 h49
                      refine GoS.run [2, 3] [.n, .n, .n, .n, .n] _ [.code (csub (cd Try.f15) [1,1,1,1,1,1,1,1,1,1,0,1,0,1,0,1,0,1]), .code (csub (cd Try.f15) [1,1,1,1,1,1,1,1,1,1,0,1,0,1,1]), .code (csub (cd Try.f15) [1,1,1,1,1,1,1,1,1,1,1])] [(2, .int .u64 0), (3, .int .i64 3)] w (by kernel_rfl) .nil ?_
                      refine GoS.ret (fn := Try.f15) (v := (.tuple #[.int .u64 0, .int .i64 3])) Try.func15 (by kernel_rfl) ?_
                      rw [hR]
                      obtain ⟨e1, e2⟩ := parse_pos h2p h4p h6p (minus_no h11)
                      have hX : scan false 0 0 (s.drop 0) = none := by
                        rw [List.drop_zero, ← refP_scan]; unfold refP; rw [if_neg (by omega), if_neg (by omega), if_pos (by omega)]
                      exact ⟨by rw [e1, e2, hX]; simp only [valP, errP, Nat.pow_zero, Nat.add_zero, cond_true, cond_false]; first | done | rfl, hD0⟩
                    ·
                      have h49p : (((dgF 3 0 (List.drop 1 (List.drop ((dgF 12 0 s).1) s))).1 : Nat) : Int) = ((((List.drop ((dgF 12 0 s).1) s).length : Nat) : Int) - 1) := p_eq h49
                      refine GoS.run [4, 6, 7, 8, 9] [.n] _ [.code (csub (cd Try.f15) [1,1,1,1,1,1,1,1,1,1,0,1,0,1,1]), .code (csub (cd Try.f15) [1,1,1,1,1,1,1,1,1,1,1])] [(4, .int .u64 0), (6, .int .u64 (((dgF 12 0 s).2 : Nat) : Int)), (7, .int .u64 1), (8, .int .i64 (((dgF 3 0 (List.drop 1 (List.drop ((dgF 12 0 s).1) s))).1 : Nat) : Int)), (9, .int .u64 (((dgF 3 0 (List.drop 1 (List.drop ((dgF 12 0 s).1) s))).2 : Nat) : Int))] w (by kernel_rfl) .nil ?_
                      refine GoS.run [4, 6, 7, 8, 9, 10] [.n, .n, .n, .n, .n, .n, .n] _ [.code (csub (cd Try.f15) [1,1,1,1,1,1,1,1,1,1,0,1,0,1,1,0,1,0,0]), .inLoop (csub (cd Try.f15) [1,1,1,1,1,1,1,1,1,1,0,1,0,1,1,0,1,0,0]), .inBlock 0, .code (csub (cd Try.f15) [1,1,1,1,1,1,1,1,1,1,0,1,0,1,1,1]), .code (csub (cd Try.f15) [1,1,1,1,1,1,1,1,1,1,1])] [(4, .int .u64 0), (6, .int .u64 (((dgF 12 0 s).2 : Nat) : Int)), (7, .int .u64 1), (8, .int .i64 (((dgF 3 0 (List.drop 1 (List.drop ((dgF 12 0 s).1) s))).1 : Nat) : Int)), (9, .int .u64 (((dgF 3 0 (List.drop 1 (List.drop ((dgF 12 0 s).1) s))).2 : Nat) : Int)), (10, .int .i64 0)] w (by kernel_rfl) .nil ?_
                      obtain ⟨e1, e2⟩ := parse_pos h2p h4p h6p (minus_no h11)
                      have hX : scan false 0 0 (s.drop 0) = some ((dgF 12 0 s).2 * 10 ^ (dgF 3 0 (List.drop 1 (List.drop ((dgF 12 0 s).1) s))).1 + (dgF 3 0 (List.drop 1 (List.drop ((dgF 12 0 s).1) s))).2, (dgF 3 0 (List.drop 1 (List.drop ((dgF 12 0 s).1) s))).1) := by
                        rw [List.drop_zero, ← refP_scan]; unfold refP; rw [if_neg (by omega), if_neg (by omega), if_neg (by omega)]
                      exact GoS.cast (by rw [Nat.pow_zero]; first | done | rfl) (rparse_L 0 (dgF 12 0 s).2 (dgF 3 0 (List.drop 1 (List.drop ((dgF 12 0 s).1) s))).1 (dgF 3 0 (List.drop 1 (List.drop ((dgF 12 0 s).1) s))).2 (by omega) (by omega) (by omega) (by first | exact .inl rfl | exact .inr rfl) R (by rw [hR, e1, e2, hX]; simp only [valP, errP, cond_true, cond_false]; first | done | rfl) 4 0 w (by omega) hD0 (by omega))
              ·
                have h39p : ¬ ((((List.drop ((dgF 12 0 s).1) s).length : Nat) : Int) > 0) := of_decide_eq_false h39
                refine GoS.run [4, 6, 7] [.n] _ [.code (csub (cd Try.f15) [1,1,1,1,1,1,1,1,1,1,1])] [(4, .int .u64 0), (6, .int .u64 (((dgF 12 0 s).2 : Nat) : Int)), (7, .int .u64 1)] w (by kernel_rfl) .nil ?_
                refine GoS.run [4, 72, 73] [.n, .n, .n, .n] _ [.inRegion (cops (csub (cd Try.f15) [1,1,1,1,1,1,1,1,1,1,1,0])) [2,3,4,5,6], .code (csub (cd Try.f15) [1,1,1,1,1,1,1,1,1,1,1,1])] [(4, .int .u64 0), (72, .int .u64 (((dgF 12 0 s).2 : Nat) : Int)), (73, .int .u64 1)] w (by kernel_rfl) .nil ?_
                refine GoS.call [4] 27 #[.int .u64 (((dgF 12 0 s).2 : Nat) : Int), .int .u64 1] (some 74) [.inRegion (cops (csub (cd Try.f15) [1,1,1,1,1,1,1,1,1,1,1,0])) [3,4,5,6], .code (csub (cd Try.f15) [1,1,1,1,1,1,1,1,1,1,1,1])] [(4, .int .u64 0)] (by kernel_rfl) (ratio_c ((dgF 12 0 s).2) 1 (by omega) (by omega) (by omega) w) ?_
                rintro _ w50 ⟨rfl, hd51⟩
                refine ⟨_, rfl, ?_⟩
                have hD52 := hD0.trans hd51
                have hrl53 := ratN_lt (a := ((dgF 12 0 s).2)) (b := 1) (by omega) (by omega) (by omega)
                have o54 : (binOp .add 22 (.int .u64 (((ratN ((dgF 12 0 s).2) 1) : Nat) : Int)) (.int .u64 0)).run Try.prog w50 = .ok (.int .u64 (((ratN ((dgF 12 0 s).2) 1) : Nat) : Int)) w50 := f_add (by rw [show (((ratN ((dgF 12 0 s).2) 1) : Nat) : Int) + 0 = (((ratN ((dgF 12 0 s).2) 1) : Nat) : Int) by omega]; exact IntWalk.u64_in _ (by first | omega | (simp only [List.length_drop]; omega)))
                refine GoS.run [2, 3] [.n, .h (.int .u64 (((ratN ((dgF 12 0 s).2) 1) : Nat) : Int)), .n, .n, .n] _ [.code (csub (cd Try.f15) [1,1,1,1,1,1,1,1,1,1,1,1])] [(2, .int .u64 (((ratN ((dgF 12 0 s).2) 1) : Nat) : Int)), (3, .int .i64 0)] w50 (by kernel_rfl) (.cons o54 .nil) ?_
                refine GoS.ret (fn := Try.f15) (v := (.tuple #[.int .u64 (((ratN ((dgF 12 0 s).2) 1) : Nat) : Int), .int .i64 0])) Try.func15 (by kernel_rfl) ?_
                rw [hR]
                obtain ⟨e1, e2⟩ := parse_pos h2p h4p h6p (minus_no h11)
                have hX : scan false 0 0 (s.drop 0) = some ((dgF 12 0 s).2, 0) := by
                  rw [List.drop_zero, ← refP_scan]; unfold refP; rw [if_neg (by omega), if_pos (by omega)]
                exact ⟨by rw [e1, e2, hX]; simp only [valP, errP, Nat.pow_zero, Nat.add_zero, cond_true, cond_false]; first | done | rfl, hD52⟩
        ·
          have h8p : ¬ (((s.length : Nat) : Int) > 0) := of_decide_eq_false h8
          refine GoS.run [0, 4, 24] [.n, .n, .n, .n] _ [.inRegion (cops (csub (cd Try.f15) [1,1,1,1,1,0,0])) [], .code (csub (cd Try.f15) [1,1,1,1,1,0,1]), .code (csub (cd Try.f15) [1,1,1,1,1,1])] [(0, .string (sb s)), (4, .int .u64 0), (24, .bool false)] w (by kernel_rfl) .nil ?_
          refine GoS.run [0, 4, 28] [.n, .n, .n, .n, .n, .n] _ [.inRegion (cops (csub (cd Try.f15) [1,1,1,1,1,1,0])) [1,2,3,4,5,6], .code (csub (cd Try.f15) [1,1,1,1,1,1,1])] [(0, .string (sb s)), (4, .int .u64 0), (28, .string (sb s))] w (by kernel_rfl) .nil ?_
          refine GoS.call [0, 4] 26 #[.string (sb s), .int .i64 12] (some 29) [.inRegion (cops (csub (cd Try.f15) [1,1,1,1,1,1,0])) [2,3,4,5,6], .code (csub (cd Try.f15) [1,1,1,1,1,1,1])] [(0, .string (sb s)), (4, .int .u64 0)] (by kernel_rfl) (digits_c s (by first | omega | (simp only [List.length_drop]; omega)) 12 (by omega) w) ?_
          rintro _ _ ⟨rfl, rfl⟩
          refine ⟨_, rfl, ?_⟩
          have hdb55 := dgF_bd 12 0 s
          have hdv56 := dg12 s
          refine GoS.run [0, 4, 5, 6, 33] [.n, .n, .n, .n, .n, .n, .n, .n, .n, .n, .n, .n] _ [.code (csub (cd Try.f15) [1,1,1,1,1,1,1,0,1]), .code (csub (cd Try.f15) [1,1,1,1,1,1,1,1])] [(0, .string (sb s)), (4, .int .u64 0), (5, .int .i64 (((dgF 12 0 s).1 : Nat) : Int)), (6, .int .u64 (((dgF 12 0 s).2 : Nat) : Int)), (33, .bool ((((dgF 12 0 s).1 : Nat) : Int) == 0))] w (by kernel_rfl) .nil ?_
          refine GoS.cond ((((dgF 12 0 s).1 : Nat) : Int) == 0) [.code (csub (cd Try.f15) [1,1,1,1,1,1,1,0,1,0]), .code (csub (cd Try.f15) [1,1,1,1,1,1,1,1])] [.code (csub (cd Try.f15) [1,1,1,1,1,1,1,0,1,1]), .code (csub (cd Try.f15) [1,1,1,1,1,1,1,1])] (by kernel_rfl) (fun h57 => ?_) (fun h57 => ?_)
          ·
            have h57p : (((dgF 12 0 s).1 : Nat) : Int) = 0 := eq_of_beq h57
            refine GoS.run [2, 3] [.n, .n, .n, .n, .n] _ [.code (csub (cd Try.f15) [1,1,1,1,1,1,1,0,1,0,1]), .code (csub (cd Try.f15) [1,1,1,1,1,1,1,1])] [(2, .int .u64 0), (3, .int .i64 3)] w (by kernel_rfl) .nil ?_
            refine GoS.ret (fn := Try.f15) (v := (.tuple #[.int .u64 0, .int .i64 3])) Try.func15 (by kernel_rfl) ?_
            rw [hR]
            obtain ⟨e1, e2⟩ := parse_pos h2p h4p h6p (minus_nil (List.eq_nil_of_length_eq_zero (by omega)))
            have hX : scan false 0 0 (s.drop 0) = none := by
              rw [List.drop_zero, ← refP_scan]; unfold refP; rw [if_pos (by omega)]
            exact ⟨by rw [e1, e2, hX]; simp only [valP, errP, Nat.pow_zero, Nat.add_zero, cond_true, cond_false]; first | done | rfl, hD0⟩
          ·
            have h57p : ¬ ((((dgF 12 0 s).1 : Nat) : Int) = 0) := p_ne h57
            refine GoS.run [0, 4, 5, 6] [.n] _ [.code (csub (cd Try.f15) [1,1,1,1,1,1,1,1])] [(0, .string (sb s)), (4, .int .u64 0), (5, .int .i64 (((dgF 12 0 s).1 : Nat) : Int)), (6, .int .u64 (((dgF 12 0 s).2 : Nat) : Int))] w (by kernel_rfl) .nil ?_
            have o58 : (Instr.sliceAt 9 (.string (sb s)) (some (.int .i64 (((dgF 12 0 s).1 : Nat) : Int))) none none).run Try.prog w = .ok (.string (sb (List.drop ((dgF 12 0 s).1) s))) w := f_slice_lo ((dgF 12 0 s).1) (by kernel_rfl) (by omega) (by first | omega | exact List.length_pos_iff.2 (by assumption))
            have o59 : (Builtin.len_ #[9] 3 #[.string (sb (List.drop ((dgF 12 0 s).1) s))]).run Try.prog w = .ok (.int .i64 (((List.drop ((dgF 12 0 s).1) s).length : Nat) : Int)) w := f_len (by kernel_rfl)
            refine GoS.run [0, 4, 6, 7, 39] [.n, .n, .n, .n, .h (.string (sb (List.drop ((dgF 12 0 s).1) s))), .n, .n, .n, .n, .n, .n, .n, .n, .n, .n, .h (.int .i64 (((List.drop ((dgF 12 0 s).1) s).length : Nat) : Int)), .n, .n] _ [.code (csub (cd Try.f15) [1,1,1,1,1,1,1,1,1,1,0,1]), .code (csub (cd Try.f15) [1,1,1,1,1,1,1,1,1,1,1])] [(0, .string (sb (List.drop ((dgF 12 0 s).1) s))), (4, .int .u64 0), (6, .int .u64 (((dgF 12 0 s).2 : Nat) : Int)), (7, .int .u64 1), (39, .bool (decide ((((List.drop ((dgF 12 0 s).1) s).length : Nat) : Int) > 0)))] w (by kernel_rfl) (.cons o58 (.cons o59 .nil)) ?_
            refine GoS.cond (decide ((((List.drop ((dgF 12 0 s).1) s).length : Nat) : Int) > 0)) [.code (csub (cd Try.f15) [1,1,1,1,1,1,1,1,1,1,0,1,0]), .code (csub (cd Try.f15) [1,1,1,1,1,1,1,1,1,1,1])] [.code (csub (cd Try.f15) [1,1,1,1,1,1,1,1,1,1,0,1,1]), .code (csub (cd Try.f15) [1,1,1,1,1,1,1,1,1,1,1])] (by kernel_rfl) (fun h60 => ?_) (fun h60 => ?_)
            ·
              have h60p : (((List.drop ((dgF 12 0 s).1) s).length : Nat) : Int) > 0 := of_decide_eq_true h60
              have o61 : (Instr.sliceAt 9 (.string (sb (List.drop ((dgF 12 0 s).1) s))) (some (.int .i64 1)) none none).run Try.prog w = .ok (.string (sb (List.drop 1 (List.drop ((dgF 12 0 s).1) s)))) w := f_slice_lo 1 (by kernel_rfl) (by omega) (by first | omega | exact List.length_pos_iff.2 (by assumption))
              refine GoS.run [0, 4, 6, 7, 42] [.n, .n, .n, .h (.string (sb (List.drop 1 (List.drop ((dgF 12 0 s).1) s))))] _ [.inRegion (cops (csub (cd Try.f15) [1,1,1,1,1,1,1,1,1,1,0,1,0,0])) [2,3,4,5,6,7], .code (csub (cd Try.f15) [1,1,1,1,1,1,1,1,1,1,0,1,0,1]), .code (csub (cd Try.f15) [1,1,1,1,1,1,1,1,1,1,1])] [(0, .string (sb (List.drop ((dgF 12 0 s).1) s))), (4, .int .u64 0), (6, .int .u64 (((dgF 12 0 s).2 : Nat) : Int)), (7, .int .u64 1), (42, .string (sb (List.drop 1 (List.drop ((dgF 12 0 s).1) s))))] w (by kernel_rfl) (.cons o61 .nil) ?_
              refine GoS.call [0, 4, 6, 7] 26 #[.string (sb (List.drop 1 (List.drop ((dgF 12 0 s).1) s))), .int .i64 3] (some 43) [.inRegion (cops (csub (cd Try.f15) [1,1,1,1,1,1,1,1,1,1,0,1,0,0])) [3,4,5,6,7], .code (csub (cd Try.f15) [1,1,1,1,1,1,1,1,1,1,0,1,0,1]), .code (csub (cd Try.f15) [1,1,1,1,1,1,1,1,1,1,1])] [(0, .string (sb (List.drop ((dgF 12 0 s).1) s))), (4, .int .u64 0), (6, .int .u64 (((dgF 12 0 s).2 : Nat) : Int)), (7, .int .u64 1)] (by kernel_rfl) (digits_c (List.drop 1 (List.drop ((dgF 12 0 s).1) s)) (by first | omega | (simp only [List.length_drop]; omega)) 3 (by omega) w) ?_
              rintro _ _ ⟨rfl, rfl⟩
              refine ⟨_, rfl, ?_⟩
              have hdb62 := dgF_bd 3 0 (List.drop 1 (List.drop ((dgF 12 0 s).1) s))
              have hdv63 := dg3 (List.drop 1 (List.drop ((dgF 12 0 s).1) s))
              have hb64 := bl_bd (List.drop ((dgF 12 0 s).1) s) 0
              have o65 : (Instr.index 9 (.string (sb (List.drop ((dgF 12 0 s).1) s))) (.int .i64 0)).run Try.prog w = .ok (.int .u8 (bl (List.drop ((dgF 12 0 s).1) s) 0)) w := f_index 0 (by kernel_rfl) (by omega) (by first | omega | exact List.length_pos_iff.2 (by assumption))
              refine GoS.run [0, 4, 6, 7, 8, 9, 49] [.n, .n, .n, .n, .n, .n, .n, .n, .n, .n, .h (.int .u8 (bl (List.drop ((dgF 12 0 s).1) s) 0)), .n, .n] _ [.inRegion (cops (csub (cd Try.f15) [1,1,1,1,1,1,1,1,1,1,0,1,0,1,0,0])) [4,5,6,7,8,9,10,11,12,13], .code (csub (cd Try.f15) [1,1,1,1,1,1,1,1,1,1,0,1,0,1,0,1]), .code (csub (cd Try.f15) [1,1,1,1,1,1,1,1,1,1,0,1,0,1,1]), .code (csub (cd Try.f15) [1,1,1,1,1,1,1,1,1,1,1])] [(0, .string (sb (List.drop ((dgF 12 0 s).1) s))), (4, .int .u64 0), (6, .int .u64 (((dgF 12 0 s).2 : Nat) : Int)), (7, .int .u64 1), (8, .int .i64 (((dgF 3 0 (List.drop 1 (List.drop ((dgF 12 0 s).1) s))).1 : Nat) : Int)), (9, .int .u64 (((dgF 3 0 (List.drop 1 (List.drop ((dgF 12 0 s).1) s))).2 : Nat) : Int)), (49, .bool ((bl (List.drop ((dgF 12 0 s).1) s) 0) != 46))] w (by kernel_rfl) (.cons o65 .nil) ?_
              refine GoS.fork 49 ((bl (List.drop ((dgF 12 0 s).1) s) 0) != 46) (by kernel_rfl) (fun h66 => ?_) (fun h66 => ?_)
              ·
                have h66p : ¬ ((bl (List.drop ((dgF 12 0 s).1) s) 0) = 46) := bne_iff_ne.1 h66
                refine GoS.run [4, 6, 7, 8, 9, 59] [.n, .n, .n, .n, .n, .n, .n, .n, .n, .n] _ [.inRegion (cops (csub (cd Try.f15) [1,1,1,1,1,1,1,1,1,1,0,1,0,1,0,0])) [], .code (csub (cd Try.f15) [1,1,1,1,1,1,1,1,1,1,0,1,0,1,0,1]), .code (csub (cd Try.f15) [1,1,1,1,1,1,1,1,1,1,0,1,0,1,1]), .code (csub (cd Try.f15) [1,1,1,1,1,1,1,1,1,1,1])] [(4, .int .u64 0), (6, .int .u64 (((dgF 12 0 s).2 : Nat) : Int)), (7, .int .u64 1), (8, .int .i64 (((dgF 3 0 (List.drop 1 (List.drop ((dgF 12 0 s).1) s))).1 : Nat) : Int)), (9, .int .u64 (((dgF 3 0 (List.drop 1 (List.drop ((dgF 12 0 s).1) s))).2 : Nat) : Int)), (59, .bool true)] w (by kernel_rfl) .nil ?_
                refine GoS.run [2, 3] [.n, .n, .n, .n, .n, .n, .n] _ [.code (csub (cd Try.f15) [1,1,1,1,1,1,1,1,1,1,0,1,0,1,0,1,0,1]), .code (csub (cd Try.f15) [1,1,1,1,1,1,1,1,1,1,0,1,0,1,1]), .code (csub (cd Try.f15) [1,1,1,1,1,1,1,1,1,1,1])] [(2, .int .u64 0), (3, .int .i64 3)] w (by kernel_rfl) .nil ?_
                refine GoS.ret (fn := Try.f15) (v := (.tuple #[.int .u64 0, .int .i64 3])) Try.func15 (by kernel_rfl) ?_
                rw [hR]
                obtain ⟨e1, e2⟩ := parse_pos h2p h4p h6p (minus_nil (List.eq_nil_of_length_eq_zero (by omega)))
                have hX : scan false 0 0 (s.drop 0) = none := by
                  rw [List.drop_zero, ← refP_scan]; unfold refP; rw [if_neg (by omega), if_neg (by omega), if_pos (by omega)]
                exact ⟨by rw [e1, e2, hX]; simp only [valP, errP, Nat.pow_zero, Nat.add_zero, cond_true, cond_false]; first | done | rfl, hD0⟩
              ·
                have h66p : (bl (List.drop ((dgF 12 0 s).1) s) 0) = 46 := p_eq h66
                refine GoS.run [0, 4, 6, 7, 8, 9, 53] [.n, .n, .n, .n] _ [.inRegion (cops (csub (cd Try.f15) [1,1,1,1,1,1,1,1,1,1,0,1,0,1,0,0])) [8,9,10,11,12,13], .code (csub (cd Try.f15) [1,1,1,1,1,1,1,1,1,1,0,1,0,1,0,1]), .code (csub (cd Try.f15) [1,1,1,1,1,1,1,1,1,1,0,1,0,1,1]), .code (csub (cd Try.f15) [1,1,1,1,1,1,1,1,1,1,1])] [(0, .string (sb (List.drop ((dgF 12 0 s).1) s))), (4, .int .u64 0), (6, .int .u64 (((dgF 12 0 s).2 : Nat) : Int)), (7, .int .u64 1), (8, .int .i64 (((dgF 3 0 (List.drop 1 (List.drop ((dgF 12 0 s).1) s))).1 : Nat) : Int)), (9, .int .u64 (((dgF 3 0 (List.drop 1 (List.drop ((dgF 12 0 s).1) s))).2 : Nat) : Int)), (53, .bool ((((dgF 3 0 (List.drop 1 (List.drop ((dgF 12 0 s).1) s))).1 : Nat) : Int) == 0))] w (by kernel_rfl) .nil ?_
                refine GoS.fork 53 ((((dgF 3 0 (List.drop 1 (List.drop ((dgF 12 0 s).1) s))).1 : Nat) : Int) == 0) (by kernel_rfl) (fun h67 => ?_) (fun h67 => ?_)
                ·
                  have h67p : (((dgF 3 0 (List.drop 1 (List.drop ((dgF 12 0 s).1) s))).1 : Nat) : Int) = 0 := eq_of_beq h67
                  refine GoS.run [4, 6, 7, 8, 9, 59] [.n, .n, .n, .n, .n, .n] _ [.inRegion (cops (csub (cd Try.f15) [1,1,1,1,1,1,1,1,1,1,0,1,0,1,0,0])) [], .code (csub (cd Try.f15) [1,1,1,1,1,1,1,1,1,1,0,1,0,1,0,1]), .code (csub (cd Try.f15) [1,1,1,1,1,1,1,1,1,1,0,1,0,1,1]), .code (csub (cd Try.f15) [1,1,1,1,1,1,1,1,1,1,1])] [(4, .int .u64 0), (6, .int .u64 (((dgF 12 0 s).2 : Nat) : Int)), (7, .int .u64 1), (8, .int .i64 (((dgF 3 0 (List.drop 1 (List.drop ((dgF 12 0 s).1) s))).1 : Nat) : Int)), (9, .int .u64 (((dgF 3 0 (List.drop 1 (List.drop ((dgF 12 0 s).1) s))).2 : Nat) : Int)), (59, .bool true)] w (by kernel_rfl) .nil ?_
                  refine GoS.run [2, 3] [.n, .n, .n, .n, .n, .n, .n] _ [.code (csub (cd Try.f15) [1,1,1,1,1,1,1,1,1,1,0,1,0,1,0,1,0,1]), .code (csub (cd Try.f15) [1,1,1,1,1,1,1,1,1,1,0,1,0,1,1]), .code (csub (cd Try.f15) [1,1,1,1,1,1,1,1,1,1,1])] [(2, .int .u64 0), (3, .int .i64 3)] w (by kernel_rfl) .nil ?_
                  refine GoS.ret (fn := Try.f15) (v := (.tuple #[.int .u64 0, .int .i64 3])) Try.func15 (by kernel_rfl) ?_
                  rw [hR]
                  obtain ⟨e1, e2⟩ := parse_pos h2p h4p h6p (minus_nil (List.eq_nil_of_length_eq_zero (by omega)))
                  have hX : scan false 0 0 (s.drop 0) = none := by
                    rw [List.drop_zero, ← refP_scan]; unfold refP; rw [if_neg (by omega), if_neg (by omega), if_pos (by omega)]
                  exact ⟨by rw [e1, e2, hX]; simp only [valP, errP, Nat.pow_zero, Nat.add_zero, cond_true, cond_false]; first | done | rfl, hD0⟩
                ·
                  have h67p : ¬ ((((dgF 3 0 (List.drop 1 (List.drop ((dgF 12 0 s).1) s))).1 : Nat) : Int) = 0) := p_ne h67
                  have o68 : (Builtin.len_ #[9] 3 #[.string (sb (List.drop ((dgF 12 0 s).1) s))]).run Try.prog w = .ok (.int .i64 (((List.drop ((dgF 12 0 s).1) s).length : Nat) : Int)) w := f_len (by kernel_rfl)
                  have o69 : (binOp .sub 3 (.int .i64 (((List.drop ((dgF 12 0 s).1) s).length : Nat) : Int)) (.int .i64 1)).run Try.prog w = .ok (.int .i64 ((((List.drop ((dgF 12 0 s).1) s).length : Nat) : Int) - 1)) w := f_sub (IntWalk.i64_in _ (by first | omega | (simp only [List.length_drop]; omega)))
                  refine GoS.run [4, 6, 7, 8, 9, 59] [.n, .n, .h (.int .i64 (((List.drop ((dgF 12 0 s).1) s).length : Nat) : Int)), .h (.int .i64 ((((List.drop ((dgF 12 0 s).1) s).length : Nat) : Int) - 1)), .n, .n] _ [.inRegion (cops (csub (cd Try.f15) [1,1,1,1,1,1,1,1,1,1,0,1,0,1,0,0])) [], .code (csub (cd Try.f15) [1,1,1,1,1,1,1,1,1,1,0,1,0,1,0,1]), .code (csub (cd Try.f15) [1,1,1,1,1,1,1,1,1,1,0,1,0,1,1]), .code (csub (cd Try.f15) [1,1,1,1,1,1,1,1,1,1,1])] [(4, .int .u64 0), (6, .int .u64 (((dgF 12 0 s).2 : Nat) : Int)), (7, .int .u64 1), (8, .int .i64 (((dgF 3 0 (List.drop 1 (List.drop ((dgF 12 0 s).1) s))).1 : Nat) : Int)), (9, .int .u64 (((dgF 3 0 (List.drop 1 (List.drop ((dgF 12 0 s).1) s))).2 : Nat) : Int)), (59, .bool ((((dgF 3 0 (List.drop 1 (List.drop ((dgF 12 0 s).1) s))).1 : Nat) : Int) != ((((List.drop ((dgF 12 0 s).1) s).length : Nat) : Int) - 1)))] w (by kernel_rfl) (.cons o68 (.cons o69 .nil)) ?_
                  refine GoS.run [4, 6, 7, 8, 9, 59] [.n] _ [.code (csub (cd Try.f15) [1,1,1,1,1,1,1,1,1,1,0,1,0,1,0,1]), .code (csub (cd Try.f15) [1,1,1,1,1,1,1,1,1,1,0,1,0,1,1]), .code (csub (cd Try.f15) [1,1,1,1,1,1,1,1,1,1,1])] [(4, .int .u64 0), (6, .int .u64 (((dgF 12 0 s).2 : Nat) : Int)), (7, .int .u64 1), (8, .int .i64 (((dgF 3 0 (List.drop 1 (List.drop ((dgF 12 0 s).1) s))).1 : Nat) : Int)), (9, .int .u64 (((dgF 3 0 (List.drop 1 (List.drop ((dgF 12 0 s).1) s))).2 : Nat) : Int)), (59, .bool ((((dgF 3 0 (List.drop 1 (List.drop ((dgF 12 0 s).1) s))).1 : Nat) : Int) != ((((List.drop ((dgF 12 0 s).1) s).length : Nat) : Int) - 1)))] w (by kernel_rfl) .nil ?_
                  refine GoS.cond ((((dgF 3 0 (List.drop 1 (List.drop ((dgF 12 0 s).1) s))).1 : Nat) : Int) != ((((List.drop ((dgF 12 0 s).1) s).length : Nat) : Int) - 1)) [.code (csub (cd Try.f15) [1,1,1,1,1,1,1,1,1,1,0,1,0,1,0,1,0]), .code (csub (cd Try.f15) [1,1,1,1,1,1,1,1,1,1,0,1,0,1,1]), .code (csub (cd Try.f15) [1,1,1,1,1,1,1,1,1,1,1])] [.code (csub (cd Try.f15) [1,1,1,1,1,1,1,1,1,1,0,1,0,1,0,1,1]), .code (csub (cd Try.f15) [1,1,1,1,1,1,1,1,1,1,0,1,0,1,1]), .code (csub (cd Try.f15) [1,1,1,1,1,1,1,1,1,1,1])] (by kernel_rfl) (fun h70 => ?_) (fun h70 => ?_)
                  ·
                    have h70p : ¬ ((((dgF 3 0 (List.drop 1 (List.drop ((dgF 12 0 s).1) s))).1 : Nat) : Int) = ((((List.drop ((dgF 12 0 s).1) s).length : Nat) : Int) - 1)) := bne_iff_ne.1 h70
                    refine GoS.run [2, 3] [.n, .n, .n, .n, .n] _ [.code (csub (cd Try.f15) [1,1,1,1,1,1,1,1,1,1,0,1,0,1,0,1,0,1]), .code (csub (cd Try.f15) [1,1,1,1,1,1,1,1,1,1,0,1,0,1,1]), .code (csub (cd Try.f15) [1,1,1,1,1,1,1,1,1,1,1])] [(2, .int .u64 0), (3, .int .i64 3)] w (by kernel_rfl) .nil ?_
                    refine GoS.ret (fn := Try.f15) (v := (.tuple #[.int .u64 0, .int .i64 3])) Try.func15 (by kernel_rfl) ?_
                    rw [hR]
                    obtain ⟨e1, e2⟩ := parse_pos h2p h4p h6p (minus_nil (List.eq_nil_of_length_eq_zero (by omega)))
                    have hX : scan false 0 0 (s.drop 0) = none := by
                      rw [List.drop_zero, ← refP_scan]; unfold refP; rw [if_neg (by omega), if_neg (by omega), if_pos (by omega)]
                    exact ⟨by rw [e1, e2, hX]; simp only [valP, errP, Nat.pow_zero, Nat.add_zero, cond_true, cond_false]; first | done | rfl, hD0⟩
                  ·
                    have h70p : (((dgF 3 0 (List.drop 1 (List.drop ((dgF 12 0 s).1) s))).1 : Nat) : Int) = ((((List.drop ((dgF 12 0 s).1) s).length : Nat) : Int) - 1) := p_eq h70
                    refine GoS.run [4, 6, 7, 8, 9] [.n] _ [.code (csub (cd Try.f15) [1,1,1,1,1,1,1,1,1,1,0,1,0,1,1]), .code (csub (cd Try.f15) [1,1,1,1,1,1,1,1,1,1,1])] [(4, .int .u64 0), (6, .int .u64 (((dgF 12 0 s).2 : Nat) : Int)), (7, .int .u64 1), (8, .int .i64 (((dgF 3 0 (List.drop 1 (List.drop ((dgF 12 0 s).1) s))).1 : Nat) : Int)), (9, .int .u64 (((dgF 3 0 (List.drop 1 (List.drop ((dgF 12 0 s).1) s))).2 : Nat) : Int))] w (by kernel_rfl) .nil ?_
                    refine GoS.run [4, 6, 7, 8, 9, 10] [.n, .n, .n, .n, .n, .n, .n] _ [.code (csub (cd Try.f15) [1,1,1,1,1,1,1,1,1,1,0,1,0,1,1,0,1,0,0]), .inLoop (csub (cd Try.f15) [1,1,1,1,1,1,1,1,1,1,0,1,0,1,1,0,1,0,0]), .inBlock 0, .code (csub (cd Try.f15) [1,1,1,1,1,1,1,1,1,1,0,1,0,1,1,1]), .code (csub (cd Try.f15) [1,1,1,1,1,1,1,1,1,1,1])] [(4, .int .u64 0), (6, .int .u64 (((dgF 12 0 s).2 : Nat) : Int)), (7, .int .u64 1), (8, .int .i64 (((dgF 3 0 (List.drop 1 (List.drop ((dgF 12 0 s).1) s))).1 : Nat) : Int)), (9, .int .u64 (((dgF 3 0 (List.drop 1 (List.drop ((dgF 12 0 s).1) s))).2 : Nat) : Int)), (10, .int .i64 0)] w (by kernel_rfl) .nil ?_
                    obtain ⟨e1, e2⟩ := parse_pos h2p h4p h6p (minus_nil (List.eq_nil_of_length_eq_zero (by omega)))
                    have hX : scan false 0 0 (s.drop 0) = some ((dgF 12 0 s).2 * 10 ^ (dgF 3 0 (List.drop 1 (List.drop ((dgF 12 0 s).1) s))).1 + (dgF 3 0 (List.drop 1 (List.drop ((dgF 12 0 s).1) s))).2, (dgF 3 0 (List.drop 1 (List.drop ((dgF 12 0 s).1) s))).1) := by
                      rw [List.drop_zero, ← refP_scan]; unfold refP; rw [if_neg (by omega), if_neg (by omega), if_neg (by omega)]
                    exact GoS.cast (by rw [Nat.pow_zero]; first | done | rfl) (rparse_L 0 (dgF 12 0 s).2 (dgF 3 0 (List.drop 1 (List.drop ((dgF 12 0 s).1) s))).1 (dgF 3 0 (List.drop 1 (List.drop ((dgF 12 0 s).1) s))).2 (by omega) (by omega) (by omega) (by first | exact .inl rfl | exact .inr rfl) R (by rw [hR, e1, e2, hX]; simp only [valP, errP, cond_true, cond_false]; first | done | rfl) 4 0 w (by omega) hD0 (by omega))
            ·
              have h60p : ¬ ((((List.drop ((dgF 12 0 s).1) s).length : Nat) : Int) > 0) := of_decide_eq_false h60
              refine GoS.run [4, 6, 7] [.n] _ [.code (csub (cd Try.f15) [1,1,1,1,1,1,1,1,1,1,1])] [(4, .int .u64 0), (6, .int .u64 (((dgF 12 0 s).2 : Nat) : Int)), (7, .int .u64 1)] w (by kernel_rfl) .nil ?_
              refine GoS.run [4, 72, 73] [.n, .n, .n, .n] _ [.inRegion (cops (csub (cd Try.f15) [1,1,1,1,1,1,1,1,1,1,1,0])) [2,3,4,5,6], .code (csub (cd Try.f15) [1,1,1,1,1,1,1,1,1,1,1,1])] [(4, .int .u64 0), (72, .int .u64 (((dgF 12 0 s).2 : Nat) : Int)), (73, .int .u64 1)] w (by kernel_rfl) .nil ?_
              refine GoS.call [4] 27 #[.int .u64 (((dgF 12 0 s).2 : Nat) : Int), .int .u64 1] (some 74) [.inRegion (cops (csub (cd Try.f15) [1,1,1,1,1,1,1,1,1,1,1,0])) [3,4,5,6], .code (csub (cd Try.f15) [1,1,1,1,1,1,1,1,1,1,1,1])] [(4, .int .u64 0)] (by kernel_rfl) (ratio_c ((dgF 12 0 s).2) 1 (by omega) (by omega) (by omega) w) ?_
              rintro _ w71 ⟨rfl, hd72⟩
              refine ⟨_, rfl, ?_⟩
              have hD73 := hD0.trans hd72
              have hrl74 := ratN_lt (a := ((dgF 12 0 s).2)) (b := 1) (by omega) (by omega) (by omega)
              have o75 : (binOp .add 22 (.int .u64 (((ratN ((dgF 12 0 s).2) 1) : Nat) : Int)) (.int .u64 0)).run Try.prog w71 = .ok (.int .u64 (((ratN ((dgF 12 0 s).2) 1) : Nat) : Int)) w71 := f_add (by rw [show (((ratN ((dgF 12 0 s).2) 1) : Nat) : Int) + 0 = (((ratN ((dgF 12 0 s).2) 1) : Nat) : Int) by omega]; exact IntWalk.u64_in _ (by first | omega | (simp only [List.length_drop]; omega)))
              refine GoS.run [2, 3] [.n, .h (.int .u64 (((ratN ((dgF 12 0 s).2) 1) : Nat) : Int)), .n, .n, .n] _ [.code (csub (cd Try.f15) [1,1,1,1,1,1,1,1,1,1,1,1])] [(2, .int .u64 (((ratN ((dgF 12 0 s).2) 1) : Nat) : Int)), (3, .int .i64 0)] w71 (by kernel_rfl) (.cons o75 .nil) ?_
              refine GoS.ret (fn := Try.f15) (v := (.tuple #[.int .u64 (((ratN ((dgF 12 0 s).2) 1) : Nat) : Int), .int .i64 0])) Try.func15 (by kernel_rfl) ?_
              rw [hR]
              obtain ⟨e1, e2⟩ := parse_pos h2p h4p h6p (minus_nil (List.eq_nil_of_length_eq_zero (by omega)))
              have hX : scan false 0 0 (s.drop 0) = some ((dgF 12 0 s).2, 0) := by
                rw [List.drop_zero, ← refP_scan]; unfold refP; rw [if_neg (by omega), if_pos (by omega)]
              exact ⟨by rw [e1, e2, hX]; simp only [valP, errP, Nat.pow_zero, Nat.add_zero, cond_true, cond_false]; first | done | rfl, hD73⟩


end Go.Proofs.Ythioghimgiknkaa
