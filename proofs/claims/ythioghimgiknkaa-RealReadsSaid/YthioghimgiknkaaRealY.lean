/-
  The walks of digits and Ratio, of the reference.
-/
import Derived.Test.YthioghimgiknkaaRealX
import Derived.Test.YthioghimgiknkaaMem
namespace Go.Proofs.Ythioghimgiknkaa
open Go Go.Gw Go.RealP Go.RealQ Go.RowKit
set_option linter.unusedVariables false
set_option linter.unusedSimpArgs false


set_option maxHeartbeats 400000 in
theorem digits_L (s : List UInt8) (hs : s.length ≤ 9223372036854775807) (M : Nat) (hM : M ≤ 12) (w : World) (X : Nat × Nat) (R : Ending → World → Prop) (hR : R = (fun e w' => e = .returned (.tuple #[.int .i64 ((X.1 : Nat) : Int), .int .u64 ((X.2 : Nat) : Int)]) ∧ w = w')) : ∀ (N : Nat) (n x : Nat) (hF : (n + (dgF (M - n) x (s.drop n)).1, (dgF (M - n) x (s.drop n)).2) = X) (hn : n ≤ s.length) (hnM : n ≤ M) (hx : x < 10 ^ n) (hN : s.length - n < N), GoS Try.prog 26 R 41 [.code (csub (cd Try.f26) [1,1,1,0,0,0]), .inLoop (csub (cd Try.f26) [1,1,1,0,0,0]), .inBlock 0, .code (csub (cd Try.f26) [1,1,1,1])] [(0, .string (sb s)), (1, .int .i64 ((M : Nat) : Int)), (6, .int .i64 ((n : Nat) : Int)), (7, .int .u64 ((x : Nat) : Int))] w := by
  intro N
  induction N with
  | zero => intro n x hF hn hnM hx hN; exact absurd hN (Nat.not_lt_zero _)
  | succ N ih =>
    intro n x hF hn hnM hx hN
    have hb := bl_bd s n
    have hx2 : x < 10 ^ 12 := dec_bd hx (by omega)
    have e12 : (10 : Nat) ^ 12 = 1000000000000 := by decide
    have o1 : (Builtin.len_ #[9] 3 #[.string (sb s)]).run Try.prog w = .ok (.int .i64 ((s.length : Nat) : Int)) w := f_len (by kernel_rfl)
    refine GoS.run [0, 1, 6, 7, 12] [.n, .n, .n, .n, .n, .h (.int .i64 ((s.length : Nat) : Int)), .n, .n] _ [.inRegion (cops (csub (cd Try.f26) [1,1,1,0,0,0,0,0])) [5,6,7,8,9,10,11,12,13,14,15,16,17,18,19,20], .code (csub (cd Try.f26) [1,1,1,0,0,0,0,1]), .code (csub (cd Try.f26) [1,1,1,0,0,0,1]), .inLoop (csub (cd Try.f26) [1,1,1,0,0,0]), .inBlock 0, .code (csub (cd Try.f26) [1,1,1,1])] [(0, .string (sb s)), (1, .int .i64 ((M : Nat) : Int)), (6, .int .i64 ((n : Nat) : Int)), (7, .int .u64 ((x : Nat) : Int)), (12, .bool (decide (((n : Nat) : Int) < ((s.length : Nat) : Int))))] w (by kernel_rfl) (.cons o1 .nil) ?_
    refine GoS.fork 12 (decide (((n : Nat) : Int) < ((s.length : Nat) : Int))) (by kernel_rfl) (fun h2 => ?_) (fun h2 => ?_)
    ·
      have h2p : ((n : Nat) : Int) < ((s.length : Nat) : Int) := of_decide_eq_true h2
      refine GoS.run [0, 1, 6, 7, 17] [.n, .n, .n, .n, .n] _ [.inRegion (cops (csub (cd Try.f26) [1,1,1,0,0,0,0,0])) [10,11,12,13,14,15,16,17,18,19,20], .code (csub (cd Try.f26) [1,1,1,0,0,0,0,1]), .code (csub (cd Try.f26) [1,1,1,0,0,0,1]), .inLoop (csub (cd Try.f26) [1,1,1,0,0,0]), .inBlock 0, .code (csub (cd Try.f26) [1,1,1,1])] [(0, .string (sb s)), (1, .int .i64 ((M : Nat) : Int)), (6, .int .i64 ((n : Nat) : Int)), (7, .int .u64 ((x : Nat) : Int)), (17, .bool (decide (((n : Nat) : Int) < ((M : Nat) : Int))))] w (by kernel_rfl) .nil ?_
      refine GoS.fork 17 (decide (((n : Nat) : Int) < ((M : Nat) : Int))) (by kernel_rfl) (fun h3 => ?_) (fun h3 => ?_)
      ·
        have h3p : ((n : Nat) : Int) < ((M : Nat) : Int) := of_decide_eq_true h3
        have hb4 := bl_bd s n
        have o5 : (Instr.index 9 (.string (sb s)) (.int .i64 ((n : Nat) : Int))).run Try.prog w = .ok (.int .u8 (bl s n)) w := f_index n (by kernel_rfl) (by omega) (by omega)
        refine GoS.run [0, 1, 6, 7, 23] [.n, .n, .h (.int .u8 (bl s n)), .n, .n, .n] _ [.inRegion (cops (csub (cd Try.f26) [1,1,1,0,0,0,0,0])) [16,17,18,19,20], .code (csub (cd Try.f26) [1,1,1,0,0,0,0,1]), .code (csub (cd Try.f26) [1,1,1,0,0,0,1]), .inLoop (csub (cd Try.f26) [1,1,1,0,0,0]), .inBlock 0, .code (csub (cd Try.f26) [1,1,1,1])] [(0, .string (sb s)), (1, .int .i64 ((M : Nat) : Int)), (6, .int .i64 ((n : Nat) : Int)), (7, .int .u64 ((x : Nat) : Int)), (23, .bool (decide ((bl s n) ≥ 48)))] w (by kernel_rfl) (.cons o5 .nil) ?_
        refine GoS.fork 23 (decide ((bl s n) ≥ 48)) (by kernel_rfl) (fun h6 => ?_) (fun h6 => ?_)
        ·
          have h6p : (bl s n) ≥ 48 := of_decide_eq_true h6
          have hb7 := bl_bd s n
          have o8 : (Instr.index 9 (.string (sb s)) (.int .i64 ((n : Nat) : Int))).run Try.prog w = .ok (.int .u8 (bl s n)) w := f_index n (by kernel_rfl) (by omega) (by omega)
          refine GoS.run [0, 1, 6, 7, 28] [.n, .n, .h (.int .u8 (bl s n)), .n, .n] _ [.inRegion (cops (csub (cd Try.f26) [1,1,1,0,0,0,0,0])) [], .code (csub (cd Try.f26) [1,1,1,0,0,0,0,1]), .code (csub (cd Try.f26) [1,1,1,0,0,0,1]), .inLoop (csub (cd Try.f26) [1,1,1,0,0,0]), .inBlock 0, .code (csub (cd Try.f26) [1,1,1,1])] [(0, .string (sb s)), (1, .int .i64 ((M : Nat) : Int)), (6, .int .i64 ((n : Nat) : Int)), (7, .int .u64 ((x : Nat) : Int)), (28, .bool (decide ((bl s n) ≤ 57)))] w (by kernel_rfl) (.cons o8 .nil) ?_
          refine GoS.run [0, 1, 6, 7, 28] [.n] _ [.code (csub (cd Try.f26) [1,1,1,0,0,0,0,1]), .code (csub (cd Try.f26) [1,1,1,0,0,0,1]), .inLoop (csub (cd Try.f26) [1,1,1,0,0,0]), .inBlock 0, .code (csub (cd Try.f26) [1,1,1,1])] [(0, .string (sb s)), (1, .int .i64 ((M : Nat) : Int)), (6, .int .i64 ((n : Nat) : Int)), (7, .int .u64 ((x : Nat) : Int)), (28, .bool (decide ((bl s n) ≤ 57)))] w (by kernel_rfl) .nil ?_
          refine GoS.cond (decide ((bl s n) ≤ 57)) [.code (csub (cd Try.f26) [1,1,1,0,0,0,0,1,0]), .code (csub (cd Try.f26) [1,1,1,0,0,0,1]), .inLoop (csub (cd Try.f26) [1,1,1,0,0,0]), .inBlock 0, .code (csub (cd Try.f26) [1,1,1,1])] [.code (csub (cd Try.f26) [1,1,1,0,0,0,0,1,1]), .code (csub (cd Try.f26) [1,1,1,0,0,0,1]), .inLoop (csub (cd Try.f26) [1,1,1,0,0,0]), .inBlock 0, .code (csub (cd Try.f26) [1,1,1,1])] (by kernel_rfl) (fun h9 => ?_) (fun h9 => ?_)
          ·
            have h9p : (bl s n) ≤ 57 := of_decide_eq_true h9
            refine GoS.run [0, 1, 6, 7] [.n] _ [.code (csub (cd Try.f26) [1,1,1,0,0,0,1]), .inLoop (csub (cd Try.f26) [1,1,1,0,0,0]), .inBlock 0, .code (csub (cd Try.f26) [1,1,1,1])] [(0, .string (sb s)), (1, .int .i64 ((M : Nat) : Int)), (6, .int .i64 ((n : Nat) : Int)), (7, .int .u64 ((x : Nat) : Int))] w (by kernel_rfl) .nil ?_
            have o11 : (binOp .mul 22 (.int .u64 10) (.int .u64 ((x : Nat) : Int))).run Try.prog w = .ok (.int .u64 (((10 * x) : Nat) : Int)) w := f_mul (by rw [show 10 * ((x : Nat) : Int) = (((10 * x) : Nat) : Int) by omega]; exact IntWalk.u64_in _ (by omega))
            have hb10 := bl_bd s n
            have o12 : (Instr.index 9 (.string (sb s)) (.int .i64 ((n : Nat) : Int))).run Try.prog w = .ok (.int .u8 (bl s n)) w := f_index n (by kernel_rfl) (by omega) (by omega)
            have o13 : (binOp .sub 5 (.int .u8 (bl s n)) (.int .u8 48)).run Try.prog w = .ok (.int .u8 ((bl s n) - 48)) w := f_sub (IntWalk.u8_in _ (by omega))
            have o14 : (convert 5 22 (.int .u8 ((bl s n) - 48))).run Try.prog w = .ok (.int .u64 (((Int.toNat ((bl s n) - 48)) : Nat) : Int)) w := f_conv (u := .int .u8) (by kernel_rfl) (by kernel_rfl) ((IntWalk.u64_in _ (by omega)).trans (by omega))
            have o15 : (binOp .add 22 (.int .u64 (((10 * x) : Nat) : Int)) (.int .u64 (((Int.toNat ((bl s n) - 48)) : Nat) : Int))).run Try.prog w = .ok (.int .u64 ((((10 * x) + (Int.toNat ((bl s n) - 48))) : Nat) : Int)) w := f_add (by rw [show (((10 * x) : Nat) : Int) + (((Int.toNat ((bl s n) - 48)) : Nat) : Int) = ((((10 * x) + (Int.toNat ((bl s n) - 48))) : Nat) : Int) by omega]; exact IntWalk.u64_in _ (by omega))
            have o16 : (binOp .add 3 (.int .i64 ((n : Nat) : Int)) (.int .i64 1)).run Try.prog w = .ok (.int .i64 (((n + 1) : Nat) : Int)) w := f_add (by rw [show ((n : Nat) : Int) + 1 = (((n + 1) : Nat) : Int) by omega]; exact IntWalk.i64_in _ (by omega))
            refine GoS.run [0, 1, 6, 7] [.n, .n, .n, .n, .h (.int .u64 (((10 * x) : Nat) : Int)), .n, .n, .h (.int .u8 (bl s n)), .h (.int .u8 ((bl s n) - 48)), .h (.int .u64 (((Int.toNat ((bl s n) - 48)) : Nat) : Int)), .h (.int .u64 ((((10 * x) + (Int.toNat ((bl s n) - 48))) : Nat) : Int)), .n, .n, .n, .n, .h (.int .i64 (((n + 1) : Nat) : Int)), .n, .n, .n, .n] _ [.code (csub (cd Try.f26) [1,1,1,0,0,0]), .inLoop (csub (cd Try.f26) [1,1,1,0,0,0]), .inBlock 0, .code (csub (cd Try.f26) [1,1,1,1])] [(0, .string (sb s)), (1, .int .i64 ((M : Nat) : Int)), (6, .int .i64 (((n + 1) : Nat) : Int)), (7, .int .u64 ((((10 * x) + (Int.toNat ((bl s n) - 48))) : Nat) : Int))] w (by kernel_rfl) (.cons o11 (.cons o12 (.cons o13 (.cons o14 (.cons o15 (.cons o16 .nil)))))) ?_
            have e := dgF_yes (s := s) (k := n) (m := M - (n + 1)) (x := x) (by omega) (by omega) (by omega)
            rw [show M - (n + 1) + 1 = M - n by omega] at e
            rw [e] at hF
            exact GoS.cast (by rw [show ((((10 * x) + (Int.toNat ((bl s n) - 48))) : Nat) : Int) = ((10 * x + ((bl s n).toNat - 48) : Nat) : Int) by omega]; first | done | rfl) (ih (n + 1) (10 * x + ((bl s n).toNat - 48)) (by rw [← hF]; congr 1; simp only; omega) (by omega) (by omega) (dec_up hx (by omega)) (by omega))
          ·
            have h9p : ¬ ((bl s n) ≤ 57) := of_decide_eq_false h9
            refine GoS.run [4, 5] [.n, .n, .n, .n, .n, .n, .n, .n] _ [.code (csub (cd Try.f26) [1,1,1,1,1])] [(4, .int .i64 ((n : Nat) : Int)), (5, .int .u64 ((x : Nat) : Int))] w (by kernel_rfl) .nil ?_
            refine GoS.ret (fn := Try.f26) (v := (.tuple #[.int .i64 ((n : Nat) : Int), .int .u64 ((x : Nat) : Int)])) Try.func26 (by kernel_rfl) ?_
            rw [hR]
            rw [dgF_no (by omega) (by omega)] at hF
            subst hF
            exact ⟨rfl, rfl⟩
        ·
          have h6p : ¬ ((bl s n) ≥ 48) := of_decide_eq_false h6
          refine GoS.run [0, 1, 6, 7, 28] [.n, .n, .n, .n, .n] _ [.inRegion (cops (csub (cd Try.f26) [1,1,1,0,0,0,0,0])) [], .code (csub (cd Try.f26) [1,1,1,0,0,0,0,1]), .code (csub (cd Try.f26) [1,1,1,0,0,0,1]), .inLoop (csub (cd Try.f26) [1,1,1,0,0,0]), .inBlock 0, .code (csub (cd Try.f26) [1,1,1,1])] [(0, .string (sb s)), (1, .int .i64 ((M : Nat) : Int)), (6, .int .i64 ((n : Nat) : Int)), (7, .int .u64 ((x : Nat) : Int)), (28, .bool false)] w (by kernel_rfl) .nil ?_
          refine GoS.run [4, 5] [.n, .n, .n, .n, .n, .n, .n, .n, .n, .n] _ [.code (csub (cd Try.f26) [1,1,1,1,1])] [(4, .int .i64 ((n : Nat) : Int)), (5, .int .u64 ((x : Nat) : Int))] w (by kernel_rfl) .nil ?_
          refine GoS.ret (fn := Try.f26) (v := (.tuple #[.int .i64 ((n : Nat) : Int), .int .u64 ((x : Nat) : Int)])) Try.func26 (by kernel_rfl) ?_
          rw [hR]
          rw [dgF_no (by omega) (by omega)] at hF
          subst hF
          exact ⟨rfl, rfl⟩
      ·
        have h3p : ¬ (((n : Nat) : Int) < ((M : Nat) : Int)) := of_decide_eq_false h3
        refine GoS.run [0, 1, 6, 7, 28] [.n, .n, .n, .n, .n, .n, .n, .n, .n, .n, .n] _ [.inRegion (cops (csub (cd Try.f26) [1,1,1,0,0,0,0,0])) [], .code (csub (cd Try.f26) [1,1,1,0,0,0,0,1]), .code (csub (cd Try.f26) [1,1,1,0,0,0,1]), .inLoop (csub (cd Try.f26) [1,1,1,0,0,0]), .inBlock 0, .code (csub (cd Try.f26) [1,1,1,1])] [(0, .string (sb s)), (1, .int .i64 ((M : Nat) : Int)), (6, .int .i64 ((n : Nat) : Int)), (7, .int .u64 ((x : Nat) : Int)), (28, .bool false)] w (by kernel_rfl) .nil ?_
        refine GoS.run [4, 5] [.n, .n, .n, .n, .n, .n, .n, .n, .n, .n] _ [.code (csub (cd Try.f26) [1,1,1,1,1])] [(4, .int .i64 ((n : Nat) : Int)), (5, .int .u64 ((x : Nat) : Int))] w (by kernel_rfl) .nil ?_
        refine GoS.ret (fn := Try.f26) (v := (.tuple #[.int .i64 ((n : Nat) : Int), .int .u64 ((x : Nat) : Int)])) Try.func26 (by kernel_rfl) ?_
        rw [hR]
        rw [show M - n = 0 by omega, dgF_zero] at hF
        subst hF
        exact ⟨rfl, rfl⟩
    ·
      have h2p : ¬ (((n : Nat) : Int) < ((s.length : Nat) : Int)) := of_decide_eq_false h2
      refine GoS.run [0, 1, 6, 7, 28] [.n, .n, .n, .n, .n, .n, .n, .n, .n, .n, .n, .n, .n, .n, .n, .n] _ [.inRegion (cops (csub (cd Try.f26) [1,1,1,0,0,0,0,0])) [], .code (csub (cd Try.f26) [1,1,1,0,0,0,0,1]), .code (csub (cd Try.f26) [1,1,1,0,0,0,1]), .inLoop (csub (cd Try.f26) [1,1,1,0,0,0]), .inBlock 0, .code (csub (cd Try.f26) [1,1,1,1])] [(0, .string (sb s)), (1, .int .i64 ((M : Nat) : Int)), (6, .int .i64 ((n : Nat) : Int)), (7, .int .u64 ((x : Nat) : Int)), (28, .bool false)] w (by kernel_rfl) .nil ?_
      refine GoS.run [4, 5] [.n, .n, .n, .n, .n, .n, .n, .n, .n, .n] _ [.code (csub (cd Try.f26) [1,1,1,1,1])] [(4, .int .i64 ((n : Nat) : Int)), (5, .int .u64 ((x : Nat) : Int))] w (by kernel_rfl) .nil ?_
      refine GoS.ret (fn := Try.f26) (v := (.tuple #[.int .i64 ((n : Nat) : Int), .int .u64 ((x : Nat) : Int)])) Try.func26 (by kernel_rfl) ?_
      rw [hR]
      rw [dgF_end (by omega)] at hF
      subst hF
      exact ⟨rfl, rfl⟩

set_option maxHeartbeats 400000 in
theorem digits_c (s : List UInt8) (hs : s.length ≤ 9223372036854775807) (M : Nat) (hM : M ≤ 12) (w : World) :
    Calls Try.prog 26 #[.string (sb s), .int .i64 ((M : Nat) : Int)] w (fun e w' => e = .returned (.tuple #[.int .i64 (((dgF M 0 s).1 : Nat) : Int), .int .u64 (((dgF M 0 s).2 : Nat) : Int)]) ∧ w = w') := by
  obtain ⟨R, hR⟩ : ∃ R : Ending → World → Prop, R = (fun e w' => e = .returned (.tuple #[.int .i64 (((dgF M 0 s).1 : Nat) : Int), .int .u64 (((dgF M 0 s).2 : Nat) : Int)]) ∧ w = w') := ⟨_, rfl⟩
  rw [← hR]
  refine GoS.enter (n := 41) Try.func26 (by kernel_rfl) rfl [(0, .string (sb s)), (1, .int .i64 ((M : Nat) : Int))] (by kernel_rfl) (by kernel_rfl) ?_
  refine GoS.run [0, 1, 6, 7] [.n, .n, .n, .n, .n, .n, .n, .n, .n, .n, .n, .n, .n, .n, .n, .n] _ [.code (csub (cd Try.f26) [1,1,1,0,0,0]), .inLoop (csub (cd Try.f26) [1,1,1,0,0,0]), .inBlock 0, .code (csub (cd Try.f26) [1,1,1,1])] [(0, .string (sb s)), (1, .int .i64 ((M : Nat) : Int)), (6, .int .i64 0), (7, .int .u64 0)] w (by kernel_rfl) .nil ?_
  exact digits_L s hs M hM w (dgF M 0 s) R hR (s.length + 1) 0 0 (by simp) (by omega) (by omega) (by decide) (by omega)

set_option maxHeartbeats 1000000 in
theorem ratio_L (a b : Nat) (ha0 : 0 < a) (ha : a < 9007199254740992) (hb : 0 < b) (hb2 : b ≤ 1000) {w0 : World} (R : Ending → World → Prop) (hR : R = (fun e w' => e = .returned (.int .u64 ((ratN a b : Nat) : Int)) ∧ Dr w0 w')) : ∀ (N : Nat) (k : Nat) (w : World) (hk : k ≤ 63) (hq : k = 0 ∨ a * 2 ^ (k - 1) / b < 9007199254740992) (hD : Dr w0 w) (hN : 64 - k < N), GoS Try.prog 27 R 65 [.code (csub (cd Try.f27) [1,1,1,1,0,0,0]), .inLoop (csub (cd Try.f27) [1,1,1,1,0,0,0]), .inBlock 0, .code (csub (cd Try.f27) [1,1,1,1,1])] [(1, .int .u64 ((b : Nat) : Int)), (5, .int .u64 (((a * 2 ^ k / b) : Nat) : Int)), (6, .int .u64 (((a * 2 ^ k % b) : Nat) : Int)), (7, .int .i64 (-((k : Nat) : Int)))] w := by
  intro N
  induction N with
  | zero => intro k w hk hq hD hN; exact absurd hN (Nat.not_lt_zero _)
  | succ N ih =>
    intro k w hk hq hD hN
    have hmod := Nat.mod_lt (a * 2 ^ k) hb
    have hkk : a * 2 ^ k / b < 9007199254740992 → k < 63 := k_lt ha0 hb hb2
    have hq2 : ¬ a * 2 ^ k / b < 9007199254740992 → a * 2 ^ k / b < 18014398509481984 ∧ 1 ≤ k := q_hi ha hb hq
    have hrat : ¬ a * 2 ^ k / b < 9007199254740992 → ratN a b = (1075 - k) * 4503599627370496 + rndQ (a * 2 ^ k / b) (decide (0 < a * 2 ^ k % b)) := fun h => ratN_of ha0 ha hb (by omega) (by omega) (hq2 h).1 (by omega)
    refine GoS.run [1, 5, 6, 7, 18] [.n, .n, .n, .n, .n, .n] _ [.code (csub (cd Try.f27) [1,1,1,1,0,0,0,0,1]), .code (csub (cd Try.f27) [1,1,1,1,0,0,0,1]), .inLoop (csub (cd Try.f27) [1,1,1,1,0,0,0]), .inBlock 0, .code (csub (cd Try.f27) [1,1,1,1,1])] [(1, .int .u64 ((b : Nat) : Int)), (5, .int .u64 (((a * 2 ^ k / b) : Nat) : Int)), (6, .int .u64 (((a * 2 ^ k % b) : Nat) : Int)), (7, .int .i64 (-((k : Nat) : Int))), (18, .bool (decide ((((a * 2 ^ k / b) : Nat) : Int) < 9007199254740992)))] w (by kernel_rfl) .nil ?_
    refine GoS.cond (decide ((((a * 2 ^ k / b) : Nat) : Int) < 9007199254740992)) [.code (csub (cd Try.f27) [1,1,1,1,0,0,0,0,1,0]), .code (csub (cd Try.f27) [1,1,1,1,0,0,0,1]), .inLoop (csub (cd Try.f27) [1,1,1,1,0,0,0]), .inBlock 0, .code (csub (cd Try.f27) [1,1,1,1,1])] [.code (csub (cd Try.f27) [1,1,1,1,0,0,0,0,1,1]), .code (csub (cd Try.f27) [1,1,1,1,0,0,0,1]), .inLoop (csub (cd Try.f27) [1,1,1,1,0,0,0]), .inBlock 0, .code (csub (cd Try.f27) [1,1,1,1,1])] (by kernel_rfl) (fun h1 => ?_) (fun h1 => ?_)
    ·
      have h1p : (((a * 2 ^ k / b) : Nat) : Int) < 9007199254740992 := of_decide_eq_true h1
      refine GoS.run [1, 5, 6, 7] [.n] _ [.code (csub (cd Try.f27) [1,1,1,1,0,0,0,1]), .inLoop (csub (cd Try.f27) [1,1,1,1,0,0,0]), .inBlock 0, .code (csub (cd Try.f27) [1,1,1,1,1])] [(1, .int .u64 ((b : Nat) : Int)), (5, .int .u64 (((a * 2 ^ k / b) : Nat) : Int)), (6, .int .u64 (((a * 2 ^ k % b) : Nat) : Int)), (7, .int .i64 (-((k : Nat) : Int)))] w (by kernel_rfl) .nil ?_
      have o63 : (binOp .mul 22 (.int .u64 2) (.int .u64 (((a * 2 ^ k % b) : Nat) : Int))).run Try.prog w = .ok (.int .u64 (((2 * (a * 2 ^ k % b)) : Nat) : Int)) w := f_mul (by rw [show 2 * (((a * 2 ^ k % b) : Nat) : Int) = (((2 * (a * 2 ^ k % b)) : Nat) : Int) by omega]; exact IntWalk.u64_in _ (by omega))
      have o64 : (binOp .mul 22 (.int .u64 2) (.int .u64 (((a * 2 ^ k / b) : Nat) : Int))).run Try.prog w = .ok (.int .u64 (((2 * (a * 2 ^ k / b)) : Nat) : Int)) w := f_mul (by rw [show 2 * (((a * 2 ^ k / b) : Nat) : Int) = (((2 * (a * 2 ^ k / b)) : Nat) : Int) by omega]; exact IntWalk.u64_in _ (by omega))
      refine GoS.run [1, 5, 6, 7, 25] [.n, .n, .n, .n, .h (.int .u64 (((2 * (a * 2 ^ k % b)) : Nat) : Int)), .n, .n, .n, .n, .n, .h (.int .u64 (((2 * (a * 2 ^ k / b)) : Nat) : Int)), .n, .n, .n, .n, .n, .n, .n, .n, .n] _ [.code (csub (cd Try.f27) [1,1,1,1,0,0,0,1,0,1,1,0,1]), .code (csub (cd Try.f27) [1,1,1,1,0,0,0,1,0,1,1,1]), .inBlock 1, .inLoop (csub (cd Try.f27) [1,1,1,1,0,0,0]), .inBlock 0, .code (csub (cd Try.f27) [1,1,1,1,1])] [(1, .int .u64 ((b : Nat) : Int)), (5, .int .u64 (((2 * (a * 2 ^ k / b)) : Nat) : Int)), (6, .int .u64 (((2 * (a * 2 ^ k % b)) : Nat) : Int)), (7, .int .i64 (-((k : Nat) : Int))), (25, .bool (decide ((((2 * (a * 2 ^ k % b)) : Nat) : Int) ≥ ((b : Nat) : Int))))] w (by kernel_rfl) (.cons o63 (.cons o64 .nil)) ?_
      refine GoS.cond (decide ((((2 * (a * 2 ^ k % b)) : Nat) : Int) ≥ ((b : Nat) : Int))) [.code (csub (cd Try.f27) [1,1,1,1,0,0,0,1,0,1,1,0,1,0]), .code (csub (cd Try.f27) [1,1,1,1,0,0,0,1,0,1,1,1]), .inBlock 1, .inLoop (csub (cd Try.f27) [1,1,1,1,0,0,0]), .inBlock 0, .code (csub (cd Try.f27) [1,1,1,1,1])] [.code (csub (cd Try.f27) [1,1,1,1,0,0,0,1,0,1,1,0,1,1]), .code (csub (cd Try.f27) [1,1,1,1,0,0,0,1,0,1,1,1]), .inBlock 1, .inLoop (csub (cd Try.f27) [1,1,1,1,0,0,0]), .inBlock 0, .code (csub (cd Try.f27) [1,1,1,1,1])] (by kernel_rfl) (fun h65 => ?_) (fun h65 => ?_)
      ·
        have h65p : (((2 * (a * 2 ^ k % b)) : Nat) : Int) ≥ ((b : Nat) : Int) := of_decide_eq_true h65
        have o66 : (binOp .sub 22 (.int .u64 (((2 * (a * 2 ^ k % b)) : Nat) : Int)) (.int .u64 ((b : Nat) : Int))).run Try.prog w = .ok (.int .u64 ((((2 * (a * 2 ^ k % b)) : Nat) : Int) - ((b : Nat) : Int))) w := f_sub (IntWalk.u64_in _ (by omega))
        have o67 : (binOp .add 22 (.int .u64 (((2 * (a * 2 ^ k / b)) : Nat) : Int)) (.int .u64 1)).run Try.prog w = .ok (.int .u64 ((((2 * (a * 2 ^ k / b)) + 1) : Nat) : Int)) w := f_add (by rw [show (((2 * (a * 2 ^ k / b)) : Nat) : Int) + 1 = ((((2 * (a * 2 ^ k / b)) + 1) : Nat) : Int) by omega]; exact IntWalk.u64_in _ (by omega))
        refine GoS.run [1, 5, 6, 7] [.n, .n, .n, .n, .h (.int .u64 ((((2 * (a * 2 ^ k % b)) : Nat) : Int) - ((b : Nat) : Int))), .n, .n, .n, .n, .h (.int .u64 ((((2 * (a * 2 ^ k / b)) + 1) : Nat) : Int)), .n, .n] _ [.code (csub (cd Try.f27) [1,1,1,1,0,0,0,1,0,1,1,1]), .inBlock 1, .inLoop (csub (cd Try.f27) [1,1,1,1,0,0,0]), .inBlock 0, .code (csub (cd Try.f27) [1,1,1,1,1])] [(1, .int .u64 ((b : Nat) : Int)), (5, .int .u64 ((((2 * (a * 2 ^ k / b)) + 1) : Nat) : Int)), (6, .int .u64 ((((2 * (a * 2 ^ k % b)) : Nat) : Int) - ((b : Nat) : Int))), (7, .int .i64 (-((k : Nat) : Int)))] w (by kernel_rfl) (.cons o66 (.cons o67 .nil)) ?_
        have o68 : (binOp .sub 3 (.int .i64 (-((k : Nat) : Int))) (.int .i64 1)).run Try.prog w = .ok (.int .i64 ((-((k : Nat) : Int)) - 1)) w := f_sub (IntWalk.i64_in _ (by omega))
        refine GoS.run [1, 5, 6, 7] [.n, .n, .h (.int .i64 ((-((k : Nat) : Int)) - 1)), .n, .n, .n, .n] _ [.code (csub (cd Try.f27) [1,1,1,1,0,0,0]), .inLoop (csub (cd Try.f27) [1,1,1,1,0,0,0]), .inBlock 0, .code (csub (cd Try.f27) [1,1,1,1,1])] [(1, .int .u64 ((b : Nat) : Int)), (5, .int .u64 ((((2 * (a * 2 ^ k / b)) + 1) : Nat) : Int)), (6, .int .u64 ((((2 * (a * 2 ^ k % b)) : Nat) : Int) - ((b : Nat) : Int))), (7, .int .i64 ((-((k : Nat) : Int)) - 1))] w (by kernel_rfl) (.cons o68 .nil) ?_
        obtain ⟨e1, e2⟩ := step_hi (z := a * 2 ^ k) hb (by omega)
        rw [← pow_up] at e1 e2
        have e5 : ((((2 * (a * 2 ^ k / b)) + 1) : Nat) : Int) = ((a * 2 ^ (k + 1) / b : Nat) : Int) := by omega
        have e6 : ((((2 * (a * 2 ^ k % b)) : Nat) : Int) - ((b : Nat) : Int)) = ((a * 2 ^ (k + 1) % b : Nat) : Int) := by omega
        have e7 : ((-((k : Nat) : Int)) - 1) = -((k + 1 : Nat) : Int) := by omega
        exact GoS.cast (by rw [e5, e6, e7]) (ih (k + 1) _ (by omega) (.inr (by rw [Nat.add_sub_cancel]; omega)) hD (by omega))
      ·
        have h65p : ¬ ((((2 * (a * 2 ^ k % b)) : Nat) : Int) ≥ ((b : Nat) : Int)) := of_decide_eq_false h65
        refine GoS.run [1, 5, 6, 7] [.n] _ [.code (csub (cd Try.f27) [1,1,1,1,0,0,0,1,0,1,1,1]), .inBlock 1, .inLoop (csub (cd Try.f27) [1,1,1,1,0,0,0]), .inBlock 0, .code (csub (cd Try.f27) [1,1,1,1,1])] [(1, .int .u64 ((b : Nat) : Int)), (5, .int .u64 (((2 * (a * 2 ^ k / b)) : Nat) : Int)), (6, .int .u64 (((2 * (a * 2 ^ k % b)) : Nat) : Int)), (7, .int .i64 (-((k : Nat) : Int)))] w (by kernel_rfl) .nil ?_
        have o69 : (binOp .sub 3 (.int .i64 (-((k : Nat) : Int))) (.int .i64 1)).run Try.prog w = .ok (.int .i64 ((-((k : Nat) : Int)) - 1)) w := f_sub (IntWalk.i64_in _ (by omega))
        refine GoS.run [1, 5, 6, 7] [.n, .n, .h (.int .i64 ((-((k : Nat) : Int)) - 1)), .n, .n, .n, .n] _ [.code (csub (cd Try.f27) [1,1,1,1,0,0,0]), .inLoop (csub (cd Try.f27) [1,1,1,1,0,0,0]), .inBlock 0, .code (csub (cd Try.f27) [1,1,1,1,1])] [(1, .int .u64 ((b : Nat) : Int)), (5, .int .u64 (((2 * (a * 2 ^ k / b)) : Nat) : Int)), (6, .int .u64 (((2 * (a * 2 ^ k % b)) : Nat) : Int)), (7, .int .i64 ((-((k : Nat) : Int)) - 1))] w (by kernel_rfl) (.cons o69 .nil) ?_
        obtain ⟨e1, e2⟩ := step_lo (z := a * 2 ^ k) hb (by omega)
        rw [← pow_up] at e1 e2
        have e5 : (((2 * (a * 2 ^ k / b)) : Nat) : Int) = ((a * 2 ^ (k + 1) / b : Nat) : Int) := by omega
        have e6 : (((2 * (a * 2 ^ k % b)) : Nat) : Int) = ((a * 2 ^ (k + 1) % b : Nat) : Int) := by omega
        have e7 : ((-((k : Nat) : Int)) - 1) = -((k + 1 : Nat) : Int) := by omega
        exact GoS.cast (by rw [e5, e6, e7]) (ih (k + 1) _ (by omega) (.inr (by rw [Nat.add_sub_cancel]; omega)) hD (by omega))
    ·
      have h1p : ¬ ((((a * 2 ^ k / b) : Nat) : Int) < 9007199254740992) := of_decide_eq_false h1
      have o2 : (binOp .rem 22 (.int .u64 (((a * 2 ^ k / b) : Nat) : Int)) (.int .u64 2)).run Try.prog w = .ok (.int .u64 ((((a * 2 ^ k / b) % 2) : Nat) : Int)) w := f_rem (by decide) ((IntWalk.rem_in _ _ (by omega)).trans (by omega))
      have o3 : (binOp .quo 22 (.int .u64 (((a * 2 ^ k / b) : Nat) : Int)) (.int .u64 2)).run Try.prog w = .ok (.int .u64 ((((a * 2 ^ k / b) / 2) : Nat) : Int)) w := f_quo (by decide) ((IntWalk.u64_quo _ _ (by omega)).trans (by omega))
      have o4 : (binOp .add 3 (.int .i64 (-((k : Nat) : Int))) (.int .i64 1)).run Try.prog w = .ok (.int .i64 ((-((k : Nat) : Int)) + 1)) w := f_add (IntWalk.i64_in _ (by omega))
      refine GoS.run [5, 6, 7, 41] [.n, .n, .n, .n, .h (.int .u64 ((((a * 2 ^ k / b) % 2) : Nat) : Int)), .n, .n, .n, .n, .n, .h (.int .u64 ((((a * 2 ^ k / b) / 2) : Nat) : Int)), .n, .n, .n, .n, .n, .h (.int .i64 ((-((k : Nat) : Int)) + 1)), .n, .n, .n, .n, .n, .n, .n, .n] _ [.inRegion (cops (csub (cd Try.f27) [1,1,1,1,1,1,1,1,0,0])) [3,4,5,6,7,8,9,10], .code (csub (cd Try.f27) [1,1,1,1,1,1,1,1,0,1]), .code (csub (cd Try.f27) [1,1,1,1,1,1,1,1,1])] [(5, .int .u64 ((((a * 2 ^ k / b) / 2) : Nat) : Int)), (6, .int .u64 (((a * 2 ^ k % b) : Nat) : Int)), (7, .int .i64 ((-((k : Nat) : Int)) + 1)), (41, .bool (((((a * 2 ^ k / b) % 2) : Nat) : Int) == 1))] w (by kernel_rfl) (.cons o2 (.cons o3 (.cons o4 .nil))) ?_
      refine GoS.fork 41 (((((a * 2 ^ k / b) % 2) : Nat) : Int) == 1) (by kernel_rfl) (fun h5 => ?_) (fun h5 => ?_)
      ·
        have h5p : ((((a * 2 ^ k / b) % 2) : Nat) : Int) = 1 := eq_of_beq h5
        refine GoS.run [5, 7, 41, 44] [.n, .n, .n] _ [.inRegion (cops (csub (cd Try.f27) [1,1,1,1,1,1,1,1,0,0])) [6,7,8,9,10], .code (csub (cd Try.f27) [1,1,1,1,1,1,1,1,0,1]), .code (csub (cd Try.f27) [1,1,1,1,1,1,1,1,1])] [(5, .int .u64 ((((a * 2 ^ k / b) / 2) : Nat) : Int)), (7, .int .i64 ((-((k : Nat) : Int)) + 1)), (41, .bool true), (44, .bool (decide ((((a * 2 ^ k % b) : Nat) : Int) > 0)))] w (by kernel_rfl) .nil ?_
        refine GoS.fork 44 (decide ((((a * 2 ^ k % b) : Nat) : Int) > 0)) (by kernel_rfl) (fun h6 => ?_) (fun h6 => ?_)
        ·
          have h6p : (((a * 2 ^ k % b) : Nat) : Int) > 0 := of_decide_eq_true h6
          refine GoS.run [5, 7, 49] [.n, .n, .n, .n, .n] _ [.inRegion (cops (csub (cd Try.f27) [1,1,1,1,1,1,1,1,0,0])) [], .code (csub (cd Try.f27) [1,1,1,1,1,1,1,1,0,1]), .code (csub (cd Try.f27) [1,1,1,1,1,1,1,1,1])] [(5, .int .u64 ((((a * 2 ^ k / b) / 2) : Nat) : Int)), (7, .int .i64 ((-((k : Nat) : Int)) + 1)), (49, .bool true)] w (by kernel_rfl) .nil ?_
          have o8 : (binOp .add 22 (.int .u64 ((((a * 2 ^ k / b) / 2) : Nat) : Int)) (.int .u64 1)).run Try.prog w = .ok (.int .u64 (((((a * 2 ^ k / b) / 2) + 1) : Nat) : Int)) w := f_add (by rw [show ((((a * 2 ^ k / b) / 2) : Nat) : Int) + 1 = (((((a * 2 ^ k / b) / 2) + 1) : Nat) : Int) by omega]; exact IntWalk.u64_in _ (by omega))
          refine GoS.run [5, 7, 53] [.n, .n, .n, .n, .h (.int .u64 (((((a * 2 ^ k / b) / 2) + 1) : Nat) : Int)), .n, .n, .n, .n, .n, .n, .n, .n] _ [.code (csub (cd Try.f27) [1,1,1,1,1,1,1,1,1,0,1]), .code (csub (cd Try.f27) [1,1,1,1,1,1,1,1,1,1])] [(5, .int .u64 (((((a * 2 ^ k / b) / 2) + 1) : Nat) : Int)), (7, .int .i64 ((-((k : Nat) : Int)) + 1)), (53, .bool ((((((a * 2 ^ k / b) / 2) + 1) : Nat) : Int) == 9007199254740992))] w (by kernel_rfl) (.cons o8 .nil) ?_
          refine GoS.cond ((((((a * 2 ^ k / b) / 2) + 1) : Nat) : Int) == 9007199254740992) [.code (csub (cd Try.f27) [1,1,1,1,1,1,1,1,1,0,1,0]), .code (csub (cd Try.f27) [1,1,1,1,1,1,1,1,1,1])] [.code (csub (cd Try.f27) [1,1,1,1,1,1,1,1,1,0,1,1]), .code (csub (cd Try.f27) [1,1,1,1,1,1,1,1,1,1])] (by kernel_rfl) (fun h9 => ?_) (fun h9 => ?_)
          ·
            have h9p : (((((a * 2 ^ k / b) / 2) + 1) : Nat) : Int) = 9007199254740992 := eq_of_beq h9
            have o10 : (binOp .quo 22 (.int .u64 (((((a * 2 ^ k / b) / 2) + 1) : Nat) : Int)) (.int .u64 2)).run Try.prog w = .ok (.int .u64 ((((((a * 2 ^ k / b) / 2) + 1) / 2) : Nat) : Int)) w := f_quo (by decide) ((IntWalk.u64_quo _ _ (by omega)).trans (by omega))
            have o11 : (binOp .add 3 (.int .i64 ((-((k : Nat) : Int)) + 1)) (.int .i64 1)).run Try.prog w = .ok (.int .i64 (((-((k : Nat) : Int)) + 1) + 1)) w := f_add (IntWalk.i64_in _ (by omega))
            refine GoS.run [5, 7] [.n, .n, .n, .h (.int .u64 ((((((a * 2 ^ k / b) / 2) + 1) / 2) : Nat) : Int)), .n, .n, .n, .n, .h (.int .i64 (((-((k : Nat) : Int)) + 1) + 1)), .n, .n] _ [.code (csub (cd Try.f27) [1,1,1,1,1,1,1,1,1,1])] [(5, .int .u64 ((((((a * 2 ^ k / b) / 2) + 1) / 2) : Nat) : Int)), (7, .int .i64 (((-((k : Nat) : Int)) + 1) + 1))] w (by kernel_rfl) (.cons o10 (.cons o11 .nil)) ?_
            have o12 : (binOp .sub 22 (.int .u64 ((((((a * 2 ^ k / b) / 2) + 1) / 2) : Nat) : Int)) (.int .u64 4503599627370496)).run Try.prog w = .ok (.int .u64 (((((((a * 2 ^ k / b) / 2) + 1) / 2) : Nat) : Int) - 4503599627370496)) w := f_sub (IntWalk.u64_in _ (by omega))
            have o13 : (binOp .add 3 (.int .i64 (((-((k : Nat) : Int)) + 1) + 1)) (.int .i64 1075)).run Try.prog w = .ok (.int .i64 ((((-((k : Nat) : Int)) + 1) + 1) + 1075)) w := f_add (IntWalk.i64_in _ (by omega))
            have o14 : (convert 3 22 (.int .i64 ((((-((k : Nat) : Int)) + 1) + 1) + 1075))).run Try.prog w = .ok (.int .u64 (((Int.toNat ((((-((k : Nat) : Int)) + 1) + 1) + 1075)) : Nat) : Int)) w := f_conv (u := .int .i64) (by kernel_rfl) (by kernel_rfl) ((IntWalk.u64_in _ (by omega)).trans (by omega))
            have o15 : (binOp .mul 22 (.int .u64 (((Int.toNat ((((-((k : Nat) : Int)) + 1) + 1) + 1075)) : Nat) : Int)) (.int .u64 4503599627370496)).run Try.prog w = .ok (.int .u64 ((((Int.toNat ((((-((k : Nat) : Int)) + 1) + 1) + 1075)) * 4503599627370496) : Nat) : Int)) w := f_mul (by rw [show (((Int.toNat ((((-((k : Nat) : Int)) + 1) + 1) + 1075)) : Nat) : Int) * 4503599627370496 = ((((Int.toNat ((((-((k : Nat) : Int)) + 1) + 1) + 1075)) * 4503599627370496) : Nat) : Int) by omega]; exact IntWalk.u64_in _ (by omega))
            have o16 : (binOp .add 22 (.int .u64 (((((((a * 2 ^ k / b) / 2) + 1) / 2) : Nat) : Int) - 4503599627370496)) (.int .u64 ((((Int.toNat ((((-((k : Nat) : Int)) + 1) + 1) + 1075)) * 4503599627370496) : Nat) : Int))).run Try.prog w = .ok (.int .u64 ((((((((a * 2 ^ k / b) / 2) + 1) / 2) : Nat) : Int) - 4503599627370496) + ((((Int.toNat ((((-((k : Nat) : Int)) + 1) + 1) + 1075)) * 4503599627370496) : Nat) : Int))) w := f_add (IntWalk.u64_in _ (by omega))
            refine GoS.run [4] [.n, .n, .n, .h (.int .u64 (((((((a * 2 ^ k / b) / 2) + 1) / 2) : Nat) : Int) - 4503599627370496)), .n, .h (.int .i64 ((((-((k : Nat) : Int)) + 1) + 1) + 1075)), .h (.int .u64 (((Int.toNat ((((-((k : Nat) : Int)) + 1) + 1) + 1075)) : Nat) : Int)), .h (.int .u64 ((((Int.toNat ((((-((k : Nat) : Int)) + 1) + 1) + 1075)) * 4503599627370496) : Nat) : Int)), .h (.int .u64 ((((((((a * 2 ^ k / b) / 2) + 1) / 2) : Nat) : Int) - 4503599627370496) + ((((Int.toNat ((((-((k : Nat) : Int)) + 1) + 1) + 1075)) * 4503599627370496) : Nat) : Int))), .n, .n] _ [.code (csub (cd Try.f27) [1,1,1,1,1,1,1,1,1,1,1])] [(4, .int .u64 ((((((((a * 2 ^ k / b) / 2) + 1) / 2) : Nat) : Int) - 4503599627370496) + ((((Int.toNat ((((-((k : Nat) : Int)) + 1) + 1) + 1075)) * 4503599627370496) : Nat) : Int)))] w (by kernel_rfl) (.cons o12 (.cons o13 (.cons o14 (.cons o15 (.cons o16 .nil))))) ?_
            refine GoS.ret (fn := Try.f27) (v := (.int .u64 ((((((((a * 2 ^ k / b) / 2) + 1) / 2) : Nat) : Int) - 4503599627370496) + ((((Int.toNat ((((-((k : Nat) : Int)) + 1) + 1) + 1075)) * 4503599627370496) : Nat) : Int)))) Try.func27 (by kernel_rfl) ?_
            rw [hR]
            have hr := hrat (by omega)
            have hq3 := (hq2 (by omega)).2
            have hq4 := (hq2 (by omega)).1
            clear hrat hq2 hkk hq
            generalize a * 2 ^ k / b = q at *
            generalize a * 2 ^ k % b = r at *
            first | rw [rndQ_up (by omega) (by omega)] at hr | rw [rndQ_same (by omega)] at hr
            exact ⟨ret_int (by rw [hr]; omega), hD⟩
          ·
            have h9p : ¬ ((((((a * 2 ^ k / b) / 2) + 1) : Nat) : Int) = 9007199254740992) := p_ne h9
            refine GoS.run [5, 7] [.n] _ [.code (csub (cd Try.f27) [1,1,1,1,1,1,1,1,1,1])] [(5, .int .u64 (((((a * 2 ^ k / b) / 2) + 1) : Nat) : Int)), (7, .int .i64 ((-((k : Nat) : Int)) + 1))] w (by kernel_rfl) .nil ?_
            have o17 : (binOp .sub 22 (.int .u64 (((((a * 2 ^ k / b) / 2) + 1) : Nat) : Int)) (.int .u64 4503599627370496)).run Try.prog w = .ok (.int .u64 ((((((a * 2 ^ k / b) / 2) + 1) : Nat) : Int) - 4503599627370496)) w := f_sub (IntWalk.u64_in _ (by omega))
            have o18 : (binOp .add 3 (.int .i64 ((-((k : Nat) : Int)) + 1)) (.int .i64 1075)).run Try.prog w = .ok (.int .i64 (((-((k : Nat) : Int)) + 1) + 1075)) w := f_add (IntWalk.i64_in _ (by omega))
            have o19 : (convert 3 22 (.int .i64 (((-((k : Nat) : Int)) + 1) + 1075))).run Try.prog w = .ok (.int .u64 (((Int.toNat (((-((k : Nat) : Int)) + 1) + 1075)) : Nat) : Int)) w := f_conv (u := .int .i64) (by kernel_rfl) (by kernel_rfl) ((IntWalk.u64_in _ (by omega)).trans (by omega))
            have o20 : (binOp .mul 22 (.int .u64 (((Int.toNat (((-((k : Nat) : Int)) + 1) + 1075)) : Nat) : Int)) (.int .u64 4503599627370496)).run Try.prog w = .ok (.int .u64 ((((Int.toNat (((-((k : Nat) : Int)) + 1) + 1075)) * 4503599627370496) : Nat) : Int)) w := f_mul (by rw [show (((Int.toNat (((-((k : Nat) : Int)) + 1) + 1075)) : Nat) : Int) * 4503599627370496 = ((((Int.toNat (((-((k : Nat) : Int)) + 1) + 1075)) * 4503599627370496) : Nat) : Int) by omega]; exact IntWalk.u64_in _ (by omega))
            have o21 : (binOp .add 22 (.int .u64 ((((((a * 2 ^ k / b) / 2) + 1) : Nat) : Int) - 4503599627370496)) (.int .u64 ((((Int.toNat (((-((k : Nat) : Int)) + 1) + 1075)) * 4503599627370496) : Nat) : Int))).run Try.prog w = .ok (.int .u64 (((((((a * 2 ^ k / b) / 2) + 1) : Nat) : Int) - 4503599627370496) + ((((Int.toNat (((-((k : Nat) : Int)) + 1) + 1075)) * 4503599627370496) : Nat) : Int))) w := f_add (IntWalk.u64_in _ (by omega))
            refine GoS.run [4] [.n, .n, .n, .h (.int .u64 ((((((a * 2 ^ k / b) / 2) + 1) : Nat) : Int) - 4503599627370496)), .n, .h (.int .i64 (((-((k : Nat) : Int)) + 1) + 1075)), .h (.int .u64 (((Int.toNat (((-((k : Nat) : Int)) + 1) + 1075)) : Nat) : Int)), .h (.int .u64 ((((Int.toNat (((-((k : Nat) : Int)) + 1) + 1075)) * 4503599627370496) : Nat) : Int)), .h (.int .u64 (((((((a * 2 ^ k / b) / 2) + 1) : Nat) : Int) - 4503599627370496) + ((((Int.toNat (((-((k : Nat) : Int)) + 1) + 1075)) * 4503599627370496) : Nat) : Int))), .n, .n] _ [.code (csub (cd Try.f27) [1,1,1,1,1,1,1,1,1,1,1])] [(4, .int .u64 (((((((a * 2 ^ k / b) / 2) + 1) : Nat) : Int) - 4503599627370496) + ((((Int.toNat (((-((k : Nat) : Int)) + 1) + 1075)) * 4503599627370496) : Nat) : Int)))] w (by kernel_rfl) (.cons o17 (.cons o18 (.cons o19 (.cons o20 (.cons o21 .nil))))) ?_
            refine GoS.ret (fn := Try.f27) (v := (.int .u64 (((((((a * 2 ^ k / b) / 2) + 1) : Nat) : Int) - 4503599627370496) + ((((Int.toNat (((-((k : Nat) : Int)) + 1) + 1075)) * 4503599627370496) : Nat) : Int)))) Try.func27 (by kernel_rfl) ?_
            rw [hR]
            have hr := hrat (by omega)
            have hq3 := (hq2 (by omega)).2
            have hq4 := (hq2 (by omega)).1
            clear hrat hq2 hkk hq
            generalize a * 2 ^ k / b = q at *
            generalize a * 2 ^ k % b = r at *
            first | rw [rndQ_up (by omega) (by omega)] at hr | rw [rndQ_same (by omega)] at hr
            exact ⟨ret_int (by rw [hr]; omega), hD⟩
        ·
          have h6p : ¬ ((((a * 2 ^ k % b) : Nat) : Int) > 0) := of_decide_eq_false h6
          have o7 : (binOp .rem 22 (.int .u64 ((((a * 2 ^ k / b) / 2) : Nat) : Int)) (.int .u64 2)).run Try.prog w = .ok (.int .u64 (((((a * 2 ^ k / b) / 2) % 2) : Nat) : Int)) w := f_rem (by decide) ((IntWalk.rem_in _ _ (by omega)).trans (by omega))
          refine GoS.run [5, 7, 49] [.n, .h (.int .u64 (((((a * 2 ^ k / b) / 2) % 2) : Nat) : Int)), .n, .n, .n] _ [.inRegion (cops (csub (cd Try.f27) [1,1,1,1,1,1,1,1,0,0])) [], .code (csub (cd Try.f27) [1,1,1,1,1,1,1,1,0,1]), .code (csub (cd Try.f27) [1,1,1,1,1,1,1,1,1])] [(5, .int .u64 ((((a * 2 ^ k / b) / 2) : Nat) : Int)), (7, .int .i64 ((-((k : Nat) : Int)) + 1)), (49, .bool ((((((a * 2 ^ k / b) / 2) % 2) : Nat) : Int) == 1))] w (by kernel_rfl) (.cons o7 .nil) ?_
          refine GoS.run [5, 7, 49] [.n] _ [.code (csub (cd Try.f27) [1,1,1,1,1,1,1,1,0,1]), .code (csub (cd Try.f27) [1,1,1,1,1,1,1,1,1])] [(5, .int .u64 ((((a * 2 ^ k / b) / 2) : Nat) : Int)), (7, .int .i64 ((-((k : Nat) : Int)) + 1)), (49, .bool ((((((a * 2 ^ k / b) / 2) % 2) : Nat) : Int) == 1))] w (by kernel_rfl) .nil ?_
          refine GoS.cond ((((((a * 2 ^ k / b) / 2) % 2) : Nat) : Int) == 1) [.code (csub (cd Try.f27) [1,1,1,1,1,1,1,1,0,1,0]), .code (csub (cd Try.f27) [1,1,1,1,1,1,1,1,1])] [.code (csub (cd Try.f27) [1,1,1,1,1,1,1,1,0,1,1]), .code (csub (cd Try.f27) [1,1,1,1,1,1,1,1,1])] (by kernel_rfl) (fun h22 => ?_) (fun h22 => ?_)
          ·
            have h22p : (((((a * 2 ^ k / b) / 2) % 2) : Nat) : Int) = 1 := eq_of_beq h22
            have o23 : (binOp .add 22 (.int .u64 ((((a * 2 ^ k / b) / 2) : Nat) : Int)) (.int .u64 1)).run Try.prog w = .ok (.int .u64 (((((a * 2 ^ k / b) / 2) + 1) : Nat) : Int)) w := f_add (by rw [show ((((a * 2 ^ k / b) / 2) : Nat) : Int) + 1 = (((((a * 2 ^ k / b) / 2) + 1) : Nat) : Int) by omega]; exact IntWalk.u64_in _ (by omega))
            refine GoS.run [5, 7] [.n, .n, .h (.int .u64 (((((a * 2 ^ k / b) / 2) + 1) : Nat) : Int)), .n, .n] _ [.code (csub (cd Try.f27) [1,1,1,1,1,1,1,1,1])] [(5, .int .u64 (((((a * 2 ^ k / b) / 2) + 1) : Nat) : Int)), (7, .int .i64 ((-((k : Nat) : Int)) + 1))] w (by kernel_rfl) (.cons o23 .nil) ?_
            refine GoS.run [5, 7, 53] [.n, .n, .n, .n, .n, .n] _ [.code (csub (cd Try.f27) [1,1,1,1,1,1,1,1,1,0,1]), .code (csub (cd Try.f27) [1,1,1,1,1,1,1,1,1,1])] [(5, .int .u64 (((((a * 2 ^ k / b) / 2) + 1) : Nat) : Int)), (7, .int .i64 ((-((k : Nat) : Int)) + 1)), (53, .bool ((((((a * 2 ^ k / b) / 2) + 1) : Nat) : Int) == 9007199254740992))] w (by kernel_rfl) .nil ?_
            refine GoS.cond ((((((a * 2 ^ k / b) / 2) + 1) : Nat) : Int) == 9007199254740992) [.code (csub (cd Try.f27) [1,1,1,1,1,1,1,1,1,0,1,0]), .code (csub (cd Try.f27) [1,1,1,1,1,1,1,1,1,1])] [.code (csub (cd Try.f27) [1,1,1,1,1,1,1,1,1,0,1,1]), .code (csub (cd Try.f27) [1,1,1,1,1,1,1,1,1,1])] (by kernel_rfl) (fun h24 => ?_) (fun h24 => ?_)
            ·
              have h24p : (((((a * 2 ^ k / b) / 2) + 1) : Nat) : Int) = 9007199254740992 := eq_of_beq h24
              have o25 : (binOp .quo 22 (.int .u64 (((((a * 2 ^ k / b) / 2) + 1) : Nat) : Int)) (.int .u64 2)).run Try.prog w = .ok (.int .u64 ((((((a * 2 ^ k / b) / 2) + 1) / 2) : Nat) : Int)) w := f_quo (by decide) ((IntWalk.u64_quo _ _ (by omega)).trans (by omega))
              have o26 : (binOp .add 3 (.int .i64 ((-((k : Nat) : Int)) + 1)) (.int .i64 1)).run Try.prog w = .ok (.int .i64 (((-((k : Nat) : Int)) + 1) + 1)) w := f_add (IntWalk.i64_in _ (by omega))
              refine GoS.run [5, 7] [.n, .n, .n, .h (.int .u64 ((((((a * 2 ^ k / b) / 2) + 1) / 2) : Nat) : Int)), .n, .n, .n, .n, .h (.int .i64 (((-((k : Nat) : Int)) + 1) + 1)), .n, .n] _ [.code (csub (cd Try.f27) [1,1,1,1,1,1,1,1,1,1])] [(5, .int .u64 ((((((a * 2 ^ k / b) / 2) + 1) / 2) : Nat) : Int)), (7, .int .i64 (((-((k : Nat) : Int)) + 1) + 1))] w (by kernel_rfl) (.cons o25 (.cons o26 .nil)) ?_
              have o27 : (binOp .sub 22 (.int .u64 ((((((a * 2 ^ k / b) / 2) + 1) / 2) : Nat) : Int)) (.int .u64 4503599627370496)).run Try.prog w = .ok (.int .u64 (((((((a * 2 ^ k / b) / 2) + 1) / 2) : Nat) : Int) - 4503599627370496)) w := f_sub (IntWalk.u64_in _ (by omega))
              have o28 : (binOp .add 3 (.int .i64 (((-((k : Nat) : Int)) + 1) + 1)) (.int .i64 1075)).run Try.prog w = .ok (.int .i64 ((((-((k : Nat) : Int)) + 1) + 1) + 1075)) w := f_add (IntWalk.i64_in _ (by omega))
              have o29 : (convert 3 22 (.int .i64 ((((-((k : Nat) : Int)) + 1) + 1) + 1075))).run Try.prog w = .ok (.int .u64 (((Int.toNat ((((-((k : Nat) : Int)) + 1) + 1) + 1075)) : Nat) : Int)) w := f_conv (u := .int .i64) (by kernel_rfl) (by kernel_rfl) ((IntWalk.u64_in _ (by omega)).trans (by omega))
              have o30 : (binOp .mul 22 (.int .u64 (((Int.toNat ((((-((k : Nat) : Int)) + 1) + 1) + 1075)) : Nat) : Int)) (.int .u64 4503599627370496)).run Try.prog w = .ok (.int .u64 ((((Int.toNat ((((-((k : Nat) : Int)) + 1) + 1) + 1075)) * 4503599627370496) : Nat) : Int)) w := f_mul (by rw [show (((Int.toNat ((((-((k : Nat) : Int)) + 1) + 1) + 1075)) : Nat) : Int) * 4503599627370496 = ((((Int.toNat ((((-((k : Nat) : Int)) + 1) + 1) + 1075)) * 4503599627370496) : Nat) : Int) by omega]; exact IntWalk.u64_in _ (by omega))
              have o31 : (binOp .add 22 (.int .u64 (((((((a * 2 ^ k / b) / 2) + 1) / 2) : Nat) : Int) - 4503599627370496)) (.int .u64 ((((Int.toNat ((((-((k : Nat) : Int)) + 1) + 1) + 1075)) * 4503599627370496) : Nat) : Int))).run Try.prog w = .ok (.int .u64 ((((((((a * 2 ^ k / b) / 2) + 1) / 2) : Nat) : Int) - 4503599627370496) + ((((Int.toNat ((((-((k : Nat) : Int)) + 1) + 1) + 1075)) * 4503599627370496) : Nat) : Int))) w := f_add (IntWalk.u64_in _ (by omega))
              refine GoS.run [4] [.n, .n, .n, .h (.int .u64 (((((((a * 2 ^ k / b) / 2) + 1) / 2) : Nat) : Int) - 4503599627370496)), .n, .h (.int .i64 ((((-((k : Nat) : Int)) + 1) + 1) + 1075)), .h (.int .u64 (((Int.toNat ((((-((k : Nat) : Int)) + 1) + 1) + 1075)) : Nat) : Int)), .h (.int .u64 ((((Int.toNat ((((-((k : Nat) : Int)) + 1) + 1) + 1075)) * 4503599627370496) : Nat) : Int)), .h (.int .u64 ((((((((a * 2 ^ k / b) / 2) + 1) / 2) : Nat) : Int) - 4503599627370496) + ((((Int.toNat ((((-((k : Nat) : Int)) + 1) + 1) + 1075)) * 4503599627370496) : Nat) : Int))), .n, .n] _ [.code (csub (cd Try.f27) [1,1,1,1,1,1,1,1,1,1,1])] [(4, .int .u64 ((((((((a * 2 ^ k / b) / 2) + 1) / 2) : Nat) : Int) - 4503599627370496) + ((((Int.toNat ((((-((k : Nat) : Int)) + 1) + 1) + 1075)) * 4503599627370496) : Nat) : Int)))] w (by kernel_rfl) (.cons o27 (.cons o28 (.cons o29 (.cons o30 (.cons o31 .nil))))) ?_
              refine GoS.ret (fn := Try.f27) (v := (.int .u64 ((((((((a * 2 ^ k / b) / 2) + 1) / 2) : Nat) : Int) - 4503599627370496) + ((((Int.toNat ((((-((k : Nat) : Int)) + 1) + 1) + 1075)) * 4503599627370496) : Nat) : Int)))) Try.func27 (by kernel_rfl) ?_
              rw [hR]
              have hr := hrat (by omega)
              have hq3 := (hq2 (by omega)).2
              have hq4 := (hq2 (by omega)).1
              clear hrat hq2 hkk hq
              generalize a * 2 ^ k / b = q at *
              generalize a * 2 ^ k % b = r at *
              first | rw [rndQ_up (by omega) (by omega)] at hr | rw [rndQ_same (by omega)] at hr
              exact ⟨ret_int (by rw [hr]; omega), hD⟩
            ·
              have h24p : ¬ ((((((a * 2 ^ k / b) / 2) + 1) : Nat) : Int) = 9007199254740992) := p_ne h24
              refine GoS.run [5, 7] [.n] _ [.code (csub (cd Try.f27) [1,1,1,1,1,1,1,1,1,1])] [(5, .int .u64 (((((a * 2 ^ k / b) / 2) + 1) : Nat) : Int)), (7, .int .i64 ((-((k : Nat) : Int)) + 1))] w (by kernel_rfl) .nil ?_
              have o32 : (binOp .sub 22 (.int .u64 (((((a * 2 ^ k / b) / 2) + 1) : Nat) : Int)) (.int .u64 4503599627370496)).run Try.prog w = .ok (.int .u64 ((((((a * 2 ^ k / b) / 2) + 1) : Nat) : Int) - 4503599627370496)) w := f_sub (IntWalk.u64_in _ (by omega))
              have o33 : (binOp .add 3 (.int .i64 ((-((k : Nat) : Int)) + 1)) (.int .i64 1075)).run Try.prog w = .ok (.int .i64 (((-((k : Nat) : Int)) + 1) + 1075)) w := f_add (IntWalk.i64_in _ (by omega))
              have o34 : (convert 3 22 (.int .i64 (((-((k : Nat) : Int)) + 1) + 1075))).run Try.prog w = .ok (.int .u64 (((Int.toNat (((-((k : Nat) : Int)) + 1) + 1075)) : Nat) : Int)) w := f_conv (u := .int .i64) (by kernel_rfl) (by kernel_rfl) ((IntWalk.u64_in _ (by omega)).trans (by omega))
              have o35 : (binOp .mul 22 (.int .u64 (((Int.toNat (((-((k : Nat) : Int)) + 1) + 1075)) : Nat) : Int)) (.int .u64 4503599627370496)).run Try.prog w = .ok (.int .u64 ((((Int.toNat (((-((k : Nat) : Int)) + 1) + 1075)) * 4503599627370496) : Nat) : Int)) w := f_mul (by rw [show (((Int.toNat (((-((k : Nat) : Int)) + 1) + 1075)) : Nat) : Int) * 4503599627370496 = ((((Int.toNat (((-((k : Nat) : Int)) + 1) + 1075)) * 4503599627370496) : Nat) : Int) by omega]; exact IntWalk.u64_in _ (by omega))
              have o36 : (binOp .add 22 (.int .u64 ((((((a * 2 ^ k / b) / 2) + 1) : Nat) : Int) - 4503599627370496)) (.int .u64 ((((Int.toNat (((-((k : Nat) : Int)) + 1) + 1075)) * 4503599627370496) : Nat) : Int))).run Try.prog w = .ok (.int .u64 (((((((a * 2 ^ k / b) / 2) + 1) : Nat) : Int) - 4503599627370496) + ((((Int.toNat (((-((k : Nat) : Int)) + 1) + 1075)) * 4503599627370496) : Nat) : Int))) w := f_add (IntWalk.u64_in _ (by omega))
              refine GoS.run [4] [.n, .n, .n, .h (.int .u64 ((((((a * 2 ^ k / b) / 2) + 1) : Nat) : Int) - 4503599627370496)), .n, .h (.int .i64 (((-((k : Nat) : Int)) + 1) + 1075)), .h (.int .u64 (((Int.toNat (((-((k : Nat) : Int)) + 1) + 1075)) : Nat) : Int)), .h (.int .u64 ((((Int.toNat (((-((k : Nat) : Int)) + 1) + 1075)) * 4503599627370496) : Nat) : Int)), .h (.int .u64 (((((((a * 2 ^ k / b) / 2) + 1) : Nat) : Int) - 4503599627370496) + ((((Int.toNat (((-((k : Nat) : Int)) + 1) + 1075)) * 4503599627370496) : Nat) : Int))), .n, .n] _ [.code (csub (cd Try.f27) [1,1,1,1,1,1,1,1,1,1,1])] [(4, .int .u64 (((((((a * 2 ^ k / b) / 2) + 1) : Nat) : Int) - 4503599627370496) + ((((Int.toNat (((-((k : Nat) : Int)) + 1) + 1075)) * 4503599627370496) : Nat) : Int)))] w (by kernel_rfl) (.cons o32 (.cons o33 (.cons o34 (.cons o35 (.cons o36 .nil))))) ?_
              refine GoS.ret (fn := Try.f27) (v := (.int .u64 (((((((a * 2 ^ k / b) / 2) + 1) : Nat) : Int) - 4503599627370496) + ((((Int.toNat (((-((k : Nat) : Int)) + 1) + 1075)) * 4503599627370496) : Nat) : Int)))) Try.func27 (by kernel_rfl) ?_
              rw [hR]
              have hr := hrat (by omega)
              have hq3 := (hq2 (by omega)).2
              have hq4 := (hq2 (by omega)).1
              clear hrat hq2 hkk hq
              generalize a * 2 ^ k / b = q at *
              generalize a * 2 ^ k % b = r at *
              first | rw [rndQ_up (by omega) (by omega)] at hr | rw [rndQ_same (by omega)] at hr
              exact ⟨ret_int (by rw [hr]; omega), hD⟩
          ·
            have h22p : ¬ ((((((a * 2 ^ k / b) / 2) % 2) : Nat) : Int) = 1) := p_ne h22
            refine GoS.run [5, 7] [.n] _ [.code (csub (cd Try.f27) [1,1,1,1,1,1,1,1,1])] [(5, .int .u64 ((((a * 2 ^ k / b) / 2) : Nat) : Int)), (7, .int .i64 ((-((k : Nat) : Int)) + 1))] w (by kernel_rfl) .nil ?_
            refine GoS.run [5, 7, 53] [.n, .n, .n, .n, .n, .n] _ [.code (csub (cd Try.f27) [1,1,1,1,1,1,1,1,1,0,1]), .code (csub (cd Try.f27) [1,1,1,1,1,1,1,1,1,1])] [(5, .int .u64 ((((a * 2 ^ k / b) / 2) : Nat) : Int)), (7, .int .i64 ((-((k : Nat) : Int)) + 1)), (53, .bool (((((a * 2 ^ k / b) / 2) : Nat) : Int) == 9007199254740992))] w (by kernel_rfl) .nil ?_
            refine GoS.cond (((((a * 2 ^ k / b) / 2) : Nat) : Int) == 9007199254740992) [.code (csub (cd Try.f27) [1,1,1,1,1,1,1,1,1,0,1,0]), .code (csub (cd Try.f27) [1,1,1,1,1,1,1,1,1,1])] [.code (csub (cd Try.f27) [1,1,1,1,1,1,1,1,1,0,1,1]), .code (csub (cd Try.f27) [1,1,1,1,1,1,1,1,1,1])] (by kernel_rfl) (fun h37 => ?_) (fun h37 => ?_)
            ·
              have h37p : ((((a * 2 ^ k / b) / 2) : Nat) : Int) = 9007199254740992 := eq_of_beq h37
              have o38 : (binOp .quo 22 (.int .u64 ((((a * 2 ^ k / b) / 2) : Nat) : Int)) (.int .u64 2)).run Try.prog w = .ok (.int .u64 (((((a * 2 ^ k / b) / 2) / 2) : Nat) : Int)) w := f_quo (by decide) ((IntWalk.u64_quo _ _ (by omega)).trans (by omega))
              have o39 : (binOp .add 3 (.int .i64 ((-((k : Nat) : Int)) + 1)) (.int .i64 1)).run Try.prog w = .ok (.int .i64 (((-((k : Nat) : Int)) + 1) + 1)) w := f_add (IntWalk.i64_in _ (by omega))
              refine GoS.run [5, 7] [.n, .n, .n, .h (.int .u64 (((((a * 2 ^ k / b) / 2) / 2) : Nat) : Int)), .n, .n, .n, .n, .h (.int .i64 (((-((k : Nat) : Int)) + 1) + 1)), .n, .n] _ [.code (csub (cd Try.f27) [1,1,1,1,1,1,1,1,1,1])] [(5, .int .u64 (((((a * 2 ^ k / b) / 2) / 2) : Nat) : Int)), (7, .int .i64 (((-((k : Nat) : Int)) + 1) + 1))] w (by kernel_rfl) (.cons o38 (.cons o39 .nil)) ?_
              have o40 : (binOp .sub 22 (.int .u64 (((((a * 2 ^ k / b) / 2) / 2) : Nat) : Int)) (.int .u64 4503599627370496)).run Try.prog w = .ok (.int .u64 ((((((a * 2 ^ k / b) / 2) / 2) : Nat) : Int) - 4503599627370496)) w := f_sub (IntWalk.u64_in _ (by omega))
              have o41 : (binOp .add 3 (.int .i64 (((-((k : Nat) : Int)) + 1) + 1)) (.int .i64 1075)).run Try.prog w = .ok (.int .i64 ((((-((k : Nat) : Int)) + 1) + 1) + 1075)) w := f_add (IntWalk.i64_in _ (by omega))
              have o42 : (convert 3 22 (.int .i64 ((((-((k : Nat) : Int)) + 1) + 1) + 1075))).run Try.prog w = .ok (.int .u64 (((Int.toNat ((((-((k : Nat) : Int)) + 1) + 1) + 1075)) : Nat) : Int)) w := f_conv (u := .int .i64) (by kernel_rfl) (by kernel_rfl) ((IntWalk.u64_in _ (by omega)).trans (by omega))
              have o43 : (binOp .mul 22 (.int .u64 (((Int.toNat ((((-((k : Nat) : Int)) + 1) + 1) + 1075)) : Nat) : Int)) (.int .u64 4503599627370496)).run Try.prog w = .ok (.int .u64 ((((Int.toNat ((((-((k : Nat) : Int)) + 1) + 1) + 1075)) * 4503599627370496) : Nat) : Int)) w := f_mul (by rw [show (((Int.toNat ((((-((k : Nat) : Int)) + 1) + 1) + 1075)) : Nat) : Int) * 4503599627370496 = ((((Int.toNat ((((-((k : Nat) : Int)) + 1) + 1) + 1075)) * 4503599627370496) : Nat) : Int) by omega]; exact IntWalk.u64_in _ (by omega))
              have o44 : (binOp .add 22 (.int .u64 ((((((a * 2 ^ k / b) / 2) / 2) : Nat) : Int) - 4503599627370496)) (.int .u64 ((((Int.toNat ((((-((k : Nat) : Int)) + 1) + 1) + 1075)) * 4503599627370496) : Nat) : Int))).run Try.prog w = .ok (.int .u64 (((((((a * 2 ^ k / b) / 2) / 2) : Nat) : Int) - 4503599627370496) + ((((Int.toNat ((((-((k : Nat) : Int)) + 1) + 1) + 1075)) * 4503599627370496) : Nat) : Int))) w := f_add (IntWalk.u64_in _ (by omega))
              refine GoS.run [4] [.n, .n, .n, .h (.int .u64 ((((((a * 2 ^ k / b) / 2) / 2) : Nat) : Int) - 4503599627370496)), .n, .h (.int .i64 ((((-((k : Nat) : Int)) + 1) + 1) + 1075)), .h (.int .u64 (((Int.toNat ((((-((k : Nat) : Int)) + 1) + 1) + 1075)) : Nat) : Int)), .h (.int .u64 ((((Int.toNat ((((-((k : Nat) : Int)) + 1) + 1) + 1075)) * 4503599627370496) : Nat) : Int)), .h (.int .u64 (((((((a * 2 ^ k / b) / 2) / 2) : Nat) : Int) - 4503599627370496) + ((((Int.toNat ((((-((k : Nat) : Int)) + 1) + 1) + 1075)) * 4503599627370496) : Nat) : Int))), .n, .n] _ [.code (csub (cd Try.f27) [1,1,1,1,1,1,1,1,1,1,1])] [(4, .int .u64 (((((((a * 2 ^ k / b) / 2) / 2) : Nat) : Int) - 4503599627370496) + ((((Int.toNat ((((-((k : Nat) : Int)) + 1) + 1) + 1075)) * 4503599627370496) : Nat) : Int)))] w (by kernel_rfl) (.cons o40 (.cons o41 (.cons o42 (.cons o43 (.cons o44 .nil))))) ?_
              refine GoS.ret (fn := Try.f27) (v := (.int .u64 (((((((a * 2 ^ k / b) / 2) / 2) : Nat) : Int) - 4503599627370496) + ((((Int.toNat ((((-((k : Nat) : Int)) + 1) + 1) + 1075)) * 4503599627370496) : Nat) : Int)))) Try.func27 (by kernel_rfl) ?_
              rw [hR]
              have hr := hrat (by omega)
              have hq3 := (hq2 (by omega)).2
              have hq4 := (hq2 (by omega)).1
              clear hrat hq2 hkk hq
              generalize a * 2 ^ k / b = q at *
              generalize a * 2 ^ k % b = r at *
              first | rw [rndQ_up (by omega) (by omega)] at hr | rw [rndQ_same (by omega)] at hr
              exact ⟨ret_int (by rw [hr]; omega), hD⟩
            ·
              have h37p : ¬ (((((a * 2 ^ k / b) / 2) : Nat) : Int) = 9007199254740992) := p_ne h37
              refine GoS.run [5, 7] [.n] _ [.code (csub (cd Try.f27) [1,1,1,1,1,1,1,1,1,1])] [(5, .int .u64 ((((a * 2 ^ k / b) / 2) : Nat) : Int)), (7, .int .i64 ((-((k : Nat) : Int)) + 1))] w (by kernel_rfl) .nil ?_
              have o45 : (binOp .sub 22 (.int .u64 ((((a * 2 ^ k / b) / 2) : Nat) : Int)) (.int .u64 4503599627370496)).run Try.prog w = .ok (.int .u64 (((((a * 2 ^ k / b) / 2) : Nat) : Int) - 4503599627370496)) w := f_sub (IntWalk.u64_in _ (by omega))
              have o46 : (binOp .add 3 (.int .i64 ((-((k : Nat) : Int)) + 1)) (.int .i64 1075)).run Try.prog w = .ok (.int .i64 (((-((k : Nat) : Int)) + 1) + 1075)) w := f_add (IntWalk.i64_in _ (by omega))
              have o47 : (convert 3 22 (.int .i64 (((-((k : Nat) : Int)) + 1) + 1075))).run Try.prog w = .ok (.int .u64 (((Int.toNat (((-((k : Nat) : Int)) + 1) + 1075)) : Nat) : Int)) w := f_conv (u := .int .i64) (by kernel_rfl) (by kernel_rfl) ((IntWalk.u64_in _ (by omega)).trans (by omega))
              have o48 : (binOp .mul 22 (.int .u64 (((Int.toNat (((-((k : Nat) : Int)) + 1) + 1075)) : Nat) : Int)) (.int .u64 4503599627370496)).run Try.prog w = .ok (.int .u64 ((((Int.toNat (((-((k : Nat) : Int)) + 1) + 1075)) * 4503599627370496) : Nat) : Int)) w := f_mul (by rw [show (((Int.toNat (((-((k : Nat) : Int)) + 1) + 1075)) : Nat) : Int) * 4503599627370496 = ((((Int.toNat (((-((k : Nat) : Int)) + 1) + 1075)) * 4503599627370496) : Nat) : Int) by omega]; exact IntWalk.u64_in _ (by omega))
              have o49 : (binOp .add 22 (.int .u64 (((((a * 2 ^ k / b) / 2) : Nat) : Int) - 4503599627370496)) (.int .u64 ((((Int.toNat (((-((k : Nat) : Int)) + 1) + 1075)) * 4503599627370496) : Nat) : Int))).run Try.prog w = .ok (.int .u64 ((((((a * 2 ^ k / b) / 2) : Nat) : Int) - 4503599627370496) + ((((Int.toNat (((-((k : Nat) : Int)) + 1) + 1075)) * 4503599627370496) : Nat) : Int))) w := f_add (IntWalk.u64_in _ (by omega))
              refine GoS.run [4] [.n, .n, .n, .h (.int .u64 (((((a * 2 ^ k / b) / 2) : Nat) : Int) - 4503599627370496)), .n, .h (.int .i64 (((-((k : Nat) : Int)) + 1) + 1075)), .h (.int .u64 (((Int.toNat (((-((k : Nat) : Int)) + 1) + 1075)) : Nat) : Int)), .h (.int .u64 ((((Int.toNat (((-((k : Nat) : Int)) + 1) + 1075)) * 4503599627370496) : Nat) : Int)), .h (.int .u64 ((((((a * 2 ^ k / b) / 2) : Nat) : Int) - 4503599627370496) + ((((Int.toNat (((-((k : Nat) : Int)) + 1) + 1075)) * 4503599627370496) : Nat) : Int))), .n, .n] _ [.code (csub (cd Try.f27) [1,1,1,1,1,1,1,1,1,1,1])] [(4, .int .u64 ((((((a * 2 ^ k / b) / 2) : Nat) : Int) - 4503599627370496) + ((((Int.toNat (((-((k : Nat) : Int)) + 1) + 1075)) * 4503599627370496) : Nat) : Int)))] w (by kernel_rfl) (.cons o45 (.cons o46 (.cons o47 (.cons o48 (.cons o49 .nil))))) ?_
              refine GoS.ret (fn := Try.f27) (v := (.int .u64 ((((((a * 2 ^ k / b) / 2) : Nat) : Int) - 4503599627370496) + ((((Int.toNat (((-((k : Nat) : Int)) + 1) + 1075)) * 4503599627370496) : Nat) : Int)))) Try.func27 (by kernel_rfl) ?_
              rw [hR]
              have hr := hrat (by omega)
              have hq3 := (hq2 (by omega)).2
              have hq4 := (hq2 (by omega)).1
              clear hrat hq2 hkk hq
              generalize a * 2 ^ k / b = q at *
              generalize a * 2 ^ k % b = r at *
              first | rw [rndQ_up (by omega) (by omega)] at hr | rw [rndQ_same (by omega)] at hr
              exact ⟨ret_int (by rw [hr]; omega), hD⟩
      ·
        have h5p : ¬ (((((a * 2 ^ k / b) % 2) : Nat) : Int) = 1) := p_ne h5
        refine GoS.run [5, 7, 49] [.n, .n, .n, .n, .n, .n, .n, .n] _ [.inRegion (cops (csub (cd Try.f27) [1,1,1,1,1,1,1,1,0,0])) [], .code (csub (cd Try.f27) [1,1,1,1,1,1,1,1,0,1]), .code (csub (cd Try.f27) [1,1,1,1,1,1,1,1,1])] [(5, .int .u64 ((((a * 2 ^ k / b) / 2) : Nat) : Int)), (7, .int .i64 ((-((k : Nat) : Int)) + 1)), (49, .bool false)] w (by kernel_rfl) .nil ?_
        refine GoS.run [5, 7, 53] [.n, .n, .n, .n, .n, .n, .n, .n, .n] _ [.code (csub (cd Try.f27) [1,1,1,1,1,1,1,1,1,0,1]), .code (csub (cd Try.f27) [1,1,1,1,1,1,1,1,1,1])] [(5, .int .u64 ((((a * 2 ^ k / b) / 2) : Nat) : Int)), (7, .int .i64 ((-((k : Nat) : Int)) + 1)), (53, .bool (((((a * 2 ^ k / b) / 2) : Nat) : Int) == 9007199254740992))] w (by kernel_rfl) .nil ?_
        refine GoS.cond (((((a * 2 ^ k / b) / 2) : Nat) : Int) == 9007199254740992) [.code (csub (cd Try.f27) [1,1,1,1,1,1,1,1,1,0,1,0]), .code (csub (cd Try.f27) [1,1,1,1,1,1,1,1,1,1])] [.code (csub (cd Try.f27) [1,1,1,1,1,1,1,1,1,0,1,1]), .code (csub (cd Try.f27) [1,1,1,1,1,1,1,1,1,1])] (by kernel_rfl) (fun h50 => ?_) (fun h50 => ?_)
        ·
          have h50p : ((((a * 2 ^ k / b) / 2) : Nat) : Int) = 9007199254740992 := eq_of_beq h50
          have o51 : (binOp .quo 22 (.int .u64 ((((a * 2 ^ k / b) / 2) : Nat) : Int)) (.int .u64 2)).run Try.prog w = .ok (.int .u64 (((((a * 2 ^ k / b) / 2) / 2) : Nat) : Int)) w := f_quo (by decide) ((IntWalk.u64_quo _ _ (by omega)).trans (by omega))
          have o52 : (binOp .add 3 (.int .i64 ((-((k : Nat) : Int)) + 1)) (.int .i64 1)).run Try.prog w = .ok (.int .i64 (((-((k : Nat) : Int)) + 1) + 1)) w := f_add (IntWalk.i64_in _ (by omega))
          refine GoS.run [5, 7] [.n, .n, .n, .h (.int .u64 (((((a * 2 ^ k / b) / 2) / 2) : Nat) : Int)), .n, .n, .n, .n, .h (.int .i64 (((-((k : Nat) : Int)) + 1) + 1)), .n, .n] _ [.code (csub (cd Try.f27) [1,1,1,1,1,1,1,1,1,1])] [(5, .int .u64 (((((a * 2 ^ k / b) / 2) / 2) : Nat) : Int)), (7, .int .i64 (((-((k : Nat) : Int)) + 1) + 1))] w (by kernel_rfl) (.cons o51 (.cons o52 .nil)) ?_
          have o53 : (binOp .sub 22 (.int .u64 (((((a * 2 ^ k / b) / 2) / 2) : Nat) : Int)) (.int .u64 4503599627370496)).run Try.prog w = .ok (.int .u64 ((((((a * 2 ^ k / b) / 2) / 2) : Nat) : Int) - 4503599627370496)) w := f_sub (IntWalk.u64_in _ (by omega))
          have o54 : (binOp .add 3 (.int .i64 (((-((k : Nat) : Int)) + 1) + 1)) (.int .i64 1075)).run Try.prog w = .ok (.int .i64 ((((-((k : Nat) : Int)) + 1) + 1) + 1075)) w := f_add (IntWalk.i64_in _ (by omega))
          have o55 : (convert 3 22 (.int .i64 ((((-((k : Nat) : Int)) + 1) + 1) + 1075))).run Try.prog w = .ok (.int .u64 (((Int.toNat ((((-((k : Nat) : Int)) + 1) + 1) + 1075)) : Nat) : Int)) w := f_conv (u := .int .i64) (by kernel_rfl) (by kernel_rfl) ((IntWalk.u64_in _ (by omega)).trans (by omega))
          have o56 : (binOp .mul 22 (.int .u64 (((Int.toNat ((((-((k : Nat) : Int)) + 1) + 1) + 1075)) : Nat) : Int)) (.int .u64 4503599627370496)).run Try.prog w = .ok (.int .u64 ((((Int.toNat ((((-((k : Nat) : Int)) + 1) + 1) + 1075)) * 4503599627370496) : Nat) : Int)) w := f_mul (by rw [show (((Int.toNat ((((-((k : Nat) : Int)) + 1) + 1) + 1075)) : Nat) : Int) * 4503599627370496 = ((((Int.toNat ((((-((k : Nat) : Int)) + 1) + 1) + 1075)) * 4503599627370496) : Nat) : Int) by omega]; exact IntWalk.u64_in _ (by omega))
          have o57 : (binOp .add 22 (.int .u64 ((((((a * 2 ^ k / b) / 2) / 2) : Nat) : Int) - 4503599627370496)) (.int .u64 ((((Int.toNat ((((-((k : Nat) : Int)) + 1) + 1) + 1075)) * 4503599627370496) : Nat) : Int))).run Try.prog w = .ok (.int .u64 (((((((a * 2 ^ k / b) / 2) / 2) : Nat) : Int) - 4503599627370496) + ((((Int.toNat ((((-((k : Nat) : Int)) + 1) + 1) + 1075)) * 4503599627370496) : Nat) : Int))) w := f_add (IntWalk.u64_in _ (by omega))
          refine GoS.run [4] [.n, .n, .n, .h (.int .u64 ((((((a * 2 ^ k / b) / 2) / 2) : Nat) : Int) - 4503599627370496)), .n, .h (.int .i64 ((((-((k : Nat) : Int)) + 1) + 1) + 1075)), .h (.int .u64 (((Int.toNat ((((-((k : Nat) : Int)) + 1) + 1) + 1075)) : Nat) : Int)), .h (.int .u64 ((((Int.toNat ((((-((k : Nat) : Int)) + 1) + 1) + 1075)) * 4503599627370496) : Nat) : Int)), .h (.int .u64 (((((((a * 2 ^ k / b) / 2) / 2) : Nat) : Int) - 4503599627370496) + ((((Int.toNat ((((-((k : Nat) : Int)) + 1) + 1) + 1075)) * 4503599627370496) : Nat) : Int))), .n, .n] _ [.code (csub (cd Try.f27) [1,1,1,1,1,1,1,1,1,1,1])] [(4, .int .u64 (((((((a * 2 ^ k / b) / 2) / 2) : Nat) : Int) - 4503599627370496) + ((((Int.toNat ((((-((k : Nat) : Int)) + 1) + 1) + 1075)) * 4503599627370496) : Nat) : Int)))] w (by kernel_rfl) (.cons o53 (.cons o54 (.cons o55 (.cons o56 (.cons o57 .nil))))) ?_
          refine GoS.ret (fn := Try.f27) (v := (.int .u64 (((((((a * 2 ^ k / b) / 2) / 2) : Nat) : Int) - 4503599627370496) + ((((Int.toNat ((((-((k : Nat) : Int)) + 1) + 1) + 1075)) * 4503599627370496) : Nat) : Int)))) Try.func27 (by kernel_rfl) ?_
          rw [hR]
          have hr := hrat (by omega)
          have hq3 := (hq2 (by omega)).2
          have hq4 := (hq2 (by omega)).1
          clear hrat hq2 hkk hq
          generalize a * 2 ^ k / b = q at *
          generalize a * 2 ^ k % b = r at *
          first | rw [rndQ_up (by omega) (by omega)] at hr | rw [rndQ_same (by omega)] at hr
          exact ⟨ret_int (by rw [hr]; omega), hD⟩
        ·
          have h50p : ¬ (((((a * 2 ^ k / b) / 2) : Nat) : Int) = 9007199254740992) := p_ne h50
          refine GoS.run [5, 7] [.n] _ [.code (csub (cd Try.f27) [1,1,1,1,1,1,1,1,1,1])] [(5, .int .u64 ((((a * 2 ^ k / b) / 2) : Nat) : Int)), (7, .int .i64 ((-((k : Nat) : Int)) + 1))] w (by kernel_rfl) .nil ?_
          have o58 : (binOp .sub 22 (.int .u64 ((((a * 2 ^ k / b) / 2) : Nat) : Int)) (.int .u64 4503599627370496)).run Try.prog w = .ok (.int .u64 (((((a * 2 ^ k / b) / 2) : Nat) : Int) - 4503599627370496)) w := f_sub (IntWalk.u64_in _ (by omega))
          have o59 : (binOp .add 3 (.int .i64 ((-((k : Nat) : Int)) + 1)) (.int .i64 1075)).run Try.prog w = .ok (.int .i64 (((-((k : Nat) : Int)) + 1) + 1075)) w := f_add (IntWalk.i64_in _ (by omega))
          have o60 : (convert 3 22 (.int .i64 (((-((k : Nat) : Int)) + 1) + 1075))).run Try.prog w = .ok (.int .u64 (((Int.toNat (((-((k : Nat) : Int)) + 1) + 1075)) : Nat) : Int)) w := f_conv (u := .int .i64) (by kernel_rfl) (by kernel_rfl) ((IntWalk.u64_in _ (by omega)).trans (by omega))
          have o61 : (binOp .mul 22 (.int .u64 (((Int.toNat (((-((k : Nat) : Int)) + 1) + 1075)) : Nat) : Int)) (.int .u64 4503599627370496)).run Try.prog w = .ok (.int .u64 ((((Int.toNat (((-((k : Nat) : Int)) + 1) + 1075)) * 4503599627370496) : Nat) : Int)) w := f_mul (by rw [show (((Int.toNat (((-((k : Nat) : Int)) + 1) + 1075)) : Nat) : Int) * 4503599627370496 = ((((Int.toNat (((-((k : Nat) : Int)) + 1) + 1075)) * 4503599627370496) : Nat) : Int) by omega]; exact IntWalk.u64_in _ (by omega))
          have o62 : (binOp .add 22 (.int .u64 (((((a * 2 ^ k / b) / 2) : Nat) : Int) - 4503599627370496)) (.int .u64 ((((Int.toNat (((-((k : Nat) : Int)) + 1) + 1075)) * 4503599627370496) : Nat) : Int))).run Try.prog w = .ok (.int .u64 ((((((a * 2 ^ k / b) / 2) : Nat) : Int) - 4503599627370496) + ((((Int.toNat (((-((k : Nat) : Int)) + 1) + 1075)) * 4503599627370496) : Nat) : Int))) w := f_add (IntWalk.u64_in _ (by omega))
          refine GoS.run [4] [.n, .n, .n, .h (.int .u64 (((((a * 2 ^ k / b) / 2) : Nat) : Int) - 4503599627370496)), .n, .h (.int .i64 (((-((k : Nat) : Int)) + 1) + 1075)), .h (.int .u64 (((Int.toNat (((-((k : Nat) : Int)) + 1) + 1075)) : Nat) : Int)), .h (.int .u64 ((((Int.toNat (((-((k : Nat) : Int)) + 1) + 1075)) * 4503599627370496) : Nat) : Int)), .h (.int .u64 ((((((a * 2 ^ k / b) / 2) : Nat) : Int) - 4503599627370496) + ((((Int.toNat (((-((k : Nat) : Int)) + 1) + 1075)) * 4503599627370496) : Nat) : Int))), .n, .n] _ [.code (csub (cd Try.f27) [1,1,1,1,1,1,1,1,1,1,1])] [(4, .int .u64 ((((((a * 2 ^ k / b) / 2) : Nat) : Int) - 4503599627370496) + ((((Int.toNat (((-((k : Nat) : Int)) + 1) + 1075)) * 4503599627370496) : Nat) : Int)))] w (by kernel_rfl) (.cons o58 (.cons o59 (.cons o60 (.cons o61 (.cons o62 .nil))))) ?_
          refine GoS.ret (fn := Try.f27) (v := (.int .u64 ((((((a * 2 ^ k / b) / 2) : Nat) : Int) - 4503599627370496) + ((((Int.toNat (((-((k : Nat) : Int)) + 1) + 1075)) * 4503599627370496) : Nat) : Int)))) Try.func27 (by kernel_rfl) ?_
          rw [hR]
          have hr := hrat (by omega)
          have hq3 := (hq2 (by omega)).2
          have hq4 := (hq2 (by omega)).1
          clear hrat hq2 hkk hq
          generalize a * 2 ^ k / b = q at *
          generalize a * 2 ^ k % b = r at *
          first | rw [rndQ_up (by omega) (by omega)] at hr | rw [rndQ_same (by omega)] at hr
          exact ⟨ret_int (by rw [hr]; omega), hD⟩

set_option maxHeartbeats 400000 in
theorem ratio_c (a b : Nat) (ha : a < 9007199254740992) (hb : 0 < b) (hb2 : b ≤ 1000) (w : World) :
    Calls Try.prog 27 #[.int .u64 ((a : Nat) : Int), .int .u64 ((b : Nat) : Int)] w (fun e w' => e = .returned (.int .u64 ((ratN a b : Nat) : Int)) ∧ Dr w w') := by
  obtain ⟨R, hR⟩ : ∃ R : Ending → World → Prop, R = (fun e w' => e = .returned (.int .u64 ((ratN a b : Nat) : Int)) ∧ Dr w w') := ⟨_, rfl⟩
  rw [← hR]
  refine GoS.enter (n := 65) Try.func27 (by kernel_rfl) rfl [(0, .int .u64 ((a : Nat) : Int)), (1, .int .u64 ((b : Nat) : Int))] (by kernel_rfl) (by kernel_rfl) ?_
  have hD0 := Dr.refl w
  refine GoS.run [0, 1, 10] [.n, .n, .n, .n, .n, .n, .n, .n, .n, .n] _ [.code (csub (cd Try.f27) [1,0,1]), .code (csub (cd Try.f27) [1,1])] [(0, .int .u64 ((a : Nat) : Int)), (1, .int .u64 ((b : Nat) : Int)), (10, .bool (((a : Nat) : Int) == 0))] w (by kernel_rfl) .nil ?_
  refine GoS.cond (((a : Nat) : Int) == 0) [.code (csub (cd Try.f27) [1,0,1,0]), .code (csub (cd Try.f27) [1,1])] [.code (csub (cd Try.f27) [1,0,1,1]), .code (csub (cd Try.f27) [1,1])] (by kernel_rfl) (fun h1 => ?_) (fun h1 => ?_)
  ·
    have h1p : ((a : Nat) : Int) = 0 := eq_of_beq h1
    refine GoS.run [4] [.n, .n, .n, .n] _ [.code (csub (cd Try.f27) [1,0,1,0,1]), .code (csub (cd Try.f27) [1,1])] [(4, .int .u64 0)] w (by kernel_rfl) .nil ?_
    refine GoS.ret (fn := Try.f27) (v := (.int .u64 0)) Try.func27 (by kernel_rfl) ?_
    rw [hR]
    obtain rfl : a = 0 := by omega
    exact ⟨ret_int (by rw [ratN_zero hb (by omega)]; rfl), hD0⟩
  ·
    have h1p : ¬ (((a : Nat) : Int) = 0) := p_ne h1
    refine GoS.run [0, 1] [.n] _ [.code (csub (cd Try.f27) [1,1])] [(0, .int .u64 ((a : Nat) : Int)), (1, .int .u64 ((b : Nat) : Int))] w (by kernel_rfl) .nil ?_
    refine GoS.run [0, 1] [.n] _ [.code (csub (cd Try.f27) [1,1,0]), .code (csub (cd Try.f27) [1,1,1])] [(0, .int .u64 ((a : Nat) : Int)), (1, .int .u64 ((b : Nat) : Int))] w (by kernel_rfl) .nil ?_
    refine GoS.drawC (fun W_ => Dr w W_) 3 (by kernel_rfl) [1, 5, 6] [.u (.int .u64 ((a : Nat) : Int)) w, .u (.int .u64 ((b : Nat) : Int)) w, .h (.int .u64 (((a : Nat) : Int) / ((b : Nat) : Int))), .u (.int .u64 ((a : Nat) : Int)) w, .u (.int .u64 ((b : Nat) : Int)) w, .h (.int .u64 (((a : Nat) : Int) % ((b : Nat) : Int))), .u (.int .u64 (((a : Nat) : Int) / ((b : Nat) : Int))) w, .u (.int .u64 (((a : Nat) : Int) % ((b : Nat) : Int))) w] (fun W_ => [(binOp .quo 22 (.int .u64 ((a : Nat) : Int)) (.int .u64 ((b : Nat) : Int))).run Try.prog W_ = .ok (.int .u64 (((a : Nat) : Int) / ((b : Nat) : Int))) W_, (binOp .rem 22 (.int .u64 ((a : Nat) : Int)) (.int .u64 ((b : Nat) : Int))).run Try.prog W_ = .ok (.int .u64 (((a : Nat) : Int) % ((b : Nat) : Int))) W_]) [(.int .u64 ((a : Nat) : Int), .int .u64 ((a : Nat) : Int)), (.int .u64 ((b : Nat) : Int), .int .u64 ((b : Nat) : Int)), (.int .u64 ((a : Nat) : Int), .int .u64 ((a : Nat) : Int)), (.int .u64 ((b : Nat) : Int), .int .u64 ((b : Nat) : Int)), (.int .u64 (((a : Nat) : Int) / ((b : Nat) : Int)), .int .u64 (((a : Nat) : Int) / ((b : Nat) : Int))), (.int .u64 (((a : Nat) : Int) % ((b : Nat) : Int)), .int .u64 (((a : Nat) : Int) % ((b : Nat) : Int)))] [(1, .int .u64 ((b : Nat) : Int)), (5, .int .u64 (((a : Nat) : Int) / ((b : Nat) : Int))), (6, .int .u64 (((a : Nat) : Int) % ((b : Nat) : Int)))] (by kernel_rfl) (by kernel_rfl) ([(6, .int .u64 (((a : Nat) : Int) % ((b : Nat) : Int))), (5, .int .u64 (((a : Nat) : Int) / ((b : Nat) : Int))), (16, .int .u64 (((a : Nat) : Int) % ((b : Nat) : Int))), (15, .int .u64 ((b : Nat) : Int)), (14, .int .u64 ((a : Nat) : Int)), (13, .int .u64 (((a : Nat) : Int) / ((b : Nat) : Int))), (12, .int .u64 ((b : Nat) : Int)), (11, .int .u64 ((a : Nat) : Int))] ++ [(0, .int .u64 ((a : Nat) : Int)), (1, .int .u64 ((b : Nat) : Int))]) (fun W_ => by kernel_rfl) (by kernel_rfl) (.cons rfl (.cons rfl (.cons rfl (.cons rfl (.cons rfl (.cons rfl Obs.nil)))))) ⟨1, rfl⟩ (fun W_ hW_ => (.cons (f_quo (by omega) (IntWalk.u64_quo _ _ (by omega))) (.cons (f_rem (by omega) (IntWalk.rem_in _ _ (by omega))) Obs.nil))) (fun w2 hw3 => ?_)
    have hD4 := hD0.trans hw3
    refine GoS.run [1, 5, 6, 7] [.n, .n, .n, .n, .n, .n, .n] _ [.code (csub (cd Try.f27) [1,1,1,1,0,0,0]), .inLoop (csub (cd Try.f27) [1,1,1,1,0,0,0]), .inBlock 0, .code (csub (cd Try.f27) [1,1,1,1,1])] [(1, .int .u64 ((b : Nat) : Int)), (5, .int .u64 (((a : Nat) : Int) / ((b : Nat) : Int))), (6, .int .u64 (((a : Nat) : Int) % ((b : Nat) : Int))), (7, .int .i64 0)] w2 (by kernel_rfl) .nil ?_
    exact GoS.cast (by rw [Nat.pow_zero, Nat.mul_one]; rfl) (ratio_L a b (by omega) ha hb hb2 R hR 65 0 w2 (by omega) (.inl rfl) hD4 (by omega))


end Go.Proofs.Ythioghimgiknkaa
