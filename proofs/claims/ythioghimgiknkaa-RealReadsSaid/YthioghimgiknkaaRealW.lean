/-
  The walks of the order of numbers: Signbit, Key, Less, Within of the program and of the reference. Each for all arguments below 2^64.
-/
import Derived.Test.YthioghimgiknkaaRealB
import Derived.Test.YthioghimgiknkaaChecked
namespace Go.Proofs.Ythioghimgiknkaa
open Go Go.Gw Go.RealP Go.RowKit
set_option linter.unusedVariables false
set_option linter.unusedSimpArgs false

set_option maxHeartbeats 400000 in
theorem signbit_c (n : Nat) (hn : n < 18446744073709551616) (w : World) :
    Calls Try.prog 22 #[.float .f64 n] w (fun e w' => e = .returned (.bool (decide (W63 ≤ n))) ∧ w = w') := by
  obtain ⟨R, hR⟩ : ∃ R : Ending → World → Prop, R = (fun e w' => e = .returned (.bool (decide (W63 ≤ n))) ∧ w = w') := ⟨_, rfl⟩
  rw [← hR]
  refine GoS.enter (n := 7) Try.func22 (by kernel_rfl) rfl [(0, .float .f64 n)] (by kernel_rfl) (by kernel_rfl) ?_
  refine GoS.run [2] [.n, .n, .n, .n, .n, .n, .n, .n, .n, .n, .n, .n] _ [.code (csub (cd Try.f22) [1,1])] [(2, .bool (decide ((IntKind.wrap .i64 ((n : Nat) : Int)) < 0)))] w (by kernel_rfl) .nil ?_
  refine GoS.ret (fn := Try.f22) (v := (.bool (decide ((IntKind.wrap .i64 ((n : Nat) : Int)) < 0)))) Try.func22 (by kernel_rfl) ?_
  rw [hR]
  exact ⟨ret_bool (sign_i64 hn), rfl⟩

set_option maxHeartbeats 400000 in
theorem key_c (n : Nat) (hn : n < 18446744073709551616) (w : World) :
    Calls Try.prog 13 #[.int .u64 ((n : Nat) : Int)] w (fun e w' => e = .returned (.int .u64 ((keyN n : Nat) : Int)) ∧ w = w') := by
  obtain ⟨R, hR⟩ : ∃ R : Ending → World → Prop, R = (fun e w' => e = .returned (.int .u64 ((keyN n : Nat) : Int)) ∧ w = w') := ⟨_, rfl⟩
  rw [← hR]
  refine GoS.enter (n := 20) Try.func13 (by kernel_rfl) rfl [(0, .int .u64 ((n : Nat) : Int))] (by kernel_rfl) (by kernel_rfl) ?_
  refine GoS.run [0, 3, 6] [.n, .n, .n, .n, .n, .n, .n, .n, .n, .n, .n, .n, .n, .n, .n, .n, .n, .n, .n] _ [.code (csub (cd Try.f13) [1,1,0,0,1]), .inBlock 0, .code (csub (cd Try.f13) [1,1,1])] [(0, .int .u64 ((n : Nat) : Int)), (3, .float .f64 n), (6, .bool ((Ieee.Format.order (FloatKind.format .f64) n n) != some .eq))] w (by kernel_rfl) .nil ?_
  refine GoS.cond ((Ieee.Format.order (FloatKind.format .f64) n n) != some .eq) [.code (csub (cd Try.f13) [1,1,0,0,1,0]), .inBlock 0, .code (csub (cd Try.f13) [1,1,1])] [.code (csub (cd Try.f13) [1,1,0,0,1,1]), .inBlock 0, .code (csub (cd Try.f13) [1,1,1])] (by kernel_rfl) (fun h1 => ?_) (fun h1 => ?_)
  ·
    refine GoS.run [2] [.n, .n, .n, .n] _ [.code (csub (cd Try.f13) [1,1,0,0,1,0,1]), .inBlock 0, .code (csub (cd Try.f13) [1,1,1])] [(2, .int .u64 18446744073709551615)] w (by kernel_rfl) .nil ?_
    refine GoS.ret (fn := Try.f13) (v := (.int .u64 18446744073709551615)) Try.func13 (by kernel_rfl) ?_
    rw [hR]
    exact ⟨ret_int (key_nan h1), rfl⟩
  ·
    refine GoS.run [0, 3, 10] [.n, .n, .n, .n, .n, .n] _ [.code (csub (cd Try.f13) [1,1,0,0,1,1,1]), .inBlock 0, .code (csub (cd Try.f13) [1,1,1])] [(0, .int .u64 ((n : Nat) : Int)), (3, .float .f64 n), (10, .bool ((Ieee.Format.order (FloatKind.format .f64) n 0) == some .eq))] w (by kernel_rfl) .nil ?_
    refine GoS.cond ((Ieee.Format.order (FloatKind.format .f64) n 0) == some .eq) [.code (csub (cd Try.f13) [1,1,0,0,1,1,1,0]), .inBlock 0, .code (csub (cd Try.f13) [1,1,1])] [.code (csub (cd Try.f13) [1,1,0,0,1,1,1,1]), .inBlock 0, .code (csub (cd Try.f13) [1,1,1])] (by kernel_rfl) (fun h2 => ?_) (fun h2 => ?_)
    ·
      refine GoS.run [2] [.n, .n, .n, .n] _ [.code (csub (cd Try.f13) [1,1,0,0,1,1,1,0,1]), .inBlock 0, .code (csub (cd Try.f13) [1,1,1])] [(2, .int .u64 9223372036854775808)] w (by kernel_rfl) .nil ?_
      refine GoS.ret (fn := Try.f13) (v := (.int .u64 9223372036854775808)) Try.func13 (by kernel_rfl) ?_
      rw [hR]
      exact ⟨ret_int (key_zero h1 h2), rfl⟩
    ·
      refine GoS.run [0, 14] [.n, .n, .n] _ [.inRegion (cops (csub (cd Try.f13) [1,1,0,0,1,1,1,1,0])) [1,2], .code (csub (cd Try.f13) [1,1,0,0,1,1,1,1,1]), .inBlock 0, .code (csub (cd Try.f13) [1,1,1])] [(0, .int .u64 ((n : Nat) : Int)), (14, .float .f64 n)] w (by kernel_rfl) .nil ?_
      refine GoS.call [0] 22 #[.float .f64 n] (some 15) [.inRegion (cops (csub (cd Try.f13) [1,1,0,0,1,1,1,1,0])) [2], .code (csub (cd Try.f13) [1,1,0,0,1,1,1,1,1]), .inBlock 0, .code (csub (cd Try.f13) [1,1,1])] [(0, .int .u64 ((n : Nat) : Int))] (by kernel_rfl) (signbit_c n (by omega) w) ?_
      rintro _ _ ⟨rfl, rfl⟩
      refine ⟨_, rfl, ?_⟩
      refine GoS.run [0, 13] [.n, .n] _ [.code (csub (cd Try.f13) [1,1,0,0,1,1,1,1,1]), .inBlock 0, .code (csub (cd Try.f13) [1,1,1])] [(0, .int .u64 ((n : Nat) : Int)), (13, .bool (decide (W63 ≤ n)))] w (by kernel_rfl) .nil ?_
      refine GoS.cond (decide (W63 ≤ n)) [.code (csub (cd Try.f13) [1,1,0,0,1,1,1,1,1,0]), .inBlock 0, .code (csub (cd Try.f13) [1,1,1])] [.code (csub (cd Try.f13) [1,1,0,0,1,1,1,1,1,1]), .inBlock 0, .code (csub (cd Try.f13) [1,1,1])] (by kernel_rfl) (fun h3 => ?_) (fun h3 => ?_)
      ·
        have h3p : W63 ≤ n := of_decide_eq_true h3
        refine GoS.run [2] [.n, .n, .n, .n, .n, .n] _ [.code (csub (cd Try.f13) [1,1,0,0,1,1,1,1,1,0,1]), .inBlock 0, .code (csub (cd Try.f13) [1,1,1])] [(2, .int .u64 (IntKind.wrap .u64 ((BitVec.ofInt (IntKind.bits .u64) 18446744073709551615 ^^^ BitVec.ofInt (IntKind.bits .u64) ((n : Nat) : Int)).toNat : Int)))] w (by kernel_rfl) .nil ?_
        refine GoS.ret (fn := Try.f13) (v := (.int .u64 (IntKind.wrap .u64 ((BitVec.ofInt (IntKind.bits .u64) 18446744073709551615 ^^^ BitVec.ofInt (IntKind.bits .u64) ((n : Nat) : Int)).toNat : Int)))) Try.func13 (by kernel_rfl) ?_
        rw [hR]
        exact ⟨ret_int (key_neg hn h1 h2 h3p), rfl⟩
      ·
        have h3p : ¬ (W63 ≤ n) := of_decide_eq_false h3
        refine GoS.run [0] [.n] _ [.inBlock 0, .code (csub (cd Try.f13) [1,1,1])] [(0, .int .u64 ((n : Nat) : Int))] w (by kernel_rfl) .nil ?_
        refine GoS.run [2] [.n, .n, .n, .n, .n, .n, .n] _ [.code (csub (cd Try.f13) [1,1,1,1])] [(2, .int .u64 (IntKind.wrap .u64 ((BitVec.ofInt (IntKind.bits .u64) ((n : Nat) : Int) ||| BitVec.ofInt (IntKind.bits .u64) 9223372036854775808).toNat : Int)))] w (by kernel_rfl) .nil ?_
        refine GoS.ret (fn := Try.f13) (v := (.int .u64 (IntKind.wrap .u64 ((BitVec.ofInt (IntKind.bits .u64) ((n : Nat) : Int) ||| BitVec.ofInt (IntKind.bits .u64) 9223372036854775808).toNat : Int)))) Try.func13 (by kernel_rfl) ?_
        rw [hR]
        exact ⟨ret_int (key_pos h1 h2 h3p), rfl⟩

set_option maxHeartbeats 400000 in
theorem less_c (a b : Nat) (ha : a < 18446744073709551616) (hb : b < 18446744073709551616) (w : World) :
    Calls Try.prog 9 #[.int .u64 ((a : Nat) : Int), .int .u64 ((b : Nat) : Int)] w (fun e w' => e = .returned (.bool (lessB a b)) ∧ w = w') := by
  obtain ⟨R, hR⟩ : ∃ R : Ending → World → Prop, R = (fun e w' => e = .returned (.bool (lessB a b)) ∧ w = w') := ⟨_, rfl⟩
  rw [← hR]
  refine GoS.enter (n := 10) Try.func9 (by kernel_rfl) rfl [(0, .int .u64 ((a : Nat) : Int)), (1, .int .u64 ((b : Nat) : Int))] (by kernel_rfl) (by kernel_rfl) ?_
  refine GoS.run [1, 5] [.n, .n, .n, .n, .n, .n, .n] _ [.inRegion (cops (csub (cd Try.f9) [1,0])) [1,2,3,4,5], .code (csub (cd Try.f9) [1,1])] [(1, .int .u64 ((b : Nat) : Int)), (5, .int .u64 ((a : Nat) : Int))] w (by kernel_rfl) .nil ?_
  refine GoS.call [1] 13 #[.int .u64 ((a : Nat) : Int)] (some 6) [.inRegion (cops (csub (cd Try.f9) [1,0])) [2,3,4,5], .code (csub (cd Try.f9) [1,1])] [(1, .int .u64 ((b : Nat) : Int))] (by kernel_rfl) (key_c a (by omega) w) ?_
  rintro _ _ ⟨rfl, rfl⟩
  refine ⟨_, rfl, ?_⟩
  refine GoS.run [6, 7] [.n] _ [.inRegion (cops (csub (cd Try.f9) [1,0])) [3,4,5], .code (csub (cd Try.f9) [1,1])] [(6, .int .u64 (((keyN a) : Nat) : Int)), (7, .int .u64 ((b : Nat) : Int))] w (by kernel_rfl) .nil ?_
  refine GoS.call [6] 13 #[.int .u64 ((b : Nat) : Int)] (some 8) [.inRegion (cops (csub (cd Try.f9) [1,0])) [4,5], .code (csub (cd Try.f9) [1,1])] [(6, .int .u64 (((keyN a) : Nat) : Int))] (by kernel_rfl) (key_c b (by omega) w) ?_
  rintro _ _ ⟨rfl, rfl⟩
  refine ⟨_, rfl, ?_⟩
  refine GoS.run [4] [.n, .n, .n] _ [.code (csub (cd Try.f9) [1,1])] [(4, .bool (decide ((((keyN a) : Nat) : Int) < (((keyN b) : Nat) : Int))))] w (by kernel_rfl) .nil ?_
  refine GoS.ret (fn := Try.f9) (v := (.bool (decide ((((keyN a) : Nat) : Int) < (((keyN b) : Nat) : Int))))) Try.func9 (by kernel_rfl) ?_
  rw [hR]
  exact ⟨ret_bool (less_key a b), rfl⟩

set_option maxHeartbeats 400000 in
theorem within_c (a b c : Nat) (ha : a < 18446744073709551616) (hb : b < 18446744073709551616) (hc : c < 18446744073709551616) (w : World) :
    Calls Try.prog 11 #[.int .u64 ((a : Nat) : Int), .int .u64 ((b : Nat) : Int), .int .u64 ((c : Nat) : Int)] w (fun e w' => e = .returned (.bool (withinB a b c)) ∧ w = w') := by
  obtain ⟨R, hR⟩ : ∃ R : Ending → World → Prop, R = (fun e w' => e = .returned (.bool (withinB a b c)) ∧ w = w') := ⟨_, rfl⟩
  rw [← hR]
  refine GoS.enter (n := 17) Try.func11 (by kernel_rfl) rfl [(0, .int .u64 ((a : Nat) : Int)), (1, .int .u64 ((b : Nat) : Int)), (2, .int .u64 ((c : Nat) : Int))] (by kernel_rfl) (by kernel_rfl) ?_
  refine GoS.run [0, 2, 7, 8] [.n, .n, .n, .n, .n, .n, .n, .n] _ [.inRegion (cops (csub (cd Try.f11) [1,0])) [2,3,4,5,6,7,8,9,10], .code (csub (cd Try.f11) [1,1])] [(0, .int .u64 ((a : Nat) : Int)), (2, .int .u64 ((c : Nat) : Int)), (7, .int .u64 ((a : Nat) : Int)), (8, .int .u64 ((b : Nat) : Int))] w (by kernel_rfl) .nil ?_
  refine GoS.call [0, 2] 9 #[.int .u64 ((a : Nat) : Int), .int .u64 ((b : Nat) : Int)] (some 9) [.inRegion (cops (csub (cd Try.f11) [1,0])) [3,4,5,6,7,8,9,10], .code (csub (cd Try.f11) [1,1])] [(0, .int .u64 ((a : Nat) : Int)), (2, .int .u64 ((c : Nat) : Int))] (by kernel_rfl) (less_c a b (by omega) (by omega) w) ?_
  rintro _ _ ⟨rfl, rfl⟩
  refine ⟨_, rfl, ?_⟩
  refine GoS.run [0, 2, 11] [.n, .n] _ [.inRegion (cops (csub (cd Try.f11) [1,0])) [5,6,7,8,9,10], .code (csub (cd Try.f11) [1,1])] [(0, .int .u64 ((a : Nat) : Int)), (2, .int .u64 ((c : Nat) : Int)), (11, .bool (!(lessB a b)))] w (by kernel_rfl) .nil ?_
  have J2 : GoS Try.prog 11 R 17 [.inRegion (cops (csub (cd Try.f11) [1,0])) [], .code (csub (cd Try.f11) [1,1])] [(6, .bool ((!(lessB a b)) && (!(lessB c a))))] w := by
    refine GoS.run [6] [.n] _ [.code (csub (cd Try.f11) [1,1])] [(6, .bool ((!(lessB a b)) && (!(lessB c a))))] w (by kernel_rfl) .nil ?_
    refine GoS.ret (fn := Try.f11) (v := (.bool ((!(lessB a b)) && (!(lessB c a))))) Try.func11 (by kernel_rfl) ?_
    rw [hR]
    exact ⟨ret_bool rfl, rfl⟩
  refine GoS.fork 11 (!(lessB a b)) (by kernel_rfl) (fun h1 => ?_) (fun h1 => ?_)
  ·
    refine GoS.run [11, 12, 13] [.n, .n] _ [.inRegion (cops (csub (cd Try.f11) [1,0])) [7,8,9,10], .code (csub (cd Try.f11) [1,1])] [(11, .bool true), (12, .int .u64 ((c : Nat) : Int)), (13, .int .u64 ((a : Nat) : Int))] w (by kernel_rfl) .nil ?_
    refine GoS.call [11] 9 #[.int .u64 ((c : Nat) : Int), .int .u64 ((a : Nat) : Int)] (some 14) [.inRegion (cops (csub (cd Try.f11) [1,0])) [8,9,10], .code (csub (cd Try.f11) [1,1])] [(11, .bool true)] (by kernel_rfl) (less_c c a (by omega) (by omega) w) ?_
    rintro _ _ ⟨rfl, rfl⟩
    refine ⟨_, rfl, ?_⟩
    refine GoS.run [6] [.n, .n, .n] _ [.inRegion (cops (csub (cd Try.f11) [1,0])) [], .code (csub (cd Try.f11) [1,1])] [(6, .bool (!(lessB c a)))] w (by kernel_rfl) .nil ?_
    exact GoS.cast (by first | (simp only [h1, cond_true, cond_false, Bool.true_and, Bool.false_and, Bool.true_or, Bool.false_or, Bool.not_true, Bool.not_false, Bool.and_true, Bool.and_false, Bool.or_true, Bool.or_false]) | (simp [h1])) J2
  ·
    refine GoS.run [6] [.n, .n, .n, .n, .n, .n] _ [.inRegion (cops (csub (cd Try.f11) [1,0])) [], .code (csub (cd Try.f11) [1,1])] [(6, .bool false)] w (by kernel_rfl) .nil ?_
    exact GoS.cast (by first | (simp only [h1, cond_true, cond_false, Bool.true_and, Bool.false_and, Bool.true_or, Bool.false_or, Bool.not_true, Bool.not_false, Bool.and_true, Bool.and_false, Bool.or_true, Bool.or_false]) | (simp [h1])) J2

set_option maxHeartbeats 400000 in
theorem rank_c (n : Nat) (hn : n < 18446744073709551616) (w : World) :
    Calls Try.prog 21 #[.int .u64 ((n : Nat) : Int)] w (fun e w' => e = .returned (.int .u64 ((rk n : Nat) : Int)) ∧ w = w') := by
  obtain ⟨R, hR⟩ : ∃ R : Ending → World → Prop, R = (fun e w' => e = .returned (.int .u64 ((rk n : Nat) : Int)) ∧ w = w') := ⟨_, rfl⟩
  rw [← hR]
  refine GoS.enter (n := 5) Try.func21 (by kernel_rfl) rfl [(0, .int .u64 ((n : Nat) : Int))] (by kernel_rfl) (by kernel_rfl) ?_
  have o1 : (binOp .rem 22 (.int .u64 ((n : Nat) : Int)) (.int .u64 9223372036854775808)).run Try.prog w = .ok (.int .u64 (((n : Nat) : Int) % 9223372036854775808)) w := f_rem (by decide) (IntWalk.rem_in _ _ (by omega))
  refine GoS.run [2] [.n, .n, .n, .n, .n, .n, .n, .h (.int .u64 (((n : Nat) : Int) % 9223372036854775808)), .n, .n] _ [.code (csub (cd Try.f21) [1,1])] [(2, .int .u64 (((n : Nat) : Int) % 9223372036854775808))] w (by kernel_rfl) (.cons o1 .nil) ?_
  refine GoS.ret (fn := Try.f21) (v := (.int .u64 (((n : Nat) : Int) % 9223372036854775808))) Try.func21 (by kernel_rfl) ?_
  rw [hR]
  exact ⟨ret_int (by unfold rk W63; omega), rfl⟩

set_option maxHeartbeats 400000 in
theorem none_c (n : Nat) (hn : n < 18446744073709551616) (w : World) :
    Calls Try.prog 20 #[.int .u64 ((n : Nat) : Int)] w (fun e w' => e = .returned (.bool (nan n)) ∧ w = w') := by
  obtain ⟨R, hR⟩ : ∃ R : Ending → World → Prop, R = (fun e w' => e = .returned (.bool (nan n)) ∧ w = w') := ⟨_, rfl⟩
  rw [← hR]
  refine GoS.enter (n := 6) Try.func20 (by kernel_rfl) rfl [(0, .int .u64 ((n : Nat) : Int))] (by kernel_rfl) (by kernel_rfl) ?_
  refine GoS.run [3] [.n, .n, .n, .n, .n, .n, .n] _ [.inRegion (cops (csub (cd Try.f20) [1,0])) [1,2,3], .code (csub (cd Try.f20) [1,1])] [(3, .int .u64 ((n : Nat) : Int))] w (by kernel_rfl) .nil ?_
  refine GoS.call [] 21 #[.int .u64 ((n : Nat) : Int)] (some 4) [.inRegion (cops (csub (cd Try.f20) [1,0])) [2,3], .code (csub (cd Try.f20) [1,1])] [] (by kernel_rfl) (rank_c n (by omega) w) ?_
  rintro _ _ ⟨rfl, rfl⟩
  refine ⟨_, rfl, ?_⟩
  refine GoS.run [2] [.n, .n, .n] _ [.code (csub (cd Try.f20) [1,1])] [(2, .bool (decide ((((rk n) : Nat) : Int) > 9218868437227405312)))] w (by kernel_rfl) .nil ?_
  refine GoS.ret (fn := Try.f20) (v := (.bool (decide ((((rk n) : Nat) : Int) > 9218868437227405312)))) Try.func20 (by kernel_rfl) ?_
  rw [hR]
  exact ⟨ret_bool (by unfold nan INF; rw [decide_eq_decide]; omega), rfl⟩

set_option maxHeartbeats 400000 in
theorem rless_c (a b : Nat) (ha : a < 18446744073709551616) (hb : b < 18446744073709551616) (w : World) :
    Calls Try.prog 10 #[.int .u64 ((a : Nat) : Int), .int .u64 ((b : Nat) : Int)] w (fun e w' => e = .returned (.bool (lessB a b)) ∧ w = w') := by
  obtain ⟨R, hR⟩ : ∃ R : Ending → World → Prop, R = (fun e w' => e = .returned (.bool (lessB a b)) ∧ w = w') := ⟨_, rfl⟩
  rw [← hR]
  refine GoS.enter (n := 40) Try.func10 (by kernel_rfl) rfl [(0, .int .u64 ((a : Nat) : Int)), (1, .int .u64 ((b : Nat) : Int))] (by kernel_rfl) (by kernel_rfl) ?_
  refine GoS.run [0, 1, 7] [.n, .n, .n, .n, .n, .n, .n, .n] _ [.inRegion (cops (csub (cd Try.f10) [1,0,0])) [1], .code (csub (cd Try.f10) [1,0,1]), .code (csub (cd Try.f10) [1,1])] [(0, .int .u64 ((a : Nat) : Int)), (1, .int .u64 ((b : Nat) : Int)), (7, .int .u64 ((a : Nat) : Int))] w (by kernel_rfl) .nil ?_
  refine GoS.call [0, 1] 20 #[.int .u64 ((a : Nat) : Int)] (some 8) [.inRegion (cops (csub (cd Try.f10) [1,0,0])) [], .code (csub (cd Try.f10) [1,0,1]), .code (csub (cd Try.f10) [1,1])] [(0, .int .u64 ((a : Nat) : Int)), (1, .int .u64 ((b : Nat) : Int))] (by kernel_rfl) (none_c a (by omega) w) ?_
  rintro _ _ ⟨rfl, rfl⟩
  refine ⟨_, rfl, ?_⟩
  refine GoS.run [0, 1, 8] [.n] _ [.code (csub (cd Try.f10) [1,0,1]), .code (csub (cd Try.f10) [1,1])] [(0, .int .u64 ((a : Nat) : Int)), (1, .int .u64 ((b : Nat) : Int)), (8, .bool (nan a))] w (by kernel_rfl) .nil ?_
  refine GoS.cond (nan a) [.code (csub (cd Try.f10) [1,0,1,0]), .code (csub (cd Try.f10) [1,1])] [.code (csub (cd Try.f10) [1,0,1,1]), .code (csub (cd Try.f10) [1,1])] (by kernel_rfl) (fun h1 => ?_) (fun h1 => ?_)
  ·
    refine GoS.run [4] [.n, .n, .n, .n] _ [.code (csub (cd Try.f10) [1,0,1,0,1]), .code (csub (cd Try.f10) [1,1])] [(4, .bool false)] w (by kernel_rfl) .nil ?_
    refine GoS.ret (fn := Try.f10) (v := (.bool false)) Try.func10 (by kernel_rfl) ?_
    rw [hR]
    exact ⟨ret_bool (rless_1 ha hb h1), rfl⟩
  ·
    refine GoS.run [0, 1] [.n] _ [.code (csub (cd Try.f10) [1,1])] [(0, .int .u64 ((a : Nat) : Int)), (1, .int .u64 ((b : Nat) : Int))] w (by kernel_rfl) .nil ?_
    refine GoS.run [0, 1, 9] [.n, .n, .n, .n] _ [.inRegion (cops (csub (cd Try.f10) [1,1,0,0])) [1], .code (csub (cd Try.f10) [1,1,0,1]), .code (csub (cd Try.f10) [1,1,1])] [(0, .int .u64 ((a : Nat) : Int)), (1, .int .u64 ((b : Nat) : Int)), (9, .int .u64 ((b : Nat) : Int))] w (by kernel_rfl) .nil ?_
    refine GoS.call [0, 1] 20 #[.int .u64 ((b : Nat) : Int)] (some 10) [.inRegion (cops (csub (cd Try.f10) [1,1,0,0])) [], .code (csub (cd Try.f10) [1,1,0,1]), .code (csub (cd Try.f10) [1,1,1])] [(0, .int .u64 ((a : Nat) : Int)), (1, .int .u64 ((b : Nat) : Int))] (by kernel_rfl) (none_c b (by omega) w) ?_
    rintro _ _ ⟨rfl, rfl⟩
    refine ⟨_, rfl, ?_⟩
    refine GoS.run [0, 1, 10] [.n] _ [.code (csub (cd Try.f10) [1,1,0,1]), .code (csub (cd Try.f10) [1,1,1])] [(0, .int .u64 ((a : Nat) : Int)), (1, .int .u64 ((b : Nat) : Int)), (10, .bool (nan b))] w (by kernel_rfl) .nil ?_
    refine GoS.cond (nan b) [.code (csub (cd Try.f10) [1,1,0,1,0]), .code (csub (cd Try.f10) [1,1,1])] [.code (csub (cd Try.f10) [1,1,0,1,1]), .code (csub (cd Try.f10) [1,1,1])] (by kernel_rfl) (fun h2 => ?_) (fun h2 => ?_)
    ·
      refine GoS.run [4] [.n, .n, .n, .n] _ [.code (csub (cd Try.f10) [1,1,0,1,0,1]), .code (csub (cd Try.f10) [1,1,1])] [(4, .bool true)] w (by kernel_rfl) .nil ?_
      refine GoS.ret (fn := Try.f10) (v := (.bool true)) Try.func10 (by kernel_rfl) ?_
      rw [hR]
      exact ⟨ret_bool (rless_2 ha hb h1 h2), rfl⟩
    ·
      refine GoS.run [0, 1] [.n] _ [.code (csub (cd Try.f10) [1,1,1])] [(0, .int .u64 ((a : Nat) : Int)), (1, .int .u64 ((b : Nat) : Int))] w (by kernel_rfl) .nil ?_
      refine GoS.run [0, 1, 13] [.n, .n, .n, .n, .n] _ [.inRegion (cops (csub (cd Try.f10) [1,1,1,0])) [3,4,5,6,7,8,9,10,11,12,13,14,15], .code (csub (cd Try.f10) [1,1,1,1])] [(0, .int .u64 ((a : Nat) : Int)), (1, .int .u64 ((b : Nat) : Int)), (13, .bool (decide (((a : Nat) : Int) ≥ 9223372036854775808)))] w (by kernel_rfl) .nil ?_
      have J6 : GoS Try.prog 10 R 40 [.inRegion (cops (csub (cd Try.f10) [1,1,1,0])) [], .code (csub (cd Try.f10) [1,1,1,1])] [(0, .int .u64 ((a : Nat) : Int)), (1, .int .u64 ((b : Nat) : Int)), (5, .bool ((decide (((a : Nat) : Int) ≥ 9223372036854775808)) && (decide ((((rk a) : Nat) : Int) > 0)))), (6, .bool ((decide (((b : Nat) : Int) ≥ 9223372036854775808)) && (decide ((((rk b) : Nat) : Int) > 0))))] w := by
        refine GoS.run [0, 1, 5, 27] [.n, .n, .n, .n, .n, .n, .n, .n] _ [.code (csub (cd Try.f10) [1,1,1,1,0,1]), .code (csub (cd Try.f10) [1,1,1,1,1])] [(0, .int .u64 ((a : Nat) : Int)), (1, .int .u64 ((b : Nat) : Int)), (5, .bool ((decide (((a : Nat) : Int) ≥ 9223372036854775808)) && (decide ((((rk a) : Nat) : Int) > 0)))), (27, .bool (!(((decide (((a : Nat) : Int) ≥ 9223372036854775808)) && (decide ((((rk a) : Nat) : Int) > 0))) == ((decide (((b : Nat) : Int) ≥ 9223372036854775808)) && (decide ((((rk b) : Nat) : Int) > 0))))))] w (by kernel_rfl) .nil ?_
        refine GoS.cond (!(((decide (((a : Nat) : Int) ≥ 9223372036854775808)) && (decide ((((rk a) : Nat) : Int) > 0))) == ((decide (((b : Nat) : Int) ≥ 9223372036854775808)) && (decide ((((rk b) : Nat) : Int) > 0))))) [.code (csub (cd Try.f10) [1,1,1,1,0,1,0]), .code (csub (cd Try.f10) [1,1,1,1,1])] [.code (csub (cd Try.f10) [1,1,1,1,0,1,1]), .code (csub (cd Try.f10) [1,1,1,1,1])] (by kernel_rfl) (fun h7 => ?_) (fun h7 => ?_)
        ·
          refine GoS.run [4] [.n, .n, .n, .n, .n] _ [.code (csub (cd Try.f10) [1,1,1,1,0,1,0,1]), .code (csub (cd Try.f10) [1,1,1,1,1])] [(4, .bool ((decide (((a : Nat) : Int) ≥ 9223372036854775808)) && (decide ((((rk a) : Nat) : Int) > 0))))] w (by kernel_rfl) .nil ?_
          refine GoS.ret (fn := Try.f10) (v := (.bool ((decide (((a : Nat) : Int) ≥ 9223372036854775808)) && (decide ((((rk a) : Nat) : Int) > 0))))) Try.func10 (by kernel_rfl) ?_
          rw [hR]
          exact ⟨ret_bool (rless_3 ha hb h1 h2 h7), rfl⟩
        ·
          refine GoS.run [0, 1, 5] [.n] _ [.code (csub (cd Try.f10) [1,1,1,1,1])] [(0, .int .u64 ((a : Nat) : Int)), (1, .int .u64 ((b : Nat) : Int)), (5, .bool ((decide (((a : Nat) : Int) ≥ 9223372036854775808)) && (decide ((((rk a) : Nat) : Int) > 0))))] w (by kernel_rfl) .nil ?_
          refine GoS.run [0, 1, 29] [.n, .n, .n, .n, .n] _ [.code (csub (cd Try.f10) [1,1,1,1,1,0,1]), .code (csub (cd Try.f10) [1,1,1,1,1,1])] [(0, .int .u64 ((a : Nat) : Int)), (1, .int .u64 ((b : Nat) : Int)), (29, .bool ((decide (((a : Nat) : Int) ≥ 9223372036854775808)) && (decide ((((rk a) : Nat) : Int) > 0))))] w (by kernel_rfl) .nil ?_
          refine GoS.cond ((decide (((a : Nat) : Int) ≥ 9223372036854775808)) && (decide ((((rk a) : Nat) : Int) > 0))) [.code (csub (cd Try.f10) [1,1,1,1,1,0,1,0]), .code (csub (cd Try.f10) [1,1,1,1,1,1])] [.code (csub (cd Try.f10) [1,1,1,1,1,0,1,1]), .code (csub (cd Try.f10) [1,1,1,1,1,1])] (by kernel_rfl) (fun h8 => ?_) (fun h8 => ?_)
          ·
            have h8p : ((a : Nat) : Int) ≥ 9223372036854775808 := of_decide_eq_true (p_andl h8)
            have h8p1 : (((rk a) : Nat) : Int) > 0 := of_decide_eq_true (p_andr h8)
            refine GoS.run [1, 30] [.n, .n, .n] _ [.inRegion (cops (csub (cd Try.f10) [1,1,1,1,1,0,1,0,0])) [1,2,3,4,5], .code (csub (cd Try.f10) [1,1,1,1,1,0,1,0,1]), .code (csub (cd Try.f10) [1,1,1,1,1,1])] [(1, .int .u64 ((b : Nat) : Int)), (30, .int .u64 ((a : Nat) : Int))] w (by kernel_rfl) .nil ?_
            refine GoS.call [1] 21 #[.int .u64 ((a : Nat) : Int)] (some 31) [.inRegion (cops (csub (cd Try.f10) [1,1,1,1,1,0,1,0,0])) [2,3,4,5], .code (csub (cd Try.f10) [1,1,1,1,1,0,1,0,1]), .code (csub (cd Try.f10) [1,1,1,1,1,1])] [(1, .int .u64 ((b : Nat) : Int))] (by kernel_rfl) (rank_c a (by omega) w) ?_
            rintro _ _ ⟨rfl, rfl⟩
            refine ⟨_, rfl, ?_⟩
            refine GoS.run [31, 32] [.n] _ [.inRegion (cops (csub (cd Try.f10) [1,1,1,1,1,0,1,0,0])) [3,4,5], .code (csub (cd Try.f10) [1,1,1,1,1,0,1,0,1]), .code (csub (cd Try.f10) [1,1,1,1,1,1])] [(31, .int .u64 (((rk a) : Nat) : Int)), (32, .int .u64 ((b : Nat) : Int))] w (by kernel_rfl) .nil ?_
            refine GoS.call [31] 21 #[.int .u64 ((b : Nat) : Int)] (some 33) [.inRegion (cops (csub (cd Try.f10) [1,1,1,1,1,0,1,0,0])) [4,5], .code (csub (cd Try.f10) [1,1,1,1,1,0,1,0,1]), .code (csub (cd Try.f10) [1,1,1,1,1,1])] [(31, .int .u64 (((rk a) : Nat) : Int))] (by kernel_rfl) (rank_c b (by omega) w) ?_
            rintro _ _ ⟨rfl, rfl⟩
            refine ⟨_, rfl, ?_⟩
            refine GoS.run [4] [.n, .n, .n] _ [.code (csub (cd Try.f10) [1,1,1,1,1,0,1,0,1]), .code (csub (cd Try.f10) [1,1,1,1,1,1])] [(4, .bool (decide ((((rk a) : Nat) : Int) > (((rk b) : Nat) : Int))))] w (by kernel_rfl) .nil ?_
            refine GoS.ret (fn := Try.f10) (v := (.bool (decide ((((rk a) : Nat) : Int) > (((rk b) : Nat) : Int))))) Try.func10 (by kernel_rfl) ?_
            rw [hR]
            exact ⟨ret_bool (rless_4 ha hb h1 h2 h7 h8), rfl⟩
          ·
            have h8p : ¬ ((((a : Nat) : Int) ≥ 9223372036854775808) ∧ ((((rk a) : Nat) : Int) > 0)) := p_no (p_iand (@decide_eq_true_iff (((a : Nat) : Int) ≥ 9223372036854775808) _) (@decide_eq_true_iff ((((rk a) : Nat) : Int) > 0) _)) h8
            refine GoS.run [0, 1] [.n] _ [.code (csub (cd Try.f10) [1,1,1,1,1,1])] [(0, .int .u64 ((a : Nat) : Int)), (1, .int .u64 ((b : Nat) : Int))] w (by kernel_rfl) .nil ?_
            refine GoS.run [1, 35] [.n, .n, .n] _ [.inRegion (cops (csub (cd Try.f10) [1,1,1,1,1,1,0])) [1,2,3,4,5], .code (csub (cd Try.f10) [1,1,1,1,1,1,1])] [(1, .int .u64 ((b : Nat) : Int)), (35, .int .u64 ((a : Nat) : Int))] w (by kernel_rfl) .nil ?_
            refine GoS.call [1] 21 #[.int .u64 ((a : Nat) : Int)] (some 36) [.inRegion (cops (csub (cd Try.f10) [1,1,1,1,1,1,0])) [2,3,4,5], .code (csub (cd Try.f10) [1,1,1,1,1,1,1])] [(1, .int .u64 ((b : Nat) : Int))] (by kernel_rfl) (rank_c a (by omega) w) ?_
            rintro _ _ ⟨rfl, rfl⟩
            refine ⟨_, rfl, ?_⟩
            refine GoS.run [36, 37] [.n] _ [.inRegion (cops (csub (cd Try.f10) [1,1,1,1,1,1,0])) [3,4,5], .code (csub (cd Try.f10) [1,1,1,1,1,1,1])] [(36, .int .u64 (((rk a) : Nat) : Int)), (37, .int .u64 ((b : Nat) : Int))] w (by kernel_rfl) .nil ?_
            refine GoS.call [36] 21 #[.int .u64 ((b : Nat) : Int)] (some 38) [.inRegion (cops (csub (cd Try.f10) [1,1,1,1,1,1,0])) [4,5], .code (csub (cd Try.f10) [1,1,1,1,1,1,1])] [(36, .int .u64 (((rk a) : Nat) : Int))] (by kernel_rfl) (rank_c b (by omega) w) ?_
            rintro _ _ ⟨rfl, rfl⟩
            refine ⟨_, rfl, ?_⟩
            refine GoS.run [4] [.n, .n, .n] _ [.code (csub (cd Try.f10) [1,1,1,1,1,1,1])] [(4, .bool (decide ((((rk a) : Nat) : Int) < (((rk b) : Nat) : Int))))] w (by kernel_rfl) .nil ?_
            refine GoS.ret (fn := Try.f10) (v := (.bool (decide ((((rk a) : Nat) : Int) < (((rk b) : Nat) : Int))))) Try.func10 (by kernel_rfl) ?_
            rw [hR]
            exact ⟨ret_bool (rless_5 ha hb h1 h2 h7 h8), rfl⟩
      refine GoS.fork 13 (decide (((a : Nat) : Int) ≥ 9223372036854775808)) (by kernel_rfl) (fun h3 => ?_) (fun h3 => ?_)
      ·
        have h3p : ((a : Nat) : Int) ≥ 9223372036854775808 := of_decide_eq_true h3
        refine GoS.run [0, 1, 13, 14] [.n] _ [.inRegion (cops (csub (cd Try.f10) [1,1,1,0])) [4,5,6,7,8,9,10,11,12,13,14,15], .code (csub (cd Try.f10) [1,1,1,1])] [(0, .int .u64 ((a : Nat) : Int)), (1, .int .u64 ((b : Nat) : Int)), (13, .bool true), (14, .int .u64 ((a : Nat) : Int))] w (by kernel_rfl) .nil ?_
        refine GoS.call [0, 1, 13] 21 #[.int .u64 ((a : Nat) : Int)] (some 15) [.inRegion (cops (csub (cd Try.f10) [1,1,1,0])) [5,6,7,8,9,10,11,12,13,14,15], .code (csub (cd Try.f10) [1,1,1,1])] [(0, .int .u64 ((a : Nat) : Int)), (1, .int .u64 ((b : Nat) : Int)), (13, .bool true)] (by kernel_rfl) (rank_c a (by omega) w) ?_
        rintro _ _ ⟨rfl, rfl⟩
        refine ⟨_, rfl, ?_⟩
        refine GoS.run [0, 1, 17, 20] [.n, .n, .n, .n, .n] _ [.inRegion (cops (csub (cd Try.f10) [1,1,1,0])) [10,11,12,13,14,15], .code (csub (cd Try.f10) [1,1,1,1])] [(0, .int .u64 ((a : Nat) : Int)), (1, .int .u64 ((b : Nat) : Int)), (17, .bool (decide ((((rk a) : Nat) : Int) > 0))), (20, .bool (decide (((b : Nat) : Int) ≥ 9223372036854775808)))] w (by kernel_rfl) .nil ?_
        refine GoS.fork 20 (decide (((b : Nat) : Int) ≥ 9223372036854775808)) (by kernel_rfl) (fun h4 => ?_) (fun h4 => ?_)
        ·
          have h4p : ((b : Nat) : Int) ≥ 9223372036854775808 := of_decide_eq_true h4
          refine GoS.run [0, 1, 17, 20, 21] [.n] _ [.inRegion (cops (csub (cd Try.f10) [1,1,1,0])) [11,12,13,14,15], .code (csub (cd Try.f10) [1,1,1,1])] [(0, .int .u64 ((a : Nat) : Int)), (1, .int .u64 ((b : Nat) : Int)), (17, .bool (decide ((((rk a) : Nat) : Int) > 0))), (20, .bool true), (21, .int .u64 ((b : Nat) : Int))] w (by kernel_rfl) .nil ?_
          refine GoS.call [0, 1, 17, 20] 21 #[.int .u64 ((b : Nat) : Int)] (some 22) [.inRegion (cops (csub (cd Try.f10) [1,1,1,0])) [12,13,14,15], .code (csub (cd Try.f10) [1,1,1,1])] [(0, .int .u64 ((a : Nat) : Int)), (1, .int .u64 ((b : Nat) : Int)), (17, .bool (decide ((((rk a) : Nat) : Int) > 0))), (20, .bool true)] (by kernel_rfl) (rank_c b (by omega) w) ?_
          rintro _ _ ⟨rfl, rfl⟩
          refine ⟨_, rfl, ?_⟩
          refine GoS.run [0, 1, 5, 6] [.n, .n, .n, .n] _ [.inRegion (cops (csub (cd Try.f10) [1,1,1,0])) [], .code (csub (cd Try.f10) [1,1,1,1])] [(0, .int .u64 ((a : Nat) : Int)), (1, .int .u64 ((b : Nat) : Int)), (5, .bool (decide ((((rk a) : Nat) : Int) > 0))), (6, .bool (decide ((((rk b) : Nat) : Int) > 0)))] w (by kernel_rfl) .nil ?_
          exact GoS.cast (by first | (simp only [h3, h4, cond_true, cond_false, Bool.true_and, Bool.false_and, Bool.true_or, Bool.false_or, Bool.not_true, Bool.not_false, Bool.and_true, Bool.and_false, Bool.or_true, Bool.or_false]) | (simp [h3, h4])) J6
        ·
          have h4p : ¬ (((b : Nat) : Int) ≥ 9223372036854775808) := of_decide_eq_false h4
          refine GoS.run [0, 1, 5, 6] [.n, .n, .n, .n, .n, .n] _ [.inRegion (cops (csub (cd Try.f10) [1,1,1,0])) [], .code (csub (cd Try.f10) [1,1,1,1])] [(0, .int .u64 ((a : Nat) : Int)), (1, .int .u64 ((b : Nat) : Int)), (5, .bool (decide ((((rk a) : Nat) : Int) > 0))), (6, .bool false)] w (by kernel_rfl) .nil ?_
          exact GoS.cast (by first | (simp only [h3, h4, cond_true, cond_false, Bool.true_and, Bool.false_and, Bool.true_or, Bool.false_or, Bool.not_true, Bool.not_false, Bool.and_true, Bool.and_false, Bool.or_true, Bool.or_false]) | (simp [h3, h4])) J6
      ·
        have h3p : ¬ (((a : Nat) : Int) ≥ 9223372036854775808) := of_decide_eq_false h3
        refine GoS.run [0, 1, 17, 20] [.n, .n, .n, .n, .n, .n, .n] _ [.inRegion (cops (csub (cd Try.f10) [1,1,1,0])) [10,11,12,13,14,15], .code (csub (cd Try.f10) [1,1,1,1])] [(0, .int .u64 ((a : Nat) : Int)), (1, .int .u64 ((b : Nat) : Int)), (17, .bool false), (20, .bool (decide (((b : Nat) : Int) ≥ 9223372036854775808)))] w (by kernel_rfl) .nil ?_
        refine GoS.fork 20 (decide (((b : Nat) : Int) ≥ 9223372036854775808)) (by kernel_rfl) (fun h5 => ?_) (fun h5 => ?_)
        ·
          have h5p : ((b : Nat) : Int) ≥ 9223372036854775808 := of_decide_eq_true h5
          refine GoS.run [0, 1, 17, 20, 21] [.n] _ [.inRegion (cops (csub (cd Try.f10) [1,1,1,0])) [11,12,13,14,15], .code (csub (cd Try.f10) [1,1,1,1])] [(0, .int .u64 ((a : Nat) : Int)), (1, .int .u64 ((b : Nat) : Int)), (17, .bool false), (20, .bool true), (21, .int .u64 ((b : Nat) : Int))] w (by kernel_rfl) .nil ?_
          refine GoS.call [0, 1, 17, 20] 21 #[.int .u64 ((b : Nat) : Int)] (some 22) [.inRegion (cops (csub (cd Try.f10) [1,1,1,0])) [12,13,14,15], .code (csub (cd Try.f10) [1,1,1,1])] [(0, .int .u64 ((a : Nat) : Int)), (1, .int .u64 ((b : Nat) : Int)), (17, .bool false), (20, .bool true)] (by kernel_rfl) (rank_c b (by omega) w) ?_
          rintro _ _ ⟨rfl, rfl⟩
          refine ⟨_, rfl, ?_⟩
          refine GoS.run [0, 1, 5, 6] [.n, .n, .n, .n] _ [.inRegion (cops (csub (cd Try.f10) [1,1,1,0])) [], .code (csub (cd Try.f10) [1,1,1,1])] [(0, .int .u64 ((a : Nat) : Int)), (1, .int .u64 ((b : Nat) : Int)), (5, .bool false), (6, .bool (decide ((((rk b) : Nat) : Int) > 0)))] w (by kernel_rfl) .nil ?_
          exact GoS.cast (by first | (simp only [h3, h5, cond_true, cond_false, Bool.true_and, Bool.false_and, Bool.true_or, Bool.false_or, Bool.not_true, Bool.not_false, Bool.and_true, Bool.and_false, Bool.or_true, Bool.or_false]) | (simp [h3, h5])) J6
        ·
          have h5p : ¬ (((b : Nat) : Int) ≥ 9223372036854775808) := of_decide_eq_false h5
          refine GoS.run [0, 1, 5, 6] [.n, .n, .n, .n, .n, .n] _ [.inRegion (cops (csub (cd Try.f10) [1,1,1,0])) [], .code (csub (cd Try.f10) [1,1,1,1])] [(0, .int .u64 ((a : Nat) : Int)), (1, .int .u64 ((b : Nat) : Int)), (5, .bool false), (6, .bool false)] w (by kernel_rfl) .nil ?_
          exact GoS.cast (by first | (simp only [h3, h5, cond_true, cond_false, Bool.true_and, Bool.false_and, Bool.true_or, Bool.false_or, Bool.not_true, Bool.not_false, Bool.and_true, Bool.and_false, Bool.or_true, Bool.or_false]) | (simp [h3, h5])) J6

set_option maxHeartbeats 400000 in
theorem rwithin_c (a b c : Nat) (ha : a < 18446744073709551616) (hb : b < 18446744073709551616) (hc : c < 18446744073709551616) (w : World) :
    Calls Try.prog 12 #[.int .u64 ((a : Nat) : Int), .int .u64 ((b : Nat) : Int), .int .u64 ((c : Nat) : Int)] w (fun e w' => e = .returned (.bool (withinB a b c)) ∧ w = w') := by
  obtain ⟨R, hR⟩ : ∃ R : Ending → World → Prop, R = (fun e w' => e = .returned (.bool (withinB a b c)) ∧ w = w') := ⟨_, rfl⟩
  rw [← hR]
  refine GoS.enter (n := 17) Try.func12 (by kernel_rfl) rfl [(0, .int .u64 ((a : Nat) : Int)), (1, .int .u64 ((b : Nat) : Int)), (2, .int .u64 ((c : Nat) : Int))] (by kernel_rfl) (by kernel_rfl) ?_
  refine GoS.run [0, 2, 7, 8] [.n, .n, .n, .n, .n, .n, .n, .n] _ [.inRegion (cops (csub (cd Try.f12) [1,0])) [2,3,4,5,6,7,8,9,10], .code (csub (cd Try.f12) [1,1])] [(0, .int .u64 ((a : Nat) : Int)), (2, .int .u64 ((c : Nat) : Int)), (7, .int .u64 ((a : Nat) : Int)), (8, .int .u64 ((b : Nat) : Int))] w (by kernel_rfl) .nil ?_
  refine GoS.call [0, 2] 10 #[.int .u64 ((a : Nat) : Int), .int .u64 ((b : Nat) : Int)] (some 9) [.inRegion (cops (csub (cd Try.f12) [1,0])) [3,4,5,6,7,8,9,10], .code (csub (cd Try.f12) [1,1])] [(0, .int .u64 ((a : Nat) : Int)), (2, .int .u64 ((c : Nat) : Int))] (by kernel_rfl) (rless_c a b (by omega) (by omega) w) ?_
  rintro _ _ ⟨rfl, rfl⟩
  refine ⟨_, rfl, ?_⟩
  refine GoS.run [0, 2, 11] [.n, .n] _ [.inRegion (cops (csub (cd Try.f12) [1,0])) [5,6,7,8,9,10], .code (csub (cd Try.f12) [1,1])] [(0, .int .u64 ((a : Nat) : Int)), (2, .int .u64 ((c : Nat) : Int)), (11, .bool (!(lessB a b)))] w (by kernel_rfl) .nil ?_
  have J2 : GoS Try.prog 12 R 17 [.inRegion (cops (csub (cd Try.f12) [1,0])) [], .code (csub (cd Try.f12) [1,1])] [(6, .bool ((!(lessB a b)) && (!(lessB c a))))] w := by
    refine GoS.run [6] [.n] _ [.code (csub (cd Try.f12) [1,1])] [(6, .bool ((!(lessB a b)) && (!(lessB c a))))] w (by kernel_rfl) .nil ?_
    refine GoS.ret (fn := Try.f12) (v := (.bool ((!(lessB a b)) && (!(lessB c a))))) Try.func12 (by kernel_rfl) ?_
    rw [hR]
    exact ⟨ret_bool rfl, rfl⟩
  refine GoS.fork 11 (!(lessB a b)) (by kernel_rfl) (fun h1 => ?_) (fun h1 => ?_)
  ·
    refine GoS.run [11, 12, 13] [.n, .n] _ [.inRegion (cops (csub (cd Try.f12) [1,0])) [7,8,9,10], .code (csub (cd Try.f12) [1,1])] [(11, .bool true), (12, .int .u64 ((c : Nat) : Int)), (13, .int .u64 ((a : Nat) : Int))] w (by kernel_rfl) .nil ?_
    refine GoS.call [11] 10 #[.int .u64 ((c : Nat) : Int), .int .u64 ((a : Nat) : Int)] (some 14) [.inRegion (cops (csub (cd Try.f12) [1,0])) [8,9,10], .code (csub (cd Try.f12) [1,1])] [(11, .bool true)] (by kernel_rfl) (rless_c c a (by omega) (by omega) w) ?_
    rintro _ _ ⟨rfl, rfl⟩
    refine ⟨_, rfl, ?_⟩
    refine GoS.run [6] [.n, .n, .n] _ [.inRegion (cops (csub (cd Try.f12) [1,0])) [], .code (csub (cd Try.f12) [1,1])] [(6, .bool (!(lessB c a)))] w (by kernel_rfl) .nil ?_
    exact GoS.cast (by first | (simp only [h1, cond_true, cond_false, Bool.true_and, Bool.false_and, Bool.true_or, Bool.false_or, Bool.not_true, Bool.not_false, Bool.and_true, Bool.and_false, Bool.or_true, Bool.or_false]) | (simp [h1])) J2
  ·
    refine GoS.run [6] [.n, .n, .n, .n, .n, .n] _ [.inRegion (cops (csub (cd Try.f12) [1,0])) [], .code (csub (cd Try.f12) [1,1])] [(6, .bool false)] w (by kernel_rfl) .nil ?_
    exact GoS.cast (by first | (simp only [h1, cond_true, cond_false, Bool.true_and, Bool.false_and, Bool.true_or, Bool.false_or, Bool.not_true, Bool.not_false, Bool.and_true, Bool.and_false, Bool.or_true, Bool.or_false]) | (simp [h1])) J2


end Go.Proofs.Ythioghimgiknkaa
