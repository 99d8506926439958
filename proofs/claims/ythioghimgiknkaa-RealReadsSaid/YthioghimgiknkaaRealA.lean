/-
  The walk of awake, which has no arguments, and of Parse at the one text that it asks of.
-/
import Derived.Test.YthioghimgiknkaaRealW
namespace Go.Proofs.Ythioghimgiknkaa
open Go Go.Gw Go.RealP Go.RowKit
set_option linter.unusedVariables false
set_option linter.unusedSimpArgs false

set_option maxHeartbeats 400000 in
theorem parse15_c (w : World) :
    Calls Try.prog 14 #[.string (sb ([49, 46, 53]))] w (fun e w' => e = .returned (.tuple #[.int .u64 4609434218613702656, .int .i64 0]) ∧ w = w') := by
  obtain ⟨R, hR⟩ : ∃ R : Ending → World → Prop, R = (fun e w' => e = .returned (.tuple #[.int .u64 4609434218613702656, .int .i64 0]) ∧ w = w') := ⟨_, rfl⟩
  rw [← hR]
  refine GoS.enter (n := 97) Try.func14 (by kernel_rfl) rfl [(0, .string (sb ([49, 46, 53])))] (by kernel_rfl) (by kernel_rfl) ?_
  have o1 : (binOp .eql 9 (.string (sb ([49, 46, 53]))) (.string (sb ([110, 97, 110] : List UInt8)))).run Try.prog w = .ok (.bool false) w := f_streq_no (by decide)
  have o2 : (binOp .eql 9 (.string (sb ([49, 46, 53]))) (.string (sb ([105, 110, 102] : List UInt8)))).run Try.prog w = .ok (.bool false) w := f_streq_no (by decide)
  have o3 : (binOp .eql 9 (.string (sb ([49, 46, 53]))) (.string (sb ([45, 105, 110, 102] : List UInt8)))).run Try.prog w = .ok (.bool false) w := f_streq_no (by decide)
  have o4 : (binOp .neq 9 (.string (sb ([49, 46, 53]))) (.string (sb ([])))).run Try.prog w = .ok (.bool true) w := f_strneq_no (by decide)
  refine GoS.run [2, 3] [.n, .n, .n, .n, .n, .n, .n, .n, .n, .n, .n, .n, .n, .h (.bool false), .n, .n, .n, .n, .n, .h (.bool false), .n, .n, .n, .n, .n, .h (.bool false), .n, .n, .n, .n, .n, .n, .n, .n, .h (.bool true), .n, .n, .n, .n, .n, .n, .n, .n, .n, .n, .n, .n, .n, .n, .n, .n, .n, .n, .n, .n, .n, .n, .n, .n, .n, .n, .n, .n, .n, .n, .n, .n, .n, .n, .n, .n, .n, .n, .n, .n, .n, .n, .n, .n, .n, .n, .n, .n, .n, .n, .n, .n, .n, .n, .n, .n, .n, .n, .n, .n, .n, .n, .n, .n, .n, .n, .n, .n, .n, .n, .n, .n, .n, .n, .n, .n, .n, .n, .n, .n, .n, .n, .n, .n, .n, .n, .n, .n, .n, .n, .n, .n, .n, .n, .n, .n, .n, .n, .n, .n, .n, .n, .n, .n, .n, .n, .n, .n, .n, .n, .n, .n, .n, .n, .n, .n, .n, .n, .n, .n, .n, .n, .n, .n, .n, .n, .n, .n, .n, .n, .n, .n, .n, .n, .n, .n, .n, .n, .n, .n, .n, .n, .n, .n, .n, .n, .n, .n, .n, .n, .n, .n, .n, .n, .n, .n, .n, .n, .n, .n, .n, .n, .n, .n, .n, .n, .n, .n, .n, .n, .n, .n, .n, .n, .n, .n, .n, .n, .n, .n, .n, .n, .n, .n, .n, .n, .n, .n, .n, .n, .n, .n, .n, .n, .n, .n, .n, .n, .n, .n, .n, .n, .n, .n, .n, .n, .n, .n, .n, .n, .n, .n, .n, .n, .n, .n, .n, .n, .n, .n, .n, .n, .n, .n, .n, .n, .n, .n, .n, .n, .n, .n, .n, .n, .n, .n, .n, .n, .n, .n, .n, .n, .n, .n, .n, .n, .n, .n, .n, .n, .n, .n, .n, .n, .n, .n, .n, .n, .n, .n, .n, .n, .n, .n, .n, .n, .n, .n, .n, .n, .n, .n, .n, .n, .n, .n, .n, .n, .n, .n, .n, .n, .n, .n, .n, .n, .n, .n, .n, .n, .n, .n, .n, .n, .n, .n, .n, .n, .n, .n, .n, .n, .n, .n, .n, .n] _ [.code (csub (cd Try.f14) [1,1,1,1,1,1,1,1,1,1])] [(2, .int .u64 4609434218613702656), (3, .int .i64 0)] w (by kernel_rfl) (.cons o1 (.cons o2 (.cons o3 (.cons o4 .nil)))) ?_
  refine GoS.ret (fn := Try.f14) (v := (.tuple #[.int .u64 4609434218613702656, .int .i64 0])) Try.func14 (by kernel_rfl) ?_
  rw [hR]
  exact ⟨rfl, rfl⟩

set_option maxHeartbeats 400000 in
theorem awake_c (w : World) :
    Calls Try.prog 8 #[] w (fun e w' => e = .returned (.bool true) ∧ w = w') := by
  obtain ⟨R, hR⟩ : ∃ R : Ending → World → Prop, R = (fun e w' => e = .returned (.bool true) ∧ w = w') := ⟨_, rfl⟩
  rw [← hR]
  refine GoS.enter (n := 20) Try.func8 (by kernel_rfl) rfl [] (by kernel_rfl) (by kernel_rfl) ?_
  refine GoS.run [] [.n, .n, .n, .n, .n, .n] _ [.inRegion (cops (csub (cd Try.f8) [1,0])) [0,1,2,3,4,5], .code (csub (cd Try.f8) [1,1])] [] w (by kernel_rfl) .nil ?_
  refine GoS.call [] 14 #[.string (sb ([49, 46, 53] : List UInt8))] (some 4) [.inRegion (cops (csub (cd Try.f8) [1,0])) [1,2,3,4,5], .code (csub (cd Try.f8) [1,1])] [] (by kernel_rfl) (parse15_c w) ?_
  rintro _ _ ⟨rfl, rfl⟩
  refine ⟨_, rfl, ?_⟩
  refine GoS.run [13, 14] [.n, .n, .n, .n, .n, .n, .n, .n, .n, .n, .n, .n, .n, .n, .n, .n] _ [.inRegion (cops (csub (cd Try.f8) [1,1,0])) [8,9,10,11,12,13], .code (csub (cd Try.f8) [1,1,1])] [(13, .bool true), (14, .int .u64 4609434218613702656)] w (by kernel_rfl) .nil ?_
  refine GoS.call [13] 9 #[.int .u64 13830554455654793216, .int .u64 4609434218613702656] (some 15) [.inRegion (cops (csub (cd Try.f8) [1,1,0])) [9,10,11,12,13], .code (csub (cd Try.f8) [1,1,1])] [(13, .bool true)] (by kernel_rfl) (less_c 13830554455654793216 4609434218613702656 (by omega) (by omega) w) ?_
  rintro _ _ ⟨rfl, rfl⟩
  refine ⟨_, rfl, ?_⟩
  refine GoS.run [17] [.n, .n] _ [.inRegion (cops (csub (cd Try.f8) [1,1,0])) [11,12,13], .code (csub (cd Try.f8) [1,1,1])] [(17, .bool (lessB 13830554455654793216 4609434218613702656))] w (by kernel_rfl) .nil ?_
  have J2 : GoS Try.prog 8 R 20 [.inRegion (cops (csub (cd Try.f8) [1,1,0])) [], .code (csub (cd Try.f8) [1,1,1])] [(0, .bool ((lessB 13830554455654793216 4609434218613702656) && (withinB 9223372036854775808 0 0)))] w := by
    refine GoS.run [0] [.n] _ [.code (csub (cd Try.f8) [1,1,1])] [(0, .bool ((lessB 13830554455654793216 4609434218613702656) && (withinB 9223372036854775808 0 0)))] w (by kernel_rfl) .nil ?_
    refine GoS.ret (fn := Try.f8) (v := (.bool ((lessB 13830554455654793216 4609434218613702656) && (withinB 9223372036854775808 0 0)))) Try.func8 (by kernel_rfl) ?_
    rw [hR]
    exact ⟨ret_bool (by decide), rfl⟩
  refine GoS.fork 17 (lessB 13830554455654793216 4609434218613702656) (by kernel_rfl) (fun h1 => ?_) (fun h1 => ?_)
  ·
    refine GoS.call [17] 11 #[.int .u64 9223372036854775808, .int .u64 0, .int .u64 0] (some 18) [.inRegion (cops (csub (cd Try.f8) [1,1,0])) [12,13], .code (csub (cd Try.f8) [1,1,1])] [(17, .bool true)] (by kernel_rfl) (within_c 9223372036854775808 0 0 (by omega) (by omega) (by omega) w) ?_
    rintro _ _ ⟨rfl, rfl⟩
    refine ⟨_, rfl, ?_⟩
    refine GoS.run [0] [.n, .n] _ [.inRegion (cops (csub (cd Try.f8) [1,1,0])) [], .code (csub (cd Try.f8) [1,1,1])] [(0, .bool (withinB 9223372036854775808 0 0))] w (by kernel_rfl) .nil ?_
    exact GoS.cast (by first | (simp only [h1, cond_true, cond_false, Bool.true_and, Bool.false_and, Bool.true_or, Bool.false_or, Bool.not_true, Bool.not_false, Bool.and_true, Bool.and_false, Bool.or_true, Bool.or_false]) | (simp [h1])) J2
  ·
    refine GoS.run [0] [.n, .n, .n] _ [.inRegion (cops (csub (cd Try.f8) [1,1,0])) [], .code (csub (cd Try.f8) [1,1,1])] [(0, .bool false)] w (by kernel_rfl) .nil ?_
    exact GoS.cast (by first | (simp only [h1, cond_true, cond_false, Bool.true_and, Bool.false_and, Bool.true_or, Bool.false_or, Bool.not_true, Bool.not_false, Bool.and_true, Bool.and_false, Bool.or_true, Bool.or_false]) | (simp [h1])) J2


end Go.Proofs.Ythioghimgiknkaa
