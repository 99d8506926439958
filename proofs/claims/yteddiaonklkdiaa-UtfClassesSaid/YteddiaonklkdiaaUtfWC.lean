/-
  The walk of UtfClasses: true for every number.
-/
import Derived.Test.YteddiaonklkdiaaUtfG
import Derived.Test.YteddiaonklkdiaaUtfL
namespace Go.Proofs.Yteddiaonklkdiaa
open Go Go.Gw Go.UtfP Go.RowKit
set_option linter.unusedVariables false
set_option linter.unusedSimpArgs false


set_option maxHeartbeats 400000 in
theorem lclasses_c (c : Int) (w : World) :
    Calls Try.prog 5 #[.int .i64 c] w (fun e w' => e = .returned (.bool true) ∧ Below w.heap.size w w') := by
  obtain ⟨R, hR⟩ : ∃ R : Ending → World → Prop, R = (fun e w' => e = .returned (.bool true) ∧ Below w.heap.size w w') := ⟨_, rfl⟩
  rw [← hR]
  refine GoS.enter (n := 25) Try.func5 (by kernel_rfl) rfl [(0, .int .i64 c)] (by kernel_rfl) (by kernel_rfl) ?_
  have hM0 := Mem.start w
  refine GoS.run [0] [.n, .n, .n, .n, .n, .n] _ [.inRegion (cops (csub (cd Try.f5) [1,0])) [0,1,2,3,4,5,6,7,8,9,10,11,12,13,14,15,16,17,18,19,20,21,22], .code (csub (cd Try.f5) [1,1])] [(0, .int .i64 c)] w (by kernel_rfl) .nil ?_
  refine GoS.call [0] 11 #[] (some 3) [.inRegion (cops (csub (cd Try.f5) [1,0])) [1,2,3,4,5,6,7,8,9,10,11,12,13,14,15,16,17,18,19,20,21,22], .code (csub (cd Try.f5) [1,1])] [(0, .int .i64 c)] (by kernel_rfl) (awake_c w) ?_
  rintro _ w1 ⟨rfl, m2⟩
  refine ⟨_, rfl, ?_⟩
  have hM3 := Mem.join hM0 m2
  refine GoS.run [0, 4, 5] [.n, .n] _ [.inRegion (cops (csub (cd Try.f5) [1,0])) [3,4,5,6,7,8,9,10,11,12,13,14,15,16,17,18,19,20,21,22], .code (csub (cd Try.f5) [1,1])] [(0, .int .i64 c), (4, .bool true), (5, .int .i64 c)] w1 (by kernel_rfl) .nil ?_
  refine GoS.call [0, 4] 15 #[.int .i64 c] (some 6) [.inRegion (cops (csub (cd Try.f5) [1,0])) [4,5,6,7,8,9,10,11,12,13,14,15,16,17,18,19,20,21,22], .code (csub (cd Try.f5) [1,1])] [(0, .int .i64 c), (4, .bool true)] (by kernel_rfl) (whole_c c w1) ?_
  rintro _ _ ⟨rfl, rfl⟩
  refine ⟨_, rfl, ?_⟩
  refine GoS.run [0, 4, 6, 7] [.n] _ [.inRegion (cops (csub (cd Try.f5) [1,0])) [5,6,7,8,9,10,11,12,13,14,15,16,17,18,19,20,21,22], .code (csub (cd Try.f5) [1,1])] [(0, .int .i64 c), (4, .bool true), (6, .bool (whole c)), (7, .int .i64 c)] w1 (by kernel_rfl) .nil ?_
  refine GoS.call [0, 4, 6] 16 #[.int .i64 c] (some 8) [.inRegion (cops (csub (cd Try.f5) [1,0])) [6,7,8,9,10,11,12,13,14,15,16,17,18,19,20,21,22], .code (csub (cd Try.f5) [1,1])] [(0, .int .i64 c), (4, .bool true), (6, .bool (whole c))] (by kernel_rfl) (rwhole_c c w1) ?_
  rintro _ _ ⟨rfl, rfl⟩
  refine ⟨_, rfl, ?_⟩
  have o4 : Try.prog.underlying 4 = some .bool ∧ w1 = w1 ∧ Value.bool true = .bool ((whole c) == (whole c)) := ⟨by kernel_rfl, rfl, congrArg Value.bool (Eq.symm (beq_self_eq_true _))⟩
  refine GoS.run [0, 11, 12] [.h (.bool true), .n, .n, .n] _ [.inRegion (cops (csub (cd Try.f5) [1,0])) [10,11,12,13,14,15,16,17,18,19,20,21,22], .code (csub (cd Try.f5) [1,1])] [(0, .int .i64 c), (11, .bool true), (12, .int .i64 c)] w1 (by kernel_rfl) (.cons o4 .nil) ?_
  refine GoS.call [0, 11] 17 #[.int .i64 c] (some 13) [.inRegion (cops (csub (cd Try.f5) [1,0])) [11,12,13,14,15,16,17,18,19,20,21,22], .code (csub (cd Try.f5) [1,1])] [(0, .int .i64 c), (11, .bool true)] (by kernel_rfl) (letter_c c w1) ?_
  rintro _ _ ⟨rfl, rfl⟩
  refine ⟨_, rfl, ?_⟩
  refine GoS.run [0, 11, 13, 14] [.n] _ [.inRegion (cops (csub (cd Try.f5) [1,0])) [12,13,14,15,16,17,18,19,20,21,22], .code (csub (cd Try.f5) [1,1])] [(0, .int .i64 c), (11, .bool true), (13, .bool (letter c)), (14, .int .i64 c)] w1 (by kernel_rfl) .nil ?_
  refine GoS.call [0, 11, 13] 18 #[.int .i64 c] (some 15) [.inRegion (cops (csub (cd Try.f5) [1,0])) [13,14,15,16,17,18,19,20,21,22], .code (csub (cd Try.f5) [1,1])] [(0, .int .i64 c), (11, .bool true), (13, .bool (letter c))] (by kernel_rfl) (rletter_c c w1) ?_
  rintro _ w5 ⟨rfl, m6⟩
  refine ⟨_, rfl, ?_⟩
  have hM7 := Mem.join hM3 m6
  have o8 : Try.prog.underlying 4 = some .bool ∧ w5 = w5 ∧ Value.bool true = .bool ((letter c) == (letter c)) := ⟨by kernel_rfl, rfl, congrArg Value.bool (Eq.symm (beq_self_eq_true _))⟩
  refine GoS.run [0, 18, 19] [.h (.bool true), .n, .n, .n] _ [.inRegion (cops (csub (cd Try.f5) [1,0])) [17,18,19,20,21,22], .code (csub (cd Try.f5) [1,1])] [(0, .int .i64 c), (18, .bool true), (19, .int .i64 c)] w5 (by kernel_rfl) (.cons o8 .nil) ?_
  refine GoS.call [0, 18] 19 #[.int .i64 c] (some 20) [.inRegion (cops (csub (cd Try.f5) [1,0])) [18,19,20,21,22], .code (csub (cd Try.f5) [1,1])] [(0, .int .i64 c), (18, .bool true)] (by kernel_rfl) (fold_c c w5) ?_
  rintro _ _ ⟨rfl, rfl⟩
  refine ⟨_, rfl, ?_⟩
  refine GoS.run [18, 20, 21] [.n] _ [.inRegion (cops (csub (cd Try.f5) [1,0])) [19,20,21,22], .code (csub (cd Try.f5) [1,1])] [(18, .bool true), (20, .int .i64 (fold c)), (21, .int .i64 c)] w5 (by kernel_rfl) .nil ?_
  refine GoS.call [18, 20] 20 #[.int .i64 c] (some 22) [.inRegion (cops (csub (cd Try.f5) [1,0])) [20,21,22], .code (csub (cd Try.f5) [1,1])] [(18, .bool true), (20, .int .i64 (fold c))] (by kernel_rfl) (rfold_c c w5) ?_
  rintro _ w9 ⟨rfl, m10⟩
  refine ⟨_, rfl, ?_⟩
  have hM11 := Mem.join hM7 m10
  have o12 : (IntKind.i64 = IntKind.i64) ∧ w9 = w9 ∧ Value.bool true = .bool ((fold c) == (fold c)) := ⟨rfl, rfl, congrArg Value.bool (Eq.symm (beq_self_eq_true _))⟩
  refine GoS.run [2] [.h (.bool true), .n, .n, .n] _ [.code (csub (cd Try.f5) [1,1])] [(2, .bool true)] w9 (by kernel_rfl) (.cons o12 .nil) ?_
  refine GoS.ret (fn := Try.f5) (v := (.bool true)) Try.func5 (by kernel_rfl) ?_
  rw [hR]
  exact ⟨rfl, hM11.below⟩


end Go.Proofs.Yteddiaonklkdiaa
