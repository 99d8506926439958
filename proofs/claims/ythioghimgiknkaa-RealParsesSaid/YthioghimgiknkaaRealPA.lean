/-
  The walk of RealParses.
-/
import Derived.Test.YthioghimgiknkaaRealZ
import Derived.Test.YthioghimgiknkaaLend
namespace Go.Proofs.Ythioghimgiknkaa
open Go Go.Gw Go.RealP Go.RealQ Go.RowKit
set_option linter.unusedVariables false
set_option linter.unusedSimpArgs false


set_option maxHeartbeats 400000 in
theorem lparses_c (s : List UInt8) (w : World) (hs : s.length ≤ 140737488351232) :
    Calls Try.prog 4 #[.string (sb s)] w (fun e w' => e = .returned (.bool true) ∧ Below w.heap.size w w') := by
  obtain ⟨R, hR⟩ : ∃ R : Ending → World → Prop, R = (fun e w' => e = .returned (.bool true) ∧ Below w.heap.size w w') := ⟨_, rfl⟩
  rw [← hR]
  refine GoS.enter (n := 28) Try.func4 (by kernel_rfl) rfl [(0, .string (sb s))] (by kernel_rfl) (by kernel_rfl) ?_
  have hM0 := Mem.start w
  refine GoS.run [0, 8] [.n, .n, .n, .n, .n, .n, .n] _ [.inRegion (cops (csub (cd Try.f4) [1,0])) [1,2,3,4,5,6], .code (csub (cd Try.f4) [1,1])] [(0, .string (sb s)), (8, .string (sb s))] w (by kernel_rfl) .nil ?_
  refine GoS.call [0] 14 #[.string (sb s)] (some 9) [.inRegion (cops (csub (cd Try.f4) [1,0])) [2,3,4,5,6], .code (csub (cd Try.f4) [1,1])] [(0, .string (sb s))] (by kernel_rfl) (parse_c s (by omega) w) ?_
  rintro _ _ ⟨rfl, rfl⟩
  refine ⟨_, rfl, ?_⟩
  refine GoS.run [3, 4, 13] [.n, .n, .n, .n, .n, .n, .n, .n, .n] _ [.inRegion (cops (csub (cd Try.f4) [1,1,0])) [1,2,3,4,5,6], .code (csub (cd Try.f4) [1,1,1])] [(3, .int .u64 (((parseV s) : Nat) : Int)), (4, .int .i64 (parseE s)), (13, .string (sb s))] w (by kernel_rfl) .nil ?_
  refine GoS.call [3, 4] 15 #[.string (sb s)] (some 14) [.inRegion (cops (csub (cd Try.f4) [1,1,0])) [2,3,4,5,6], .code (csub (cd Try.f4) [1,1,1])] [(3, .int .u64 (((parseV s) : Nat) : Int)), (4, .int .i64 (parseE s))] (by kernel_rfl) (rparse_c s (by omega) w) ?_
  rintro _ w1 ⟨rfl, hd2⟩
  refine ⟨_, rfl, ?_⟩
  have hM3 := hM0.dr hd2
  refine GoS.run [3, 4, 5, 6] [.n, .n, .n, .n, .n, .n, .n, .n] _ [.inRegion (cops (csub (cd Try.f4) [1,1,1,0])) [0,1,2,3,4,5,6,7,8,9,10,11], .code (csub (cd Try.f4) [1,1,1,1])] [(3, .int .u64 (((parseV s) : Nat) : Int)), (4, .int .i64 (parseE s)), (5, .int .u64 (((parseV s) : Nat) : Int)), (6, .int .i64 (parseE s))] w1 (by kernel_rfl) .nil ?_
  refine GoS.call [3, 4, 5, 6] 8 #[] (some 17) [.inRegion (cops (csub (cd Try.f4) [1,1,1,0])) [1,2,3,4,5,6,7,8,9,10,11], .code (csub (cd Try.f4) [1,1,1,1])] [(3, .int .u64 (((parseV s) : Nat) : Int)), (4, .int .i64 (parseE s)), (5, .int .u64 (((parseV s) : Nat) : Int)), (6, .int .i64 (parseE s))] (by kernel_rfl) (awake_c w1) ?_
  rintro _ _ ⟨rfl, rfl⟩
  refine ⟨_, rfl, ?_⟩
  have o4 : (IntKind.u64 = IntKind.u64) ∧ w1 = w1 ∧ Value.bool true = .bool ((((parseV s) : Nat) : Int) == (((parseV s) : Nat) : Int)) := ⟨rfl, rfl, congrArg Value.bool (Eq.symm (beq_self_eq_true _))⟩
  have o5 : (IntKind.i64 = IntKind.i64) ∧ w1 = w1 ∧ Value.bool true = .bool ((parseE s) == (parseE s)) := ⟨rfl, rfl, congrArg Value.bool (Eq.symm (beq_self_eq_true _))⟩
  refine GoS.run [2] [.n, .n, .n, .h (.bool true), .n, .n, .n, .n, .h (.bool true), .n, .n, .n] _ [.code (csub (cd Try.f4) [1,1,1,1])] [(2, .bool true)] w1 (by kernel_rfl) (.cons o4 (.cons o5 .nil)) ?_
  refine GoS.ret (fn := Try.f4) (v := (.bool true)) Try.func4 (by kernel_rfl) ?_
  rw [hR]
  exact ⟨rfl, hM3.below⟩


end Go.Proofs.Ythioghimgiknkaa
