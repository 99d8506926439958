/-
  The walk of UtfFolds: true for every number.
-/
import Derived.Test.YteddiaonklkdiaaUtfG
import Derived.Test.YteddiaonklkdiaaUtfL
namespace Go.Proofs.Yteddiaonklkdiaa
open Go Go.Gw Go.UtfP Go.RowKit
set_option linter.unusedVariables false
set_option linter.unusedSimpArgs false


set_option maxHeartbeats 400000 in
theorem lfolds_c (c : Int) (w : World) :
    Calls Try.prog 7 #[.int .i64 c] w (fun e w' => e = .returned (.bool true) ∧ Below w.heap.size w w') := by
  obtain ⟨R, hR⟩ : ∃ R : Ending → World → Prop, R = (fun e w' => e = .returned (.bool true) ∧ Below w.heap.size w w') := ⟨_, rfl⟩
  rw [← hR]
  refine GoS.enter (n := 61) Try.func7 (by kernel_rfl) rfl [(0, .int .i64 c)] (by kernel_rfl) (by kernel_rfl) ?_
  have hM0 := Mem.start w
  refine GoS.run [0, 8] [.n, .n, .n, .n, .n, .n, .n] _ [.inRegion (cops (csub (cd Try.f7) [1,0])) [1,2], .code (csub (cd Try.f7) [1,1])] [(0, .int .i64 c), (8, .int .i64 c)] w (by kernel_rfl) .nil ?_
  refine GoS.call [0] 19 #[.int .i64 c] (some 9) [.inRegion (cops (csub (cd Try.f7) [1,0])) [2], .code (csub (cd Try.f7) [1,1])] [(0, .int .i64 c)] (by kernel_rfl) (fold_c c w) ?_
  rintro _ _ ⟨rfl, rfl⟩
  refine ⟨_, rfl, ?_⟩
  refine GoS.run [0, 3] [.n, .n, .n, .n, .n] _ [.inRegion (cops (csub (cd Try.f7) [1,1,0,0])) [0,1,2,3,4,5,6,7], .code (csub (cd Try.f7) [1,1,0,1]), .code (csub (cd Try.f7) [1,1,1])] [(0, .int .i64 c), (3, .int .i64 (fold c))] w (by kernel_rfl) .nil ?_
  refine GoS.call [0, 3] 11 #[] (some 10) [.inRegion (cops (csub (cd Try.f7) [1,1,0,0])) [1,2,3,4,5,6,7], .code (csub (cd Try.f7) [1,1,0,1]), .code (csub (cd Try.f7) [1,1,1])] [(0, .int .i64 c), (3, .int .i64 (fold c))] (by kernel_rfl) (awake_c w) ?_
  rintro _ w1 ⟨rfl, m2⟩
  refine ⟨_, rfl, ?_⟩
  have hM3 := Mem.join hM0 m2
  refine GoS.run [0, 3, 12, 13] [.n, .n, .n] _ [.inRegion (cops (csub (cd Try.f7) [1,1,0,0])) [4,5,6,7], .code (csub (cd Try.f7) [1,1,0,1]), .code (csub (cd Try.f7) [1,1,1])] [(0, .int .i64 c), (3, .int .i64 (fold c)), (12, .bool false), (13, .int .i64 (fold c))] w1 (by kernel_rfl) .nil ?_
  refine GoS.call [0, 3, 12] 19 #[.int .i64 (fold c)] (some 14) [.inRegion (cops (csub (cd Try.f7) [1,1,0,0])) [5,6,7], .code (csub (cd Try.f7) [1,1,0,1]), .code (csub (cd Try.f7) [1,1,1])] [(0, .int .i64 c), (3, .int .i64 (fold c)), (12, .bool false)] (by kernel_rfl) (fold_c (fold c) w1) ?_
  rintro _ _ ⟨rfl, rfl⟩
  refine ⟨_, rfl, ?_⟩
  have o8 : (IntKind.i64 = IntKind.i64) ∧ w1 = w1 ∧ Value.bool false = .bool ((fold (fold c)) != (fold c)) := ⟨rfl, rfl, congrArg Value.bool (Eq.symm (fold_ne c))⟩
  obtain ⟨v4, w5, hr6, hM7⟩ := m_lit sT22 hM3 (n := 1) (parts := #[(0, .int .i64 c)]) (cs := [.int .i64 c]) (by decide) (by kernel_rfl) rfl
  have o9 : (Instr.buildSlice 22 1 #[(0, .int .i64 c)]).run Try.prog w1 = .ok v4 w5 := hr6
  refine GoS.run [0, 3, 20] [.n, .h (.bool false), .n, .n, .n, .n, .n, .n, .n, .u (v4) (w5)] _ [.inRegion (cops (csub (cd Try.f7) [1,1,1,0])) [2,3,4,5,6,7], .code (csub (cd Try.f7) [1,1,1,1])] [(0, .int .i64 c), (3, .int .i64 (fold c)), (20, v4)] w5 (by kernel_rfl) (.cons o8 (.cons o9 .nil)) ?_
  refine GoS.call [0, 3] 9 #[v4] (some 21) [.inRegion (cops (csub (cd Try.f7) [1,1,1,0])) [3,4,5,6,7], .code (csub (cd Try.f7) [1,1,1,1])] [(0, .int .i64 c), (3, .int .i64 (fold c))] (by kernel_rfl) (encode_c v4 ([c] : List Int) w5 (hM7.rd 0 rfl) (by simp)) ?_
  rintro _ w10 ⟨rfl, m11⟩
  refine ⟨_, rfl, ?_⟩
  have hM12 := Mem.join hM7 m11
  obtain ⟨v13, w14, hr15, hM16⟩ := m_lit sT22 hM12 (n := 1) (parts := #[(0, .int .i64 (fold c))]) (cs := [.int .i64 (fold c)]) (by decide) (by kernel_rfl) rfl
  have o17 : (Instr.buildSlice 22 1 #[(0, .int .i64 (fold c))]).run Try.prog w10 = .ok v13 w14 := hr15
  have hM18 : Mem [] w w14 [⟨3, 1, v13, 1, [.int .i64 (fold c)]⟩] := hM16.sub (List.Sublist.cons_cons _ (List.Sublist.cons _ (List.Sublist.refl _)))
  refine GoS.run [0, 3, 4, 5, 26] [.n, .n, .n, .n, .n, .n, .n, .n, .n, .u (v13) (w14)] _ [.inRegion (cops (csub (cd Try.f7) [1,1,1,1,0])) [2,3,4,5,6,7], .code (csub (cd Try.f7) [1,1,1,1,1])] [(0, .int .i64 c), (3, .int .i64 (fold c)), (4, .string (sb (encT ([c] : List Int)))), (5, .int .i64 (encE ([c] : List Int))), (26, v13)] w14 (by kernel_rfl) (.cons o17 .nil) ?_
  refine GoS.call [0, 3, 4, 5] 9 #[v13] (some 27) [.inRegion (cops (csub (cd Try.f7) [1,1,1,1,0])) [3,4,5,6,7], .code (csub (cd Try.f7) [1,1,1,1,1])] [(0, .int .i64 c), (3, .int .i64 (fold c)), (4, .string (sb (encT ([c] : List Int)))), (5, .int .i64 (encE ([c] : List Int)))] (by kernel_rfl) (encode_c v13 ([(fold c)] : List Int) w14 (hM18.rd 0 rfl) (by simp)) ?_
  rintro _ w19 ⟨rfl, m20⟩
  refine ⟨_, rfl, ?_⟩
  have hM21 := Mem.join hM18 m20
  have hM22 : Mem [] w w19 [] := hM21.sub (List.Sublist.cons _ (List.Sublist.refl _))
  refine GoS.run [0, 3, 4, 5, 6, 7, 31, 32] [.n, .n, .n, .n, .n, .n, .n, .n, .n, .n, .n, .n] _ [.inRegion (cops (csub (cd Try.f7) [1,1,1,1,1,0,0])) [3,4,5,6,7,8,9,10,11,12,13,14,15,16,17,18,19], .code (csub (cd Try.f7) [1,1,1,1,1,0,1]), .code (csub (cd Try.f7) [1,1,1,1,1,1])] [(0, .int .i64 c), (3, .int .i64 (fold c)), (4, .string (sb (encT ([c] : List Int)))), (5, .int .i64 (encE ([c] : List Int))), (6, .string (sb (encT ([(fold c)] : List Int)))), (7, .int .i64 (encE ([(fold c)] : List Int))), (31, .bool ((encE ([c] : List Int)) == 0)), (32, .int .i64 c)] w19 (by kernel_rfl) .nil ?_
  refine GoS.call [0, 3, 4, 5, 6, 7, 31] 15 #[.int .i64 c] (some 33) [.inRegion (cops (csub (cd Try.f7) [1,1,1,1,1,0,0])) [4,5,6,7,8,9,10,11,12,13,14,15,16,17,18,19], .code (csub (cd Try.f7) [1,1,1,1,1,0,1]), .code (csub (cd Try.f7) [1,1,1,1,1,1])] [(0, .int .i64 c), (3, .int .i64 (fold c)), (4, .string (sb (encT ([c] : List Int)))), (5, .int .i64 (encE ([c] : List Int))), (6, .string (sb (encT ([(fold c)] : List Int)))), (7, .int .i64 (encE ([(fold c)] : List Int))), (31, .bool ((encE ([c] : List Int)) == 0))] (by kernel_rfl) (whole_c c w19) ?_
  rintro _ _ ⟨rfl, rfl⟩
  refine ⟨_, rfl, ?_⟩
  have o23 : Try.prog.underlying 4 = some .bool ∧ w19 = w19 ∧ Value.bool false = .bool (!(((encE ([c] : List Int)) == 0) == (whole c))) := ⟨by kernel_rfl, rfl, congrArg Value.bool (Eq.symm (encE_not c))⟩
  refine GoS.run [0, 3, 4, 6, 7, 35, 38] [.h (.bool false), .n, .n, .n, .n] _ [.inRegion (cops (csub (cd Try.f7) [1,1,1,1,1,0,0])) [9,10,11,12,13,14,15,16,17,18,19], .code (csub (cd Try.f7) [1,1,1,1,1,0,1]), .code (csub (cd Try.f7) [1,1,1,1,1,1])] [(0, .int .i64 c), (3, .int .i64 (fold c)), (4, .string (sb (encT ([c] : List Int)))), (6, .string (sb (encT ([(fold c)] : List Int)))), (7, .int .i64 (encE ([(fold c)] : List Int))), (35, .bool false), (38, .bool ((encE ([c] : List Int)) == 0))] w19 (by kernel_rfl) (.cons o23 .nil) ?_
  refine GoS.fork 38 ((encE ([c] : List Int)) == 0) (by kernel_rfl) (fun h24 => ?_) (fun h24 => ?_)
  ·
    have h24p : (encE ([c] : List Int)) = 0 := eq_of_beq h24
    have o25 : (IntKind.i64 = IntKind.i64) ∧ w19 = w19 ∧ Value.bool false = .bool ((encE ([(fold c)] : List Int)) != 0) := ⟨rfl, rfl, congrArg Value.bool (Eq.symm (encE_fold h24))⟩
    have o26 : (Builtin.len_ #[9] 3 #[.string (sb (encT ([(fold c)] : List Int)))]).run Try.prog w19 = .ok (.int .i64 (((encT ([(fold c)] : List Int)).length : Nat) : Int)) w19 := f_len (by kernel_rfl)
    have o27 : (Builtin.len_ #[9] 3 #[.string (sb (encT ([c] : List Int)))]).run Try.prog w19 = .ok (.int .i64 (((encT ([c] : List Int)).length : Nat) : Int)) w19 := f_len (by kernel_rfl)
    refine GoS.run [0, 3, 49] [.n, .h (.bool false), .n, .n, .h (.int .i64 (((encT ([(fold c)] : List Int)).length : Nat) : Int)), .n, .h (.int .i64 (((encT ([c] : List Int)).length : Nat) : Int)), .n, .n, .n, .n] _ [.inRegion (cops (csub (cd Try.f7) [1,1,1,1,1,0,0])) [], .code (csub (cd Try.f7) [1,1,1,1,1,0,1]), .code (csub (cd Try.f7) [1,1,1,1,1,1])] [(0, .int .i64 c), (3, .int .i64 (fold c)), (49, .bool (decide ((((encT ([(fold c)] : List Int)).length : Nat) : Int) > (((encT ([c] : List Int)).length : Nat) : Int))))] w19 (by kernel_rfl) (.cons o25 (.cons o26 (.cons o27 .nil))) ?_
    refine GoS.run [0, 3, 49] [.n] _ [.code (csub (cd Try.f7) [1,1,1,1,1,0,1]), .code (csub (cd Try.f7) [1,1,1,1,1,1])] [(0, .int .i64 c), (3, .int .i64 (fold c)), (49, .bool (decide ((((encT ([(fold c)] : List Int)).length : Nat) : Int) > (((encT ([c] : List Int)).length : Nat) : Int))))] w19 (by kernel_rfl) .nil ?_
    refine GoS.cond (decide ((((encT ([(fold c)] : List Int)).length : Nat) : Int) > (((encT ([c] : List Int)).length : Nat) : Int))) [.code (csub (cd Try.f7) [1,1,1,1,1,0,1,0]), .code (csub (cd Try.f7) [1,1,1,1,1,1])] [.code (csub (cd Try.f7) [1,1,1,1,1,0,1,1]), .code (csub (cd Try.f7) [1,1,1,1,1,1])] (by kernel_rfl) (fun h28 => ?_) (fun h28 => ?_)
    ·
      exact absurd (of_decide_eq_true h28) (encT_fold h24)
    ·
      have h28p : ¬ ((((encT ([(fold c)] : List Int)).length : Nat) : Int) > (((encT ([c] : List Int)).length : Nat) : Int)) := of_decide_eq_false h28
      refine GoS.run [0, 3] [.n] _ [.code (csub (cd Try.f7) [1,1,1,1,1,1])] [(0, .int .i64 c), (3, .int .i64 (fold c))] w19 (by kernel_rfl) .nil ?_
      refine GoS.run [0, 3, 50] [.n, .n, .n] _ [.inRegion (cops (csub (cd Try.f7) [1,1,1,1,1,1,0])) [1,2,3,4,5,6,7,8,9,10,11], .code (csub (cd Try.f7) [1,1,1,1,1,1,1])] [(0, .int .i64 c), (3, .int .i64 (fold c)), (50, .int .i64 c)] w19 (by kernel_rfl) .nil ?_
      refine GoS.call [0, 3] 17 #[.int .i64 c] (some 51) [.inRegion (cops (csub (cd Try.f7) [1,1,1,1,1,1,0])) [2,3,4,5,6,7,8,9,10,11], .code (csub (cd Try.f7) [1,1,1,1,1,1,1])] [(0, .int .i64 c), (3, .int .i64 (fold c))] (by kernel_rfl) (letter_c c w19) ?_
      rintro _ _ ⟨rfl, rfl⟩
      refine ⟨_, rfl, ?_⟩
      refine GoS.run [0, 3, 53] [.n, .n] _ [.inRegion (cops (csub (cd Try.f7) [1,1,1,1,1,1,0])) [4,5,6,7,8,9,10,11], .code (csub (cd Try.f7) [1,1,1,1,1,1,1])] [(0, .int .i64 c), (3, .int .i64 (fold c)), (53, .bool (!(letter c)))] w19 (by kernel_rfl) .nil ?_
      refine GoS.fork 53 (!(letter c)) (by kernel_rfl) (fun h29 => ?_) (fun h29 => ?_)
      ·
        refine GoS.run [2] [.n, .n, .n, .n, .n, .n, .n, .n] _ [.inRegion (cops (csub (cd Try.f7) [1,1,1,1,1,1,0])) [], .code (csub (cd Try.f7) [1,1,1,1,1,1,1])] [(2, .bool true)] w19 (by kernel_rfl) .nil ?_
        refine GoS.run [2] [.n] _ [.code (csub (cd Try.f7) [1,1,1,1,1,1,1])] [(2, .bool true)] w19 (by kernel_rfl) .nil ?_
        refine GoS.ret (fn := Try.f7) (v := (.bool true)) Try.func7 (by kernel_rfl) ?_
        rw [hR]
        exact ⟨rfl, hM22.below⟩
      ·
        refine GoS.run [3, 53, 54] [.n] _ [.inRegion (cops (csub (cd Try.f7) [1,1,1,1,1,1,0])) [5,6,7,8,9,10,11], .code (csub (cd Try.f7) [1,1,1,1,1,1,1])] [(3, .int .i64 (fold c)), (53, .bool false), (54, .int .i64 c)] w19 (by kernel_rfl) .nil ?_
        refine GoS.call [3, 53] 15 #[.int .i64 c] (some 55) [.inRegion (cops (csub (cd Try.f7) [1,1,1,1,1,1,0])) [6,7,8,9,10,11], .code (csub (cd Try.f7) [1,1,1,1,1,1,1])] [(3, .int .i64 (fold c)), (53, .bool false)] (by kernel_rfl) (whole_c c w19) ?_
        rintro _ _ ⟨rfl, rfl⟩
        refine ⟨_, rfl, ?_⟩
        refine GoS.run [3, 53, 56] [.n] _ [.inRegion (cops (csub (cd Try.f7) [1,1,1,1,1,1,0])) [7,8,9,10,11], .code (csub (cd Try.f7) [1,1,1,1,1,1,1])] [(3, .int .i64 (fold c)), (53, .bool false), (56, .bool (whole c))] w19 (by kernel_rfl) .nil ?_
        refine GoS.fork 56 (whole c) (by kernel_rfl) (fun h30 => ?_) (fun h30 => ?_)
        ·
          have h30p : 0 ≤ c ∧ c ≤ 1114111 ∧ (c < 55296 ∨ c > 57343) := whole_iff.1 h30
          refine GoS.run [53, 56, 57] [.n] _ [.inRegion (cops (csub (cd Try.f7) [1,1,1,1,1,1,0])) [8,9,10,11], .code (csub (cd Try.f7) [1,1,1,1,1,1,1])] [(53, .bool false), (56, .bool true), (57, .int .i64 (fold c))] w19 (by kernel_rfl) .nil ?_
          refine GoS.call [53, 56] 17 #[.int .i64 (fold c)] (some 58) [.inRegion (cops (csub (cd Try.f7) [1,1,1,1,1,1,0])) [9,10,11], .code (csub (cd Try.f7) [1,1,1,1,1,1,1])] [(53, .bool false), (56, .bool true)] (by kernel_rfl) (letter_c (fold c) w19) ?_
          rintro _ _ ⟨rfl, rfl⟩
          refine ⟨_, rfl, ?_⟩
          refine GoS.run [2] [.n, .n, .n] _ [.inRegion (cops (csub (cd Try.f7) [1,1,1,1,1,1,0])) [], .code (csub (cd Try.f7) [1,1,1,1,1,1,1])] [(2, .bool (letter (fold c)))] w19 (by kernel_rfl) .nil ?_
          refine GoS.run [2] [.n] _ [.code (csub (cd Try.f7) [1,1,1,1,1,1,1])] [(2, .bool (letter (fold c)))] w19 (by kernel_rfl) .nil ?_
          refine GoS.ret (fn := Try.f7) (v := (.bool (letter (fold c)))) Try.func7 (by kernel_rfl) ?_
          rw [hR]
          exact ⟨ret_bool (letter_fold (p_nf2 h29)), hM22.below⟩
        ·
          refine GoS.run [2] [.n, .n, .n, .n, .n] _ [.inRegion (cops (csub (cd Try.f7) [1,1,1,1,1,1,0])) [], .code (csub (cd Try.f7) [1,1,1,1,1,1,1])] [(2, .bool false)] w19 (by kernel_rfl) .nil ?_
          refine GoS.run [2] [.n] _ [.code (csub (cd Try.f7) [1,1,1,1,1,1,1])] [(2, .bool false)] w19 (by kernel_rfl) .nil ?_
          refine GoS.ret (fn := Try.f7) (v := (.bool false)) Try.func7 (by kernel_rfl) ?_
          rw [hR]
          exact absurd (letter_whole (p_nf2 h29)) (by simp [h30])
  ·
    have h24p : ¬ ((encE ([c] : List Int)) = 0) := p_ne h24
    refine GoS.run [0, 3, 49] [.n, .n, .n, .n, .n, .n, .n, .n, .n, .n, .n] _ [.inRegion (cops (csub (cd Try.f7) [1,1,1,1,1,0,0])) [], .code (csub (cd Try.f7) [1,1,1,1,1,0,1]), .code (csub (cd Try.f7) [1,1,1,1,1,1])] [(0, .int .i64 c), (3, .int .i64 (fold c)), (49, .bool false)] w19 (by kernel_rfl) .nil ?_
    refine GoS.run [0, 3, 50] [.n, .n, .n, .n, .n, .n] _ [.inRegion (cops (csub (cd Try.f7) [1,1,1,1,1,1,0])) [1,2,3,4,5,6,7,8,9,10,11], .code (csub (cd Try.f7) [1,1,1,1,1,1,1])] [(0, .int .i64 c), (3, .int .i64 (fold c)), (50, .int .i64 c)] w19 (by kernel_rfl) .nil ?_
    refine GoS.call [0, 3] 17 #[.int .i64 c] (some 51) [.inRegion (cops (csub (cd Try.f7) [1,1,1,1,1,1,0])) [2,3,4,5,6,7,8,9,10,11], .code (csub (cd Try.f7) [1,1,1,1,1,1,1])] [(0, .int .i64 c), (3, .int .i64 (fold c))] (by kernel_rfl) (letter_c c w19) ?_
    rintro _ _ ⟨rfl, rfl⟩
    refine ⟨_, rfl, ?_⟩
    refine GoS.run [0, 3, 53] [.n, .n] _ [.inRegion (cops (csub (cd Try.f7) [1,1,1,1,1,1,0])) [4,5,6,7,8,9,10,11], .code (csub (cd Try.f7) [1,1,1,1,1,1,1])] [(0, .int .i64 c), (3, .int .i64 (fold c)), (53, .bool (!(letter c)))] w19 (by kernel_rfl) .nil ?_
    refine GoS.fork 53 (!(letter c)) (by kernel_rfl) (fun h31 => ?_) (fun h31 => ?_)
    ·
      refine GoS.run [2] [.n, .n, .n, .n, .n, .n, .n, .n] _ [.inRegion (cops (csub (cd Try.f7) [1,1,1,1,1,1,0])) [], .code (csub (cd Try.f7) [1,1,1,1,1,1,1])] [(2, .bool true)] w19 (by kernel_rfl) .nil ?_
      refine GoS.run [2] [.n] _ [.code (csub (cd Try.f7) [1,1,1,1,1,1,1])] [(2, .bool true)] w19 (by kernel_rfl) .nil ?_
      refine GoS.ret (fn := Try.f7) (v := (.bool true)) Try.func7 (by kernel_rfl) ?_
      rw [hR]
      exact ⟨rfl, hM22.below⟩
    ·
      refine GoS.run [3, 53, 54] [.n] _ [.inRegion (cops (csub (cd Try.f7) [1,1,1,1,1,1,0])) [5,6,7,8,9,10,11], .code (csub (cd Try.f7) [1,1,1,1,1,1,1])] [(3, .int .i64 (fold c)), (53, .bool false), (54, .int .i64 c)] w19 (by kernel_rfl) .nil ?_
      refine GoS.call [3, 53] 15 #[.int .i64 c] (some 55) [.inRegion (cops (csub (cd Try.f7) [1,1,1,1,1,1,0])) [6,7,8,9,10,11], .code (csub (cd Try.f7) [1,1,1,1,1,1,1])] [(3, .int .i64 (fold c)), (53, .bool false)] (by kernel_rfl) (whole_c c w19) ?_
      rintro _ _ ⟨rfl, rfl⟩
      refine ⟨_, rfl, ?_⟩
      refine GoS.run [3, 53, 56] [.n] _ [.inRegion (cops (csub (cd Try.f7) [1,1,1,1,1,1,0])) [7,8,9,10,11], .code (csub (cd Try.f7) [1,1,1,1,1,1,1])] [(3, .int .i64 (fold c)), (53, .bool false), (56, .bool (whole c))] w19 (by kernel_rfl) .nil ?_
      refine GoS.fork 56 (whole c) (by kernel_rfl) (fun h32 => ?_) (fun h32 => ?_)
      ·
        have h32p : 0 ≤ c ∧ c ≤ 1114111 ∧ (c < 55296 ∨ c > 57343) := whole_iff.1 h32
        refine GoS.run [53, 56, 57] [.n] _ [.inRegion (cops (csub (cd Try.f7) [1,1,1,1,1,1,0])) [8,9,10,11], .code (csub (cd Try.f7) [1,1,1,1,1,1,1])] [(53, .bool false), (56, .bool true), (57, .int .i64 (fold c))] w19 (by kernel_rfl) .nil ?_
        refine GoS.call [53, 56] 17 #[.int .i64 (fold c)] (some 58) [.inRegion (cops (csub (cd Try.f7) [1,1,1,1,1,1,0])) [9,10,11], .code (csub (cd Try.f7) [1,1,1,1,1,1,1])] [(53, .bool false), (56, .bool true)] (by kernel_rfl) (letter_c (fold c) w19) ?_
        rintro _ _ ⟨rfl, rfl⟩
        refine ⟨_, rfl, ?_⟩
        refine GoS.run [2] [.n, .n, .n] _ [.inRegion (cops (csub (cd Try.f7) [1,1,1,1,1,1,0])) [], .code (csub (cd Try.f7) [1,1,1,1,1,1,1])] [(2, .bool (letter (fold c)))] w19 (by kernel_rfl) .nil ?_
        refine GoS.run [2] [.n] _ [.code (csub (cd Try.f7) [1,1,1,1,1,1,1])] [(2, .bool (letter (fold c)))] w19 (by kernel_rfl) .nil ?_
        refine GoS.ret (fn := Try.f7) (v := (.bool (letter (fold c)))) Try.func7 (by kernel_rfl) ?_
        rw [hR]
        exact ⟨ret_bool (letter_fold (p_nf2 h31)), hM22.below⟩
      ·
        refine GoS.run [2] [.n, .n, .n, .n, .n] _ [.inRegion (cops (csub (cd Try.f7) [1,1,1,1,1,1,0])) [], .code (csub (cd Try.f7) [1,1,1,1,1,1,1])] [(2, .bool false)] w19 (by kernel_rfl) .nil ?_
        refine GoS.run [2] [.n] _ [.code (csub (cd Try.f7) [1,1,1,1,1,1,1])] [(2, .bool false)] w19 (by kernel_rfl) .nil ?_
        refine GoS.ret (fn := Try.f7) (v := (.bool false)) Try.func7 (by kernel_rfl) ?_
        rw [hR]
        exact absurd (letter_whole (p_nf2 h31)) (by simp [h32])


end Go.Proofs.Yteddiaonklkdiaa
