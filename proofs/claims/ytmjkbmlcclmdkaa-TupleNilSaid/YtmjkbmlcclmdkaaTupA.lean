/-
  The walks of awake and TupleNil.
-/
import Derived.Test.YtmjkbmlcclmdkaaTxt
import Derived.Test.YtmjkbmlcclmdkaaNumC
namespace Go.Proofs.Ytmjkbmlcclmdkaa
open Go Go.Gw Go.NumP Go.CrcP Go.SealP Go.TupP Go.RowKit
set_option linter.unusedVariables false
set_option linter.unusedSimpArgs false


set_option maxHeartbeats 400000 in
theorem awake_c (w : World) :
    Calls Try.prog 6 #[] w (fun e w' => e = .returned (.bool true) ∧ Mem [] w w' []) := by
  obtain ⟨R, hR⟩ : ∃ R : Ending → World → Prop, R = (fun e w' => e = .returned (.bool true) ∧ Mem [] w w' []) := ⟨_, rfl⟩
  rw [← hR]
  refine GoS.enter (n := 57) Try.func6 (by kernel_rfl) rfl [] (by kernel_rfl) (by kernel_rfl) ?_
  have hM0 := Mem.start w
  refine GoS.run [] [.n, .n, .n, .n, .n, .n] _ [.inRegion (cops (csub (cd Try.f6) [1,0])) [0,1], .code (csub (cd Try.f6) [1,1])] [] w (by kernel_rfl) .nil ?_
  refine GoS.call [] 5 #[.string (sb ([130, 97, 0, 1, 5] : List UInt8))] (some 8) [.inRegion (cops (csub (cd Try.f6) [1,0])) [1], .code (csub (cd Try.f6) [1,1])] [] (by kernel_rfl) (at_c ([130, 97, 0, 1, 5] : List UInt8) w) ?_
  rintro _ w2 ⟨b1, rfl, m3⟩
  refine ⟨_, rfl, ?_⟩
  have hM4 := Mem.join hM0 m3
  refine GoS.run [1, 10] [.n, .n, .n, .n, .n] _ [.inRegion (cops (csub (cd Try.f6) [1,1,0])) [1,2,3,4,5,6], .code (csub (cd Try.f6) [1,1,1])] [(1, .pointer (some (⟨b1, 0, none⟩))), (10, .pointer (some (⟨b1, 0, none⟩)))] w2 (by kernel_rfl) .nil ?_
  refine GoS.call [1] 11 #[.pointer (some (⟨b1, 0, none⟩))] (some 11) [.inRegion (cops (csub (cd Try.f6) [1,1,0])) [2,3,4,5,6], .code (csub (cd Try.f6) [1,1,1])] [(1, .pointer (some (⟨b1, 0, none⟩)))] (by kernel_rfl) (ccount_c ([130, 97, 0, 1, 5] : List UInt8) b1 w2 (Mem.lend (R := [⟨37, 1, (obj b1), 1, [.string (sb ([130, 97, 0, 1, 5] : List UInt8))]⟩]) (L := []) hM4)) ?_
  rintro _ w5 ⟨rfl, m6⟩
  refine ⟨_, rfl, ?_⟩
  have hM7 : Mem [] w w5 [⟨37, 1, (obj b1), 1, [.string (sb (cntR ([130, 97, 0, 1, 5] : List UInt8)))]⟩] := Mem.back (R := [⟨37, 1, (obj b1), 1, [.string (sb ([130, 97, 0, 1, 5] : List UInt8))]⟩]) (L := []) hM4 m6
  refine GoS.run [1, 2, 3, 15] [.n, .n, .n, .n, .n, .n, .n, .n, .n] _ [.inRegion (cops (csub (cd Try.f6) [1,1,1,0])) [1,2,3,4,5,6], .code (csub (cd Try.f6) [1,1,1,1])] [(1, .pointer (some (⟨b1, 0, none⟩))), (2, .int .i64 ((cntP ([130, 97, 0, 1, 5] : List UInt8)).1)), (3, .int .i64 ((cntP ([130, 97, 0, 1, 5] : List UInt8)).2.2)), (15, .pointer (some (⟨b1, 0, none⟩)))] w5 (by kernel_rfl) .nil ?_
  refine GoS.call [1, 2, 3] 12 #[.pointer (some (⟨b1, 0, none⟩))] (some 16) [.inRegion (cops (csub (cd Try.f6) [1,1,1,0])) [2,3,4,5,6], .code (csub (cd Try.f6) [1,1,1,1])] [(1, .pointer (some (⟨b1, 0, none⟩))), (2, .int .i64 ((cntP ([130, 97, 0, 1, 5] : List UInt8)).1)), (3, .int .i64 ((cntP ([130, 97, 0, 1, 5] : List UInt8)).2.2))] (by kernel_rfl) (ctext_c (cntR ([130, 97, 0, 1, 5] : List UInt8)) b1 (by decide +kernel) w5 (Mem.lend (R := [⟨37, 1, (obj b1), 1, [.string (sb (cntR ([130, 97, 0, 1, 5] : List UInt8)))]⟩]) (L := []) hM7)) ?_
  rintro _ w8 ⟨rfl, m9⟩
  refine ⟨_, rfl, ?_⟩
  have hM10 : Mem [] w w8 [⟨37, 1, (obj b1), 1, [.string (sb (txR (cntR ([130, 97, 0, 1, 5] : List UInt8))))]⟩] := Mem.back (R := [⟨37, 1, (obj b1), 1, [.string (sb (cntR ([130, 97, 0, 1, 5] : List UInt8)))]⟩]) (L := []) hM7 m9
  have htx11 := txN_le (cntR ([130, 97, 0, 1, 5] : List UInt8))
  refine GoS.run [1, 2, 3, 4, 5, 20] [.n, .n, .n, .n, .n, .n, .n, .n, .n] _ [.inRegion (cops (csub (cd Try.f6) [1,1,1,1,0])) [1,2,3,4,5,6], .code (csub (cd Try.f6) [1,1,1,1,1])] [(1, .pointer (some (⟨b1, 0, none⟩))), (2, .int .i64 ((cntP ([130, 97, 0, 1, 5] : List UInt8)).1)), (3, .int .i64 ((cntP ([130, 97, 0, 1, 5] : List UInt8)).2.2)), (4, .string (sb (txS (cntR ([130, 97, 0, 1, 5] : List UInt8))))), (5, .int .i64 (txE (cntR ([130, 97, 0, 1, 5] : List UInt8)))), (20, .pointer (some (⟨b1, 0, none⟩)))] w8 (by kernel_rfl) .nil ?_
  refine GoS.call [1, 2, 3, 4, 5] 10 #[.pointer (some (⟨b1, 0, none⟩))] (some 21) [.inRegion (cops (csub (cd Try.f6) [1,1,1,1,0])) [2,3,4,5,6], .code (csub (cd Try.f6) [1,1,1,1,1])] [(1, .pointer (some (⟨b1, 0, none⟩))), (2, .int .i64 ((cntP ([130, 97, 0, 1, 5] : List UInt8)).1)), (3, .int .i64 ((cntP ([130, 97, 0, 1, 5] : List UInt8)).2.2)), (4, .string (sb (txS (cntR ([130, 97, 0, 1, 5] : List UInt8))))), (5, .int .i64 (txE (cntR ([130, 97, 0, 1, 5] : List UInt8))))] (by kernel_rfl) (cnum_c (txR (cntR ([130, 97, 0, 1, 5] : List UInt8))) b1 w8 (Mem.lend (R := [⟨37, 1, (obj b1), 1, [.string (sb (txR (cntR ([130, 97, 0, 1, 5] : List UInt8))))]⟩]) (L := []) hM10)) ?_
  rintro _ w12 ⟨rfl, m13⟩
  refine ⟨_, rfl, ?_⟩
  have hM14 : Mem [] w w12 [⟨37, 1, (obj b1), 1, [.string (sb (numR (txR (cntR ([130, 97, 0, 1, 5] : List UInt8)))))]⟩] := Mem.back (R := [⟨37, 1, (obj b1), 1, [.string (sb (txR (cntR ([130, 97, 0, 1, 5] : List UInt8))))]⟩]) (L := []) hM10 m13
  obtain ⟨v15, w16, hr17, hM18⟩ := m_lit sT52 hM14 (n := 2) (parts := #[(0, .int .i64 368), (1, .int .i64 (-113))]) (cs := [.int .i64 368, .int .i64 (-113)]) (by decide) (by kernel_rfl) rfl
  have o19 : (Instr.buildSlice 52 2 #[(0, .int .i64 368), (1, .int .i64 (-113))]).run Try.prog w12 = .ok v15 w16 := hr17
  refine GoS.run [1, 2, 3, 4, 5, 7, 24] [.n, .n, .n, .n, .n, .n, .n, .n, .u (v15) (w16)] _ [.inRegion (cops (csub (cd Try.f6) [1,1,1,1,1,0])) [1,2,3,4,5,6,7,8,9,10,11,12,13,14,15,16,17,18,19,20,21,22,23,24,25,26,27,28,29,30,31,32,33], .code (csub (cd Try.f6) [1,1,1,1,1,1])] [(1, .pointer (some (⟨b1, 0, none⟩))), (2, .int .i64 ((cntP ([130, 97, 0, 1, 5] : List UInt8)).1)), (3, .int .i64 ((cntP ([130, 97, 0, 1, 5] : List UInt8)).2.2)), (4, .string (sb (txS (cntR ([130, 97, 0, 1, 5] : List UInt8))))), (5, .int .i64 (txE (cntR ([130, 97, 0, 1, 5] : List UInt8)))), (7, .int .i64 ((numP (txR (cntR ([130, 97, 0, 1, 5] : List UInt8)))).2.2)), (24, v15)] w16 (by kernel_rfl) (.cons o19 .nil) ?_
  refine GoS.call [1, 2, 3, 4, 5, 7] 14 #[v15] (some 25) [.inRegion (cops (csub (cd Try.f6) [1,1,1,1,1,0])) [2,3,4,5,6,7,8,9,10,11,12,13,14,15,16,17,18,19,20,21,22,23,24,25,26,27,28,29,30,31,32,33], .code (csub (cd Try.f6) [1,1,1,1,1,1])] [(1, .pointer (some (⟨b1, 0, none⟩))), (2, .int .i64 ((cntP ([130, 97, 0, 1, 5] : List UInt8)).1)), (3, .int .i64 ((cntP ([130, 97, 0, 1, 5] : List UInt8)).2.2)), (4, .string (sb (txS (cntR ([130, 97, 0, 1, 5] : List UInt8))))), (5, .int .i64 (txE (cntR ([130, 97, 0, 1, 5] : List UInt8)))), (7, .int .i64 ((numP (txR (cntR ([130, 97, 0, 1, 5] : List UInt8)))).2.2))] (by kernel_rfl) (nums_c v15 ([368, (-113)] : List Int) (by intro j; rcases j with _ | _ | j <;> simp) (by simp) w16 (hM18.rd 0 rfl)) ?_
  rintro _ w20 ⟨rfl, m21⟩
  refine ⟨_, rfl, ?_⟩
  have hM22 := Mem.join hM18 m21
  have o23 : (binOp .eql 9 (.string (sb (bytesOf (numsB ([368, (-113)] : List Int))))) (.string (sb ([241, 1, 0, 15, 255] : List UInt8)))).run Try.prog w20 = .ok (.bool true) w20 := f_streq_yes (by decide +kernel)
  have o24 : (IntKind.i64 = IntKind.i64) ∧ w20 = w20 ∧ Value.bool true = .bool ((cntP ([130, 97, 0, 1, 5] : List UInt8)).1 == 2) := ⟨rfl, rfl, congrArg Value.bool (Eq.symm (by decide +kernel))⟩
  have o25 : (IntKind.i64 = IntKind.i64) ∧ w20 = w20 ∧ Value.bool true = .bool ((cntP ([130, 97, 0, 1, 5] : List UInt8)).2.2 == 0) := ⟨rfl, rfl, congrArg Value.bool (Eq.symm (by decide +kernel))⟩
  have o26 : (binOp .eql 9 (.string (sb (txS (cntR ([130, 97, 0, 1, 5] : List UInt8))))) (.string (sb ([97] : List UInt8)))).run Try.prog w20 = .ok (.bool true) w20 := f_streq_yes (wake_s)
  have o27 : (IntKind.i64 = IntKind.i64) ∧ w20 = w20 ∧ Value.bool true = .bool ((txE (cntR ([130, 97, 0, 1, 5] : List UInt8))) == 0) := ⟨rfl, rfl, congrArg Value.bool (Eq.symm (by rw [wake_e]; rfl))⟩
  have o28 : (IntKind.i64 = IntKind.i64) ∧ w20 = w20 ∧ Value.bool true = .bool ((numP (txR (cntR ([130, 97, 0, 1, 5] : List UInt8)))).2.2 == 3) := ⟨rfl, rfl, congrArg Value.bool (Eq.symm (by rw [wake_r]; decide +kernel))⟩
  have hM29 : Mem [] w w20 [⟨37, 1, (obj b1), 1, [.string (sb (numR (txR (cntR ([130, 97, 0, 1, 5] : List UInt8)))))]⟩] := hM22.sub (List.Sublist.cons _ (List.Sublist.cons_cons _ (List.Sublist.refl _)))
  refine GoS.run [1, 47, 48] [.h (.bool true), .n, .n, .h (.bool true), .n, .n, .n, .h (.bool true), .n, .n, .n, .h (.bool true), .n, .n, .n, .h (.bool true), .n, .n, .n, .h (.bool true), .n, .n, .n] _ [.inRegion (cops (csub (cd Try.f6) [1,1,1,1,1,0])) [25,26,27,28,29,30,31,32,33], .code (csub (cd Try.f6) [1,1,1,1,1,1])] [(1, .pointer (some (⟨b1, 0, none⟩))), (47, .bool true), (48, .pointer (some (⟨b1, 0, none⟩)))] w20 (by kernel_rfl) (.cons o23 (.cons o24 (.cons o25 (.cons o26 (.cons o27 (.cons o28 .nil)))))) ?_
  refine GoS.call [1, 47] 7 #[.pointer (some (⟨b1, 0, none⟩))] (some 49) [.inRegion (cops (csub (cd Try.f6) [1,1,1,1,1,0])) [26,27,28,29,30,31,32,33], .code (csub (cd Try.f6) [1,1,1,1,1,1])] [(1, .pointer (some (⟨b1, 0, none⟩))), (47, .bool true)] (by kernel_rfl) (crest_c (numR (txR (cntR ([130, 97, 0, 1, 5] : List UInt8)))) b1 w20 (Mem.lend (R := [⟨37, 1, (obj b1), 1, [.string (sb (numR (txR (cntR ([130, 97, 0, 1, 5] : List UInt8)))))]⟩]) (L := []) hM29)) ?_
  rintro _ w30 ⟨rfl, m31⟩
  refine ⟨_, rfl, ?_⟩
  have hM32 : Mem [] w w30 [⟨37, 1, (obj b1), 1, [.string (sb (numR (txR (cntR ([130, 97, 0, 1, 5] : List UInt8)))))]⟩] := Mem.back (R := [⟨37, 1, (obj b1), 1, [.string (sb (numR (txR (cntR ([130, 97, 0, 1, 5] : List UInt8)))))]⟩]) (L := []) hM29 m31
  have o33 : (binOp .eql 9 (.string (sb (numR (txR (cntR ([130, 97, 0, 1, 5] : List UInt8)))))) (.string (sb ([5] : List UInt8)))).run Try.prog w30 = .ok (.bool true) w30 := f_streq_yes (by rw [wake_r]; decide +kernel)
  refine GoS.run [52, 53] [.h (.bool true), .n, .n, .n] _ [.inRegion (cops (csub (cd Try.f6) [1,1,1,1,1,0])) [30,31,32,33], .code (csub (cd Try.f6) [1,1,1,1,1,1])] [(52, .bool true), (53, .pointer (some (⟨b1, 0, none⟩)))] w30 (by kernel_rfl) (.cons o33 .nil) ?_
  refine GoS.call [52] 9 #[.pointer (some (⟨b1, 0, none⟩))] (some 54) [.inRegion (cops (csub (cd Try.f6) [1,1,1,1,1,0])) [31,32,33], .code (csub (cd Try.f6) [1,1,1,1,1,1])] [(52, .bool true)] (by kernel_rfl) (cend_c (numR (txR (cntR ([130, 97, 0, 1, 5] : List UInt8)))) b1 w30 (Mem.lend (R := [⟨37, 1, (obj b1), 1, [.string (sb (numR (txR (cntR ([130, 97, 0, 1, 5] : List UInt8)))))]⟩]) (L := []) hM32)) ?_
  rintro _ w34 ⟨rfl, m35⟩
  refine ⟨_, rfl, ?_⟩
  have hM36 : Mem [] w w34 [⟨37, 1, (obj b1), 1, [.string (sb (numR (txR (cntR ([130, 97, 0, 1, 5] : List UInt8)))))]⟩] := Mem.back (R := [⟨37, 1, (obj b1), 1, [.string (sb (numR (txR (cntR ([130, 97, 0, 1, 5] : List UInt8)))))]⟩]) (L := []) hM32 m35
  have o37 : (IntKind.i64 = IntKind.i64) ∧ w34 = w34 ∧ Value.bool true = .bool ((endE (numR (txR (cntR ([130, 97, 0, 1, 5] : List UInt8))))) == 5) := ⟨rfl, rfl, congrArg Value.bool (Eq.symm (by rw [wake_r]; decide +kernel))⟩
  have hM38 : Mem [] w w34 [] := hM36.sub (List.Sublist.cons _ (List.Sublist.refl _))
  refine GoS.run [0] [.h (.bool true), .n, .n, .n] _ [.code (csub (cd Try.f6) [1,1,1,1,1,1])] [(0, .bool true)] w34 (by kernel_rfl) (.cons o37 .nil) ?_
  refine GoS.ret (fn := Try.f6) (v := (.bool true)) Try.func6 (by kernel_rfl) ?_
  rw [hR]
  exact ⟨ret_bool (by decide +kernel), hM38⟩

set_option maxHeartbeats 400000 in
theorem lnil_c (s : List UInt8) (w : World) :
    Calls Try.prog 4 #[.string (sb s)] w (fun e w' => e = .returned (.bool true) ∧ Below w.heap.size w w') := by
  obtain ⟨R, hR⟩ : ∃ R : Ending → World → Prop, R = (fun e w' => e = .returned (.bool true) ∧ Below w.heap.size w w') := ⟨_, rfl⟩
  rw [← hR]
  refine GoS.enter (n := 78) Try.func4 (by kernel_rfl) rfl [(0, .string (sb s))] (by kernel_rfl) (by kernel_rfl) ?_
  have hM0 := Mem.start w
  refine GoS.run [0, 3, 13] [.n, .n, .n, .n, .n, .n, .n, .n, .n, .n, .n] _ [.inRegion (cops (csub (cd Try.f4) [1,1,0])) [1,2,3,4,5,6], .code (csub (cd Try.f4) [1,1,1])] [(0, .string (sb s)), (3, .pointer none), (13, .pointer none)] w (by kernel_rfl) .nil ?_
  refine GoS.call [0, 3] 10 #[.pointer none] (some 14) [.inRegion (cops (csub (cd Try.f4) [1,1,0])) [2,3,4,5,6], .code (csub (cd Try.f4) [1,1,1])] [(0, .string (sb s)), (3, .pointer none)] (by kernel_rfl) (cnum_n w) ?_
  rintro _ _ ⟨rfl, rfl⟩
  refine ⟨_, rfl, ?_⟩
  refine GoS.run [0, 3, 4, 5, 18] [.n, .n, .n, .n, .n, .n, .n, .n, .n] _ [.inRegion (cops (csub (cd Try.f4) [1,1,1,0])) [1,2,3,4,5,6], .code (csub (cd Try.f4) [1,1,1,1])] [(0, .string (sb s)), (3, .pointer none), (4, .int .i64 0), (5, .int .i64 1), (18, .pointer none)] w (by kernel_rfl) .nil ?_
  refine GoS.call [0, 3, 4, 5] 11 #[.pointer none] (some 19) [.inRegion (cops (csub (cd Try.f4) [1,1,1,0])) [2,3,4,5,6], .code (csub (cd Try.f4) [1,1,1,1])] [(0, .string (sb s)), (3, .pointer none), (4, .int .i64 0), (5, .int .i64 1)] (by kernel_rfl) (ccount_n w) ?_
  rintro _ _ ⟨rfl, rfl⟩
  refine ⟨_, rfl, ?_⟩
  refine GoS.run [0, 3, 4, 5, 6, 7, 23] [.n, .n, .n, .n, .n, .n, .n, .n, .n] _ [.inRegion (cops (csub (cd Try.f4) [1,1,1,1,0])) [1,2,3,4,5,6], .code (csub (cd Try.f4) [1,1,1,1,1])] [(0, .string (sb s)), (3, .pointer none), (4, .int .i64 0), (5, .int .i64 1), (6, .int .i64 0), (7, .int .i64 1), (23, .pointer none)] w (by kernel_rfl) .nil ?_
  refine GoS.call [0, 3, 4, 5, 6, 7] 12 #[.pointer none] (some 24) [.inRegion (cops (csub (cd Try.f4) [1,1,1,1,0])) [2,3,4,5,6], .code (csub (cd Try.f4) [1,1,1,1,1])] [(0, .string (sb s)), (3, .pointer none), (4, .int .i64 0), (5, .int .i64 1), (6, .int .i64 0), (7, .int .i64 1)] (by kernel_rfl) (ctext_n w) ?_
  rintro _ _ ⟨rfl, rfl⟩
  refine ⟨_, rfl, ?_⟩
  refine GoS.run [0, 3, 4, 5, 6, 7, 8, 9, 28] [.n, .n, .n, .n, .n, .n, .n, .n, .n] _ [.inRegion (cops (csub (cd Try.f4) [1,1,1,1,1,0])) [1,2,3,4,5,6], .code (csub (cd Try.f4) [1,1,1,1,1,1])] [(0, .string (sb s)), (3, .pointer none), (4, .int .i64 0), (5, .int .i64 1), (6, .int .i64 0), (7, .int .i64 1), (8, .string (sb ([]))), (9, .int .i64 1), (28, .pointer none)] w (by kernel_rfl) .nil ?_
  refine GoS.call [0, 3, 4, 5, 6, 7, 8, 9] 13 #[.pointer none] (some 29) [.inRegion (cops (csub (cd Try.f4) [1,1,1,1,1,0])) [2,3,4,5,6], .code (csub (cd Try.f4) [1,1,1,1,1,1])] [(0, .string (sb s)), (3, .pointer none), (4, .int .i64 0), (5, .int .i64 1), (6, .int .i64 0), (7, .int .i64 1), (8, .string (sb ([]))), (9, .int .i64 1)] (by kernel_rfl) (cblock_n w) ?_
  rintro _ _ ⟨rfl, rfl⟩
  refine ⟨_, rfl, ?_⟩
  refine GoS.run [0, 3, 4, 5, 6, 7, 8, 9, 10, 11] [.n, .n, .n, .n, .n, .n, .n, .n] _ [.inRegion (cops (csub (cd Try.f4) [1,1,1,1,1,1,0])) [0,1,2,3,4,5,6,7,8,9,10,11,12,13,14,15,16,17,18,19,20,21,22,23,24,25,26,27,28,29,30,31,32,33,34,35,36,37,38,39,40,41,42,43,44,45,46], .code (csub (cd Try.f4) [1,1,1,1,1,1,1])] [(0, .string (sb s)), (3, .pointer none), (4, .int .i64 0), (5, .int .i64 1), (6, .int .i64 0), (7, .int .i64 1), (8, .string (sb ([]))), (9, .int .i64 1), (10, .string (sb ([]))), (11, .int .i64 1)] w (by kernel_rfl) .nil ?_
  refine GoS.call [0, 3, 4, 5, 6, 7, 8, 9, 10, 11] 6 #[] (some 32) [.inRegion (cops (csub (cd Try.f4) [1,1,1,1,1,1,0])) [1,2,3,4,5,6,7,8,9,10,11,12,13,14,15,16,17,18,19,20,21,22,23,24,25,26,27,28,29,30,31,32,33,34,35,36,37,38,39,40,41,42,43,44,45,46], .code (csub (cd Try.f4) [1,1,1,1,1,1,1])] [(0, .string (sb s)), (3, .pointer none), (4, .int .i64 0), (5, .int .i64 1), (6, .int .i64 0), (7, .int .i64 1), (8, .string (sb ([]))), (9, .int .i64 1), (10, .string (sb ([]))), (11, .int .i64 1)] (by kernel_rfl) (awake_c w) ?_
  rintro _ w1 ⟨rfl, m2⟩
  refine ⟨_, rfl, ?_⟩
  have hM3 := Mem.join hM0 m2
  have o4 : (IntKind.i64 = IntKind.i64) ∧ w1 = w1 ∧ Value.bool true = .bool (0 == 0) := ⟨rfl, rfl, congrArg Value.bool (Eq.symm (beq_self_eq_true _))⟩
  have o5 : (binOp .add 9 (.string (sb ([]))) (.string (sb ([])))).run Try.prog w1 = .ok (.string (sb ([] ++ []))) w1 := f_stradd (by decide)
  have o6 : (binOp .eql 9 (.string (sb ([] ++ []))) (.string (sb ([])))).run Try.prog w1 = .ok (.bool true) w1 := f_streq_yes (rfl)
  have o7 : (IntKind.i64 = IntKind.i64) ∧ w1 = w1 ∧ Value.bool true = .bool (1 == 1) := ⟨rfl, rfl, congrArg Value.bool (Eq.symm (beq_self_eq_true _))⟩
  have o8 : (IntKind.i64 = IntKind.i64) ∧ w1 = w1 ∧ Value.bool true = .bool (1 == 1) := ⟨rfl, rfl, congrArg Value.bool (Eq.symm (beq_self_eq_true _))⟩
  have o9 : (IntKind.i64 = IntKind.i64) ∧ w1 = w1 ∧ Value.bool true = .bool (1 == 1) := ⟨rfl, rfl, congrArg Value.bool (Eq.symm (beq_self_eq_true _))⟩
  have o10 : (IntKind.i64 = IntKind.i64) ∧ w1 = w1 ∧ Value.bool true = .bool (1 == 1) := ⟨rfl, rfl, congrArg Value.bool (Eq.symm (beq_self_eq_true _))⟩
  refine GoS.run [0, 3, 61, 62] [.n, .n, .n, .n, .h (.bool true), .n, .n, .n, .n, .h (.string (sb ([] ++ []))), .h (.bool true), .n, .n, .n, .h (.bool true), .n, .n, .n, .h (.bool true), .n, .n, .n, .h (.bool true), .n, .n, .n, .h (.bool true), .n, .n, .n] _ [.inRegion (cops (csub (cd Try.f4) [1,1,1,1,1,1,0])) [31,32,33,34,35,36,37,38,39,40,41,42,43,44,45,46], .code (csub (cd Try.f4) [1,1,1,1,1,1,1])] [(0, .string (sb s)), (3, .pointer none), (61, .bool true), (62, .pointer none)] w1 (by kernel_rfl) (.cons o4 (.cons o5 (.cons o6 (.cons o7 (.cons o8 (.cons o9 (.cons o10 .nil))))))) ?_
  refine GoS.call [0, 3, 61] 7 #[.pointer none] (some 63) [.inRegion (cops (csub (cd Try.f4) [1,1,1,1,1,1,0])) [32,33,34,35,36,37,38,39,40,41,42,43,44,45,46], .code (csub (cd Try.f4) [1,1,1,1,1,1,1])] [(0, .string (sb s)), (3, .pointer none), (61, .bool true)] (by kernel_rfl) (crest_n w1) ?_
  rintro _ _ ⟨rfl, rfl⟩
  refine ⟨_, rfl, ?_⟩
  have o11 : (binOp .eql 9 (.string (sb ([]))) (.string (sb ([])))).run Try.prog w1 = .ok (.bool true) w1 := f_streq_yes (rfl)
  refine GoS.run [0, 66, 67] [.h (.bool true), .n, .n, .n] _ [.inRegion (cops (csub (cd Try.f4) [1,1,1,1,1,1,0])) [36,37,38,39,40,41,42,43,44,45,46], .code (csub (cd Try.f4) [1,1,1,1,1,1,1])] [(0, .string (sb s)), (66, .bool true), (67, .pointer none)] w1 (by kernel_rfl) (.cons o11 .nil) ?_
  refine GoS.call [0, 66] 9 #[.pointer none] (some 68) [.inRegion (cops (csub (cd Try.f4) [1,1,1,1,1,1,0])) [37,38,39,40,41,42,43,44,45,46], .code (csub (cd Try.f4) [1,1,1,1,1,1,1])] [(0, .string (sb s)), (66, .bool true)] (by kernel_rfl) (cend_n w1) ?_
  rintro _ _ ⟨rfl, rfl⟩
  refine ⟨_, rfl, ?_⟩
  have o12 : (IntKind.i64 = IntKind.i64) ∧ w1 = w1 ∧ Value.bool true = .bool (1 == 1) := ⟨rfl, rfl, congrArg Value.bool (Eq.symm (beq_self_eq_true _))⟩
  refine GoS.run [0, 71, 72] [.h (.bool true), .n, .n, .n] _ [.inRegion (cops (csub (cd Try.f4) [1,1,1,1,1,1,0])) [41,42,43,44,45,46], .code (csub (cd Try.f4) [1,1,1,1,1,1,1])] [(0, .string (sb s)), (71, .bool true), (72, .string (sb s))] w1 (by kernel_rfl) (.cons o12 .nil) ?_
  refine GoS.call [0, 71] 5 #[.string (sb s)] (some 73) [.inRegion (cops (csub (cd Try.f4) [1,1,1,1,1,1,0])) [42,43,44,45,46], .code (csub (cd Try.f4) [1,1,1,1,1,1,1])] [(0, .string (sb s)), (71, .bool true)] (by kernel_rfl) (at_c s w1) ?_
  rintro _ w14 ⟨b13, rfl, m15⟩
  refine ⟨_, rfl, ?_⟩
  have hM16 := Mem.join hM3 m15
  refine GoS.call [0, 71] 7 #[.pointer (some (⟨b13, 0, none⟩))] (some 74) [.inRegion (cops (csub (cd Try.f4) [1,1,1,1,1,1,0])) [43,44,45,46], .code (csub (cd Try.f4) [1,1,1,1,1,1,1])] [(0, .string (sb s)), (71, .bool true)] (by kernel_rfl) (crest_c s b13 w14 (Mem.lend (R := [⟨37, 1, (obj b13), 1, [.string (sb s)]⟩]) (L := []) hM16)) ?_
  rintro _ w17 ⟨rfl, m18⟩
  refine ⟨_, rfl, ?_⟩
  have hM19 : Mem [] w w17 [⟨37, 1, (obj b13), 1, [.string (sb s)]⟩] := Mem.back (R := [⟨37, 1, (obj b13), 1, [.string (sb s)]⟩]) (L := []) hM16 m18
  have o20 : (binOp .eql 9 (.string (sb s)) (.string (sb s))).run Try.prog w17 = .ok (.bool true) w17 := f_streq_yes (rfl)
  have hM21 : Mem [] w w17 [] := hM19.sub (List.Sublist.cons _ (List.Sublist.refl _))
  refine GoS.run [2] [.n, .h (.bool true), .n, .n, .n] _ [.code (csub (cd Try.f4) [1,1,1,1,1,1,1])] [(2, .bool true)] w17 (by kernel_rfl) (.cons o20 .nil) ?_
  refine GoS.ret (fn := Try.f4) (v := (.bool true)) Try.func4 (by kernel_rfl) ?_
  rw [hR]
  exact ⟨rfl, hM21.below⟩


end Go.Proofs.Ytmjkbmlcclmdkaa
