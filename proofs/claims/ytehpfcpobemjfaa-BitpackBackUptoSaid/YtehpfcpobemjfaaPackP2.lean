/-
  The walk of BitpackBack.
-/
import Derived.Test.YtehpfcpobemjfaaPackK
namespace Go.Proofs.Ytehpfcpobemjfaa
open Go Go.Gw Go.NumP Go.LiveP Go.PackP Go.RowKit
set_option linter.unusedVariables false
set_option linter.unusedSimpArgs false


set_option maxHeartbeats 400000 in
theorem lback_c (v : Value) (l : List Int) (s : List UInt8) (w : World) (hv : Rd w 1 v l.length (ivals .i64 l)) (hw : ∀ n ∈ l, -9223372036854775808 ≤ n ∧ n ≤ 9223372036854775807) (hl : l.length ≤ 1048576) (hs : s.length ≤ 1048576) :
    Calls Try.prog 5 #[v, .string (sb s)] w (fun e w' => e = .returned (.bool true) ∧ Below w.heap.size w w') := by
  have hw9 : ∀ n ∈ l, n ≤ 9223372036854775807 := fun n hn => (hw n hn).2
  have hpl := packT_len hw9
  have hrl := read_len s
  obtain ⟨R, hR⟩ : ∃ R : Ending → World → Prop, R = (fun e w' => e = .returned (.bool true) ∧ Below w.heap.size w w') := ⟨_, rfl⟩
  rw [← hR]
  refine GoS.enter (n := 81) Try.func5 (by kernel_rfl) rfl [(0, v), (1, .string (sb s))] (by kernel_rfl) (by kernel_rfl) ?_
  have hM0 := Mem.start w
  refine GoS.run [0, 1, 16] [.n, .n, .n, .n, .n, .n, .n] _ [.inRegion (cops (csub (cd Try.f5) [1,0])) [1,2,3,4,5,6], .code (csub (cd Try.f5) [1,1])] [(0, v), (1, .string (sb s)), (16, v)] w (by kernel_rfl) .nil ?_
  refine GoS.call [0, 1] 8 #[v] (some 17) [.inRegion (cops (csub (cd Try.f5) [1,0])) [2,3,4,5,6], .code (csub (cd Try.f5) [1,1])] [(0, v), (1, .string (sb s))] (by kernel_rfl) (pack_c v l w (hv.kept0 hM0.kept) (by exact hw9) (by first | omega | (have q := read_len s; omega))) ?_
  rintro _ w1 ⟨rfl, m2⟩
  refine ⟨_, rfl, ?_⟩
  have hM3 := Mem.join hM0 m2
  refine GoS.run [0, 1, 5, 6] [.n, .n, .n, .n, .n, .n, .n, .n, .n] _ [.inRegion (cops (csub (cd Try.f5) [1,1,0,0])) [0,1], .code (csub (cd Try.f5) [1,1,0,1]), .code (csub (cd Try.f5) [1,1,1])] [(0, v), (1, .string (sb s)), (5, .string (sb (packT l))), (6, .int .i64 (packE l))] w1 (by kernel_rfl) .nil ?_
  refine GoS.call [0, 1, 5, 6] 10 #[] (some 20) [.inRegion (cops (csub (cd Try.f5) [1,1,0,0])) [1], .code (csub (cd Try.f5) [1,1,0,1]), .code (csub (cd Try.f5) [1,1,1])] [(0, v), (1, .string (sb s)), (5, .string (sb (packT l))), (6, .int .i64 (packE l))] (by kernel_rfl) (awake_c w1) ?_
  rintro _ w4 ⟨rfl, m5⟩
  refine ⟨_, rfl, ?_⟩
  have hM6 := Mem.join hM3 m5
  refine GoS.run [0, 1, 5, 23] [.n, .n, .n, .n, .n, .n, .n, .n, .n, .n] _ [.code (csub (cd Try.f5) [1,1,1,0,1]), .code (csub (cd Try.f5) [1,1,1,1])] [(0, v), (1, .string (sb s)), (5, .string (sb (packT l))), (23, .bool ((packE l) == 0))] w4 (by kernel_rfl) .nil ?_
  refine GoS.cond ((packE l) == 0) [.code (csub (cd Try.f5) [1,1,1,0,1,0]), .code (csub (cd Try.f5) [1,1,1,1])] [.code (csub (cd Try.f5) [1,1,1,0,1,1]), .code (csub (cd Try.f5) [1,1,1,1])] (by kernel_rfl) (fun h7 => ?_) (fun h7 => ?_)
  ·
    have h7p : (packE l) = 0 := eq_of_beq h7
    have o8 : (binOp .add 9 (.string (sb (packT l))) (.string (sb s))).run Try.prog w4 = .ok (.string (sb ((packT l) ++ s))) w4 := f_stradd (by omega)
    refine GoS.run [0, 1, 5, 27] [.n, .n, .n, .n, .h (.string (sb ((packT l) ++ s)))] _ [.inRegion (cops (csub (cd Try.f5) [1,1,1,0,1,0,0])) [3,4,5,6,7,8,9,10], .code (csub (cd Try.f5) [1,1,1,0,1,0,1]), .code (csub (cd Try.f5) [1,1,1,1])] [(0, v), (1, .string (sb s)), (5, .string (sb (packT l))), (27, .string (sb ((packT l) ++ s)))] w4 (by kernel_rfl) (.cons o8 .nil) ?_
    refine GoS.call [0, 1, 5] 12 #[.string (sb ((packT l) ++ s))] (some 28) [.inRegion (cops (csub (cd Try.f5) [1,1,1,0,1,0,0])) [4,5,6,7,8,9,10], .code (csub (cd Try.f5) [1,1,1,0,1,0,1]), .code (csub (cd Try.f5) [1,1,1,1])] [(0, v), (1, .string (sb s)), (5, .string (sb (packT l)))] (by kernel_rfl) (read_c ((packT l) ++ s) (by first | omega | (rw [List.length_append]; omega)) w4) ?_
    rintro _ w9 ⟨v12, rfl, m10⟩
    refine ⟨_, rfl, ?_⟩
    have hM11 := Mem.join hM6 m10
    have o13 : (IntKind.i64 = IntKind.i64) ∧ w9 = w9 ∧ Value.bool false = .bool ((readP ((packT l) ++ s)).2.2 != 0) := ⟨rfl, rfl, congrArg Value.bool (Eq.symm (by rw [(pack_read s (eq_of_beq h7) hw9 (by omega))]; rfl))⟩
    have o14 : (Builtin.len_ #[9] 3 #[.string (sb (packT l))]).run Try.prog w9 = .ok (.int .i64 (((packT l).length : Nat) : Int)) w9 := f_len (by kernel_rfl)
    have o15 : (IntKind.i64 = IntKind.i64) ∧ w9 = w9 ∧ Value.bool false = .bool ((((readP ((packT l) ++ s)).2.1 : Nat) : Int) != (((packT l).length : Nat) : Int)) := ⟨rfl, rfl, congrArg Value.bool (Eq.symm (by rw [(pack_read s (eq_of_beq h7) hw9 (by omega))]; exact bne_self_eq_false _))⟩
    refine GoS.run [1, 40, 41, 42] [.n, .n, .n, .n, .n, .n, .n, .n, .n, .n, .n, .h (.bool false), .n, .n, .n, .h (.int .i64 (((packT l).length : Nat) : Int)), .h (.bool false), .n, .n, .n, .n] _ [.inRegion (cops (csub (cd Try.f5) [1,1,1,0,1,0,1,0])) [11,12,13], .code (csub (cd Try.f5) [1,1,1,0,1,0,1,1]), .code (csub (cd Try.f5) [1,1,1,1])] [(1, .string (sb s)), (40, .bool false), (41, v12), (42, v)] w9 (by kernel_rfl) (.cons o13 (.cons o14 (.cons o15 .nil))) ?_
    refine GoS.call [1, 40] 11 #[v12, v] (some 43) [.inRegion (cops (csub (cd Try.f5) [1,1,1,0,1,0,1,0])) [12,13], .code (csub (cd Try.f5) [1,1,1,0,1,0,1,1]), .code (csub (cd Try.f5) [1,1,1,1])] [(1, .string (sb s)), (40, .bool false)] (by kernel_rfl) (numbers_yes v12 v ((readP ((packT l) ++ s)).1) l w9 (hM11.rd 0 rfl) (hv.kept0 hM11.kept) (by rw [(pack_read s (eq_of_beq h7) hw9 (by omega))])) ?_
    rintro _ w16 ⟨rfl, d17⟩
    refine ⟨_, rfl, ?_⟩
    have hM18 := hM11.dr d17
    have hM19 : Mem [] w w16 [] := hM18.sub (List.Sublist.cons _ (List.Sublist.refl _))
    refine GoS.run [1] [.n, .n, .n, .n, .n] _ [.code (csub (cd Try.f5) [1,1,1,1])] [(1, .string (sb s))] w16 (by kernel_rfl) .nil ?_
    refine GoS.run [1, 47] [.n, .n, .n] _ [.inRegion (cops (csub (cd Try.f5) [1,1,1,1,0])) [1,2,3,4,5,6,7,8], .code (csub (cd Try.f5) [1,1,1,1,1])] [(1, .string (sb s)), (47, .string (sb s))] w16 (by kernel_rfl) .nil ?_
    refine GoS.call [1] 12 #[.string (sb s)] (some 48) [.inRegion (cops (csub (cd Try.f5) [1,1,1,1,0])) [2,3,4,5,6,7,8], .code (csub (cd Try.f5) [1,1,1,1,1])] [(1, .string (sb s))] (by kernel_rfl) (read_c s (by first | omega | (rw [List.length_append]; omega)) w16) ?_
    rintro _ w20 ⟨v23, rfl, m21⟩
    refine ⟨_, rfl, ?_⟩
    have hM22 := Mem.join hM19 m21
    refine GoS.run [1, 10, 11, 53] [.n, .n, .n, .n, .n, .n, .n, .n, .n, .n, .n, .n, .n, .n] _ [.code (csub (cd Try.f5) [1,1,1,1,1,0,1]), .code (csub (cd Try.f5) [1,1,1,1,1,1])] [(1, .string (sb s)), (10, v23), (11, .int .i64 (((readP s).2.1 : Nat) : Int)), (53, .bool ((readP s).2.2 != 0))] w20 (by kernel_rfl) .nil ?_
    refine GoS.cond ((readP s).2.2 != 0) [.code (csub (cd Try.f5) [1,1,1,1,1,0,1,0]), .code (csub (cd Try.f5) [1,1,1,1,1,1])] [.code (csub (cd Try.f5) [1,1,1,1,1,0,1,1]), .code (csub (cd Try.f5) [1,1,1,1,1,1])] (by kernel_rfl) (fun h24 => ?_) (fun h24 => ?_)
    ·
      have h24p : ¬ ((readP s).2.2 = 0) := bne_iff_ne.1 h24
      have o25 : (Builtin.len_ #[22] 3 #[v23]).run Try.prog w20 = .ok (.int .i64 (((List.length ((readP s).1)) : Nat) : Int)) w20 := f_slen sT22 (hM22.rd 0 rfl) 3 _
      have o26 : (IntKind.i64 = IntKind.i64) ∧ w20 = w20 ∧ Value.bool true = .bool ((((List.length ((readP s).1)) : Nat) : Int) == 0) := ⟨rfl, rfl, congrArg Value.bool (Eq.symm (by rw [(readP_fail (bne_iff_ne.1 h24)).1]; rfl))⟩
      have o27 : (IntKind.i64 = IntKind.i64) ∧ w20 = w20 ∧ Value.bool true = .bool ((((readP s).2.1 : Nat) : Int) == 0) := ⟨rfl, rfl, congrArg Value.bool (Eq.symm (by rw [(readP_fail (bne_iff_ne.1 h24)).2]; rfl))⟩
      have hM28 : Mem [] w w20 [] := hM22.sub (List.Sublist.cons _ (List.Sublist.refl _))
      refine GoS.run [4] [.n, .n, .n, .h (.int .i64 (((List.length ((readP s).1)) : Nat) : Int)), .h (.bool true), .n, .n, .h (.bool true), .n, .n, .n] _ [.code (csub (cd Try.f5) [1,1,1,1,1,0,1,0,1]), .code (csub (cd Try.f5) [1,1,1,1,1,1])] [(4, .bool true)] w20 (by kernel_rfl) (.cons o25 (.cons o26 (.cons o27 .nil))) ?_
      refine GoS.ret (fn := Try.f5) (v := (.bool true)) Try.func5 (by kernel_rfl) ?_
      rw [hR]
      exact ⟨rfl, hM28.below⟩
    ·
      have h24p : (readP s).2.2 = 0 := p_eq h24
      refine GoS.run [1, 10, 11] [.n] _ [.code (csub (cd Try.f5) [1,1,1,1,1,1])] [(1, .string (sb s)), (10, v23), (11, .int .i64 (((readP s).2.1 : Nat) : Int))] w20 (by kernel_rfl) .nil ?_
      refine GoS.run [1, 11, 62] [.n, .n, .n] _ [.inRegion (cops (csub (cd Try.f5) [1,1,1,1,1,1,0])) [1,2,3,4,5,6], .code (csub (cd Try.f5) [1,1,1,1,1,1,1])] [(1, .string (sb s)), (11, .int .i64 (((readP s).2.1 : Nat) : Int)), (62, v23)] w20 (by kernel_rfl) .nil ?_
      refine GoS.call [1, 11] 8 #[v23] (some 63) [.inRegion (cops (csub (cd Try.f5) [1,1,1,1,1,1,0])) [2,3,4,5,6], .code (csub (cd Try.f5) [1,1,1,1,1,1,1])] [(1, .string (sb s)), (11, .int .i64 (((readP s).2.1 : Nat) : Int))] (by kernel_rfl) (pack_c v23 ((readP s).1) w20 (hM22.rd 0 rfl) (by exact (read_pack (p_eq h24)).2.2.2.1) (by first | omega | (have q := read_len s; omega))) ?_
      rintro _ w29 ⟨rfl, m30⟩
      refine ⟨_, rfl, ?_⟩
      have hM31 := Mem.join hM22 m30
      have o32 : (IntKind.i64 = IntKind.i64) ∧ w29 = w29 ∧ Value.bool true = .bool ((packE ((readP s).1)) == 0) := ⟨rfl, rfl, congrArg Value.bool (Eq.symm (beq_iff_eq.2 (read_pack (p_eq h24)).1))⟩
      have o33 : (Builtin.len_ #[9] 3 #[.string (sb s)]).run Try.prog w29 = .ok (.int .i64 ((s.length : Nat) : Int)) w29 := f_len (by kernel_rfl)
      have hM34 : Mem [] w w29 [] := hM31.sub (List.Sublist.cons _ (List.Sublist.refl _))
      refine GoS.run [1, 11, 13, 74] [.n, .n, .n, .n, .n, .n, .n, .n, .n, .h (.bool true), .n, .n, .n, .h (.int .i64 ((s.length : Nat) : Int)), .n, .n, .n] _ [.inRegion (cops (csub (cd Try.f5) [1,1,1,1,1,1,1,0])) [9,10,11,12,13,14,15], .code (csub (cd Try.f5) [1,1,1,1,1,1,1,1])] [(1, .string (sb s)), (11, .int .i64 (((readP s).2.1 : Nat) : Int)), (13, .string (sb (packT ((readP s).1)))), (74, .bool (decide ((((readP s).2.1 : Nat) : Int) ≤ ((s.length : Nat) : Int))))] w29 (by kernel_rfl) (.cons o32 (.cons o33 .nil)) ?_
      refine GoS.fork 74 (decide ((((readP s).2.1 : Nat) : Int) ≤ ((s.length : Nat) : Int))) (by kernel_rfl) (fun h35 => ?_) (fun h35 => ?_)
      ·
        have h35p : (((readP s).2.1 : Nat) : Int) ≤ ((s.length : Nat) : Int) := of_decide_eq_true h35
        have o36 : (Instr.sliceAt 9 (.string (sb s)) none (some (.int .i64 (((readP s).2.1 : Nat) : Int))) none).run Try.prog w29 = .ok (.string (sb (List.take ((readP s).2.1) s))) w29 := f_slice_hi ((readP s).2.1) (by kernel_rfl) (by omega) (by omega)
        have o37 : (binOp .eql 9 (.string (sb (packT ((readP s).1)))) (.string (sb (List.take ((readP s).2.1) s)))).run Try.prog w29 = .ok (.bool true) w29 := f_streq_yes ((read_pack (p_eq h24)).2.2.1)
        refine GoS.run [4] [.n, .n, .n, .h (.string (sb (List.take ((readP s).2.1) s))), .h (.bool true), .n, .n] _ [.inRegion (cops (csub (cd Try.f5) [1,1,1,1,1,1,1,0])) [], .code (csub (cd Try.f5) [1,1,1,1,1,1,1,1])] [(4, .bool true)] w29 (by kernel_rfl) (.cons o36 (.cons o37 .nil)) ?_
        refine GoS.run [4] [.n] _ [.code (csub (cd Try.f5) [1,1,1,1,1,1,1,1])] [(4, .bool true)] w29 (by kernel_rfl) .nil ?_
        refine GoS.ret (fn := Try.f5) (v := (.bool true)) Try.func5 (by kernel_rfl) ?_
        rw [hR]
        exact ⟨rfl, hM34.below⟩
      ·
        have q := (read_pack (p_eq h24)).2.1
        have q2 := of_decide_eq_false h35
        omega
  ·
    have h7p : ¬ ((packE l) = 0) := p_ne h7
    refine GoS.run [1] [.n] _ [.code (csub (cd Try.f5) [1,1,1,1])] [(1, .string (sb s))] w4 (by kernel_rfl) .nil ?_
    refine GoS.run [1, 47] [.n, .n, .n] _ [.inRegion (cops (csub (cd Try.f5) [1,1,1,1,0])) [1,2,3,4,5,6,7,8], .code (csub (cd Try.f5) [1,1,1,1,1])] [(1, .string (sb s)), (47, .string (sb s))] w4 (by kernel_rfl) .nil ?_
    refine GoS.call [1] 12 #[.string (sb s)] (some 48) [.inRegion (cops (csub (cd Try.f5) [1,1,1,1,0])) [2,3,4,5,6,7,8], .code (csub (cd Try.f5) [1,1,1,1,1])] [(1, .string (sb s))] (by kernel_rfl) (read_c s (by first | omega | (rw [List.length_append]; omega)) w4) ?_
    rintro _ w38 ⟨v41, rfl, m39⟩
    refine ⟨_, rfl, ?_⟩
    have hM40 := Mem.join hM6 m39
    refine GoS.run [1, 10, 11, 53] [.n, .n, .n, .n, .n, .n, .n, .n, .n, .n, .n, .n, .n, .n] _ [.code (csub (cd Try.f5) [1,1,1,1,1,0,1]), .code (csub (cd Try.f5) [1,1,1,1,1,1])] [(1, .string (sb s)), (10, v41), (11, .int .i64 (((readP s).2.1 : Nat) : Int)), (53, .bool ((readP s).2.2 != 0))] w38 (by kernel_rfl) .nil ?_
    refine GoS.cond ((readP s).2.2 != 0) [.code (csub (cd Try.f5) [1,1,1,1,1,0,1,0]), .code (csub (cd Try.f5) [1,1,1,1,1,1])] [.code (csub (cd Try.f5) [1,1,1,1,1,0,1,1]), .code (csub (cd Try.f5) [1,1,1,1,1,1])] (by kernel_rfl) (fun h42 => ?_) (fun h42 => ?_)
    ·
      have h42p : ¬ ((readP s).2.2 = 0) := bne_iff_ne.1 h42
      have o43 : (Builtin.len_ #[22] 3 #[v41]).run Try.prog w38 = .ok (.int .i64 (((List.length ((readP s).1)) : Nat) : Int)) w38 := f_slen sT22 (hM40.rd 0 rfl) 3 _
      have o44 : (IntKind.i64 = IntKind.i64) ∧ w38 = w38 ∧ Value.bool true = .bool ((((List.length ((readP s).1)) : Nat) : Int) == 0) := ⟨rfl, rfl, congrArg Value.bool (Eq.symm (by rw [(readP_fail (bne_iff_ne.1 h42)).1]; rfl))⟩
      have o45 : (IntKind.i64 = IntKind.i64) ∧ w38 = w38 ∧ Value.bool true = .bool ((((readP s).2.1 : Nat) : Int) == 0) := ⟨rfl, rfl, congrArg Value.bool (Eq.symm (by rw [(readP_fail (bne_iff_ne.1 h42)).2]; rfl))⟩
      have hM46 : Mem [] w w38 [] := hM40.sub (List.Sublist.cons _ (List.Sublist.refl _))
      refine GoS.run [4] [.n, .n, .n, .h (.int .i64 (((List.length ((readP s).1)) : Nat) : Int)), .h (.bool true), .n, .n, .h (.bool true), .n, .n, .n] _ [.code (csub (cd Try.f5) [1,1,1,1,1,0,1,0,1]), .code (csub (cd Try.f5) [1,1,1,1,1,1])] [(4, .bool true)] w38 (by kernel_rfl) (.cons o43 (.cons o44 (.cons o45 .nil))) ?_
      refine GoS.ret (fn := Try.f5) (v := (.bool true)) Try.func5 (by kernel_rfl) ?_
      rw [hR]
      exact ⟨rfl, hM46.below⟩
    ·
      have h42p : (readP s).2.2 = 0 := p_eq h42
      refine GoS.run [1, 10, 11] [.n] _ [.code (csub (cd Try.f5) [1,1,1,1,1,1])] [(1, .string (sb s)), (10, v41), (11, .int .i64 (((readP s).2.1 : Nat) : Int))] w38 (by kernel_rfl) .nil ?_
      refine GoS.run [1, 11, 62] [.n, .n, .n] _ [.inRegion (cops (csub (cd Try.f5) [1,1,1,1,1,1,0])) [1,2,3,4,5,6], .code (csub (cd Try.f5) [1,1,1,1,1,1,1])] [(1, .string (sb s)), (11, .int .i64 (((readP s).2.1 : Nat) : Int)), (62, v41)] w38 (by kernel_rfl) .nil ?_
      refine GoS.call [1, 11] 8 #[v41] (some 63) [.inRegion (cops (csub (cd Try.f5) [1,1,1,1,1,1,0])) [2,3,4,5,6], .code (csub (cd Try.f5) [1,1,1,1,1,1,1])] [(1, .string (sb s)), (11, .int .i64 (((readP s).2.1 : Nat) : Int))] (by kernel_rfl) (pack_c v41 ((readP s).1) w38 (hM40.rd 0 rfl) (by exact (read_pack (p_eq h42)).2.2.2.1) (by first | omega | (have q := read_len s; omega))) ?_
      rintro _ w47 ⟨rfl, m48⟩
      refine ⟨_, rfl, ?_⟩
      have hM49 := Mem.join hM40 m48
      have o50 : (IntKind.i64 = IntKind.i64) ∧ w47 = w47 ∧ Value.bool true = .bool ((packE ((readP s).1)) == 0) := ⟨rfl, rfl, congrArg Value.bool (Eq.symm (beq_iff_eq.2 (read_pack (p_eq h42)).1))⟩
      have o51 : (Builtin.len_ #[9] 3 #[.string (sb s)]).run Try.prog w47 = .ok (.int .i64 ((s.length : Nat) : Int)) w47 := f_len (by kernel_rfl)
      have hM52 : Mem [] w w47 [] := hM49.sub (List.Sublist.cons _ (List.Sublist.refl _))
      refine GoS.run [1, 11, 13, 74] [.n, .n, .n, .n, .n, .n, .n, .n, .n, .h (.bool true), .n, .n, .n, .h (.int .i64 ((s.length : Nat) : Int)), .n, .n, .n] _ [.inRegion (cops (csub (cd Try.f5) [1,1,1,1,1,1,1,0])) [9,10,11,12,13,14,15], .code (csub (cd Try.f5) [1,1,1,1,1,1,1,1])] [(1, .string (sb s)), (11, .int .i64 (((readP s).2.1 : Nat) : Int)), (13, .string (sb (packT ((readP s).1)))), (74, .bool (decide ((((readP s).2.1 : Nat) : Int) ≤ ((s.length : Nat) : Int))))] w47 (by kernel_rfl) (.cons o50 (.cons o51 .nil)) ?_
      refine GoS.fork 74 (decide ((((readP s).2.1 : Nat) : Int) ≤ ((s.length : Nat) : Int))) (by kernel_rfl) (fun h53 => ?_) (fun h53 => ?_)
      ·
        have h53p : (((readP s).2.1 : Nat) : Int) ≤ ((s.length : Nat) : Int) := of_decide_eq_true h53
        have o54 : (Instr.sliceAt 9 (.string (sb s)) none (some (.int .i64 (((readP s).2.1 : Nat) : Int))) none).run Try.prog w47 = .ok (.string (sb (List.take ((readP s).2.1) s))) w47 := f_slice_hi ((readP s).2.1) (by kernel_rfl) (by omega) (by omega)
        have o55 : (binOp .eql 9 (.string (sb (packT ((readP s).1)))) (.string (sb (List.take ((readP s).2.1) s)))).run Try.prog w47 = .ok (.bool true) w47 := f_streq_yes ((read_pack (p_eq h42)).2.2.1)
        refine GoS.run [4] [.n, .n, .n, .h (.string (sb (List.take ((readP s).2.1) s))), .h (.bool true), .n, .n] _ [.inRegion (cops (csub (cd Try.f5) [1,1,1,1,1,1,1,0])) [], .code (csub (cd Try.f5) [1,1,1,1,1,1,1,1])] [(4, .bool true)] w47 (by kernel_rfl) (.cons o54 (.cons o55 .nil)) ?_
        refine GoS.run [4] [.n] _ [.code (csub (cd Try.f5) [1,1,1,1,1,1,1,1])] [(4, .bool true)] w47 (by kernel_rfl) .nil ?_
        refine GoS.ret (fn := Try.f5) (v := (.bool true)) Try.func5 (by kernel_rfl) ?_
        rw [hR]
        exact ⟨rfl, hM52.below⟩
      ·
        have q := (read_pack (p_eq h42)).2.1
        have q2 := of_decide_eq_false h53
        omega


end Go.Proofs.Ytehpfcpobemjfaa
