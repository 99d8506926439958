/-
  The walk of TupleGoes.
-/
import Derived.Test.YtmjkbmlcclmdkaaTupA
namespace Go.Proofs.Ytmjkbmlcclmdkaa
open Go Go.Gw Go.NumP Go.CrcP Go.SealP Go.TupP Go.RowKit
set_option linter.unusedVariables false
set_option linter.unusedSimpArgs false

theorem pE5 : Plain Try.prog 5 := ⟨.int .u8, by kernel_rfl, (fun _ h => by cases h), (fun _ _ h => by cases h)⟩

set_option maxHeartbeats 2000000 in
theorem went_c {S : List Nat} {w0 : World} (s : List UInt8) (b : Nat) (k : Int) (hs : s.length ≤ 140737488355327) (w : World) (hM : Mem S w0 w [⟨37, 1, (obj b), 1, [.string (sb s)]⟩]) :
    Calls Try.prog 8 #[.pointer (some (⟨b, 0, none⟩)), .string (sb s), .int .i64 k] w (fun e w' => e = .returned (.bool true) ∧ ∃ s', List.length s' ≤ List.length s ∧ Mem S w0 w' [⟨37, 1, (obj b), 1, [.string (sb (s'))]⟩]) := by
  have hnb := numP_bd s
  have hcb := cntP_bd s
  have hbn := blkN_le s
  obtain ⟨R, hR⟩ : ∃ R : Ending → World → Prop, R = (fun e w' => e = .returned (.bool true) ∧ ∃ s', List.length s' ≤ List.length s ∧ Mem S w0 w' [⟨37, 1, (obj b), 1, [.string (sb (s'))]⟩]) := ⟨_, rfl⟩
  rw [← hR]
  refine GoS.enter (n := 86) Try.func8 (by kernel_rfl) rfl [(0, .pointer (some (⟨b, 0, none⟩))), (1, .string (sb s)), (2, .int .i64 k)] (by kernel_rfl) (by kernel_rfl) ?_
  refine GoS.run [0, 1, 7, 8, 11, 12, 14, 26] [.n, .n, .n, .n, .n, .n, .n, .n, .n, .n, .n, .n, .n, .n, .n, .n, .n, .n, .n, .n, .n, .n, .n, .n, .n, .n, .n, .n, .n, .n, .n] _ [.code (csub (cd Try.f8) [1,1,1,1,0,1,0,1]), .inBlock 0, .code (csub (cd Try.f8) [1,1,1,1,1])] [(0, .pointer (some (⟨b, 0, none⟩))), (1, .string (sb s)), (7, .int .i64 0), (8, .int .i64 0), (11, .string (sb ([]))), (12, .string (sb ([]))), (14, .int .i64 k), (26, .bool (k == 0))] w (by kernel_rfl) .nil ?_
  refine GoS.cond (k == 0) [.code (csub (cd Try.f8) [1,1,1,1,0,1,0,1,0]), .inBlock 0, .code (csub (cd Try.f8) [1,1,1,1,1])] [.code (csub (cd Try.f8) [1,1,1,1,0,1,0,1,1]), .inBlock 0, .code (csub (cd Try.f8) [1,1,1,1,1])] (by kernel_rfl) (fun h1 => ?_) (fun h1 => ?_)
  ·
    have h1p : k = 0 := eq_of_beq h1
    refine GoS.run [0, 1, 11, 12, 29] [.n, .n, .n] _ [.inRegion (cops (csub (cd Try.f8) [1,1,1,1,0,1,0,1,0,0])) [1,2,3,4,5,6], .code (csub (cd Try.f8) [1,1,1,1,0,1,0,1,0,1]), .inBlock 0, .code (csub (cd Try.f8) [1,1,1,1,1])] [(0, .pointer (some (⟨b, 0, none⟩))), (1, .string (sb s)), (11, .string (sb ([]))), (12, .string (sb ([]))), (29, .pointer (some (⟨b, 0, none⟩)))] w (by kernel_rfl) .nil ?_
    refine GoS.call [0, 1, 11, 12] 10 #[.pointer (some (⟨b, 0, none⟩))] (some 30) [.inRegion (cops (csub (cd Try.f8) [1,1,1,1,0,1,0,1,0,0])) [2,3,4,5,6], .code (csub (cd Try.f8) [1,1,1,1,0,1,0,1,0,1]), .inBlock 0, .code (csub (cd Try.f8) [1,1,1,1,1])] [(0, .pointer (some (⟨b, 0, none⟩))), (1, .string (sb s)), (11, .string (sb ([]))), (12, .string (sb ([])))] (by kernel_rfl) (cnum_c s b w (Mem.lend (R := [⟨37, 1, (obj b), 1, [.string (sb s)]⟩]) (L := []) hM)) ?_
    rintro _ w2 ⟨rfl, m3⟩
    refine ⟨_, rfl, ?_⟩
    have hM4 : Mem S w0 w2 [⟨37, 1, (obj b), 1, [.string (sb (numR s))]⟩] := Mem.back (R := [⟨37, 1, (obj b), 1, [.string (sb s)]⟩]) (L := []) hM m3
    refine GoS.run [0, 1, 7, 11, 12, 13, 34] [.n, .n, .n, .n, .n, .n, .n, .n] _ [.inRegion (cops (csub (cd Try.f8) [1,1,1,1,0,1,0,1,0,1])) [1,2,3,4,5,6,7,8], .inBlock 0, .code (csub (cd Try.f8) [1,1,1,1,1])] [(0, .pointer (some (⟨b, 0, none⟩))), (1, .string (sb s)), (7, .int .i64 ((numP s).1)), (11, .string (sb ([]))), (12, .string (sb ([]))), (13, .int .i64 ((numP s).2.2)), (34, .string (sb s))] w2 (by kernel_rfl) .nil ?_
    refine GoS.call [0, 1, 7, 11, 12, 13] 15 #[.string (sb s)] (some 35) [.inRegion (cops (csub (cd Try.f8) [1,1,1,1,0,1,0,1,0,1])) [2,3,4,5,6,7,8], .inBlock 0, .code (csub (cd Try.f8) [1,1,1,1,1])] [(0, .pointer (some (⟨b, 0, none⟩))), (1, .string (sb s)), (7, .int .i64 ((numP s).1)), (11, .string (sb ([]))), (12, .string (sb ([]))), (13, .int .i64 ((numP s).2.2))] (by kernel_rfl) (rreadnum_c s w2) ?_
    rintro _ w5 ⟨rfl, m6⟩
    refine ⟨_, rfl, ?_⟩
    have hM7 := Mem.join hM4 m6
    have hnb := numP_bd s
    refine GoS.run [0, 1, 7, 8, 9, 10, 11, 12, 13] [.n, .n, .n, .n, .n, .n, .n, .n] _ [.inBlock 0, .code (csub (cd Try.f8) [1,1,1,1,1])] [(0, .pointer (some (⟨b, 0, none⟩))), (1, .string (sb s)), (7, .int .i64 ((numP s).1)), (8, .int .i64 ((numP s).1)), (9, .int .i64 ((numP s).2.1)), (10, .int .i64 ((numP s).2.2)), (11, .string (sb ([]))), (12, .string (sb ([]))), (13, .int .i64 ((numP s).2.2))] w5 (by kernel_rfl) .nil ?_
    refine GoS.run [0, 1, 7, 8, 9, 10, 11, 12, 13] [.n, .n] _ [.code (csub (cd Try.f8) [1,1,1,1,1,0]), .code (csub (cd Try.f8) [1,1,1,1,1,1])] [(0, .pointer (some (⟨b, 0, none⟩))), (1, .string (sb s)), (7, .int .i64 ((numP s).1)), (8, .int .i64 ((numP s).1)), (9, .int .i64 ((numP s).2.1)), (10, .int .i64 ((numP s).2.2)), (11, .string (sb ([]))), (12, .string (sb ([]))), (13, .int .i64 ((numP s).2.2))] w5 (by kernel_rfl) .nil ?_
    obtain ⟨w29, hw30⟩ : ∃ w_, (w5).drewN 1 = w_ := ⟨_, rfl⟩
    refine GoS.held (fun W_ => Mem S w0 W_ [⟨37, 1, (obj b), 1, [.string (sb (numR s))]⟩]) [] 16 (by kernel_rfl) (by kernel_rfl) 22 (by kernel_rfl) ?_
    rw [hw30]
    have hM31 : Mem S w0 w29 [⟨37, 1, (obj b), 1, [.string (sb (numR s))]⟩] := hw30 ▸ hM7.ext (Kept.drewN _ _ 1)
    have hS32 : Mem S w0 w29 [⟨37, 1, (obj b), 1, [.string (sb (numR s))]⟩] := hM31.sub (List.Sublist.cons_cons _ (List.Sublist.refl _))
    refine GoH.takeV 0 (.int .i64 ((numP s).1)) (.int .i64 ((numP s).1)) (some 65) (fun W_ => by kernel_rfl) rfl hS32 ?_
    refine GoH.takeV 1 (.int .i64 ((numP s).1)) (.int .i64 ((numP s).1)) (some 66) (fun W_ => by kernel_rfl) rfl hS32 ?_
    refine GoH.takeF 2 (.bool true) (fun W_ => (IntKind.i64 = IntKind.i64) ∧ W_ = W_ ∧ Value.bool true = .bool ((numP s).1 == (numP s).1)) (some 67) (fun W_ => by kernel_rfl) (fun W_ hW_ => ⟨rfl, rfl, congrArg Value.bool (Eq.symm (beq_self_eq_true _))⟩) hS32 ?_
    refine GoH.takeV 3 (.bool true) (.bool true) (some 68) (fun W_ => by kernel_rfl) rfl hS32 ?_
    refine GoH.takeV 4 (.string (sb ([]))) (.string (sb ([]))) (some 69) (fun W_ => by kernel_rfl) rfl hS32 ?_
    refine GoH.takeV 5 (.string (sb ([]))) (.string (sb ([]))) (some 70) (fun W_ => by kernel_rfl) rfl hS32 ?_
    refine GoH.takeF 6 (.bool true) (fun W_ => (binOp .eql 9 (.string (sb ([]))) (.string (sb ([])))).run Try.prog W_ = .ok (.bool true) W_) (some 71) (fun W_ => by kernel_rfl) (fun W_ hW_ => f_streq_yes (rfl)) hS32 ?_
    refine GoH.takeV 7 (.bool true) (.bool true) (some 72) (fun W_ => by kernel_rfl) rfl hS32 ?_
    refine GoH.takeV 8 (.bool true) (.bool true) (some 73) (fun W_ => by kernel_rfl) rfl hS32 ?_
    refine GoH.takeV 9 (.int .i64 ((numP s).2.2)) (.int .i64 ((numP s).2.2)) (some 74) (fun W_ => by kernel_rfl) rfl hS32 ?_
    refine GoH.takeV 10 (.int .i64 ((numP s).2.2)) (.int .i64 ((numP s).2.2)) (some 75) (fun W_ => by kernel_rfl) rfl hS32 ?_
    refine GoH.takeF 11 (.bool true) (fun W_ => (IntKind.i64 = IntKind.i64) ∧ W_ = W_ ∧ Value.bool true = .bool ((numP s).2.2 == (numP s).2.2)) (some 76) (fun W_ => by kernel_rfl) (fun W_ hW_ => ⟨rfl, rfl, congrArg Value.bool (Eq.symm (beq_self_eq_true _))⟩) hS32 ?_
    refine GoH.takeV 12 (.bool true) (.bool true) (some 77) (fun W_ => by kernel_rfl) rfl hS32 ?_
    refine GoH.takeV 13 (.bool true) (.bool true) (some 78) (fun W_ => by kernel_rfl) rfl hS32 ?_
    refine GoH.takeV 14 (.pointer (some (⟨b, 0, none⟩))) (.pointer (some (⟨b, 0, none⟩))) (some 79) (fun W_ => by kernel_rfl) rfl hS32 ?_
    refine GoH.takeV 16 (.string (sb s)) (.string (sb s)) (some 81) (fun W_ => by kernel_rfl) rfl hS32 ?_
    refine GoH.takeV 17 (.int .i64 ((numP s).2.1)) (.int .i64 ((numP s).2.1)) (some 82) (fun W_ => by kernel_rfl) rfl hS32 ?_
    refine GoH.takeF 18 (.string (sb (List.drop (Int.toNat ((numP s).2.1)) s))) (fun W_ => (Instr.sliceAt 9 (.string (sb s)) (some (.int .i64 ((numP s).2.1))) none none).run Try.prog W_ = .ok (.string (sb (List.drop (Int.toNat ((numP s).2.1)) s))) W_) (some 83) (fun W_ => by kernel_rfl) (fun W_ hW_ => f_slice_lo (Int.toNat ((numP s).2.1)) (by kernel_rfl) (by omega) (by first | omega)) hS32 ?_
    refine GoH.callF 15 7 #[.pointer (some (⟨b, 0, none⟩))] (some 80) (by kernel_rfl) (crest_c (numR s) b w29 (Mem.lend (R := [⟨37, 1, (obj b), 1, [.string (sb (numR s))]⟩]) (L := []) hM31)) ?_
    rintro _ w33 ⟨rfl, m34⟩
    have hM35 : Mem S w0 w33 [⟨37, 1, (obj b), 1, [.string (sb (numR s))]⟩] := Mem.back (R := [⟨37, 1, (obj b), 1, [.string (sb (numR s))]⟩]) (L := []) hM31 m34
    have hS36 : Mem S w0 w33 [⟨37, 1, (obj b), 1, [.string (sb (numR s))]⟩] := hM35.sub (List.Sublist.cons_cons _ (List.Sublist.refl _))
    refine ⟨.string (sb (numR s)), rfl, .inr hS36, ?_⟩
    refine GoH.takeF 19 (.bool true) (fun W_ => (binOp .eql 9 (.string (sb (numR s))) (.string (sb (List.drop (Int.toNat ((numP s).2.1)) s)))).run Try.prog W_ = .ok (.bool true) W_) (some 84) (fun W_ => by kernel_rfl) (fun W_ hW_ => f_streq_yes (rfl)) hS36 ?_
    refine GoH.takeV 20 (.bool true) (.bool true) (some 85) (fun W_ => by kernel_rfl) rfl hS36 ?_
    refine GoH.takeV 21 (.bool true) (.bool true) (some 6) (fun W_ => by kernel_rfl) rfl hS36 ?_
    refine GoH.done [6] [(6, .bool true)] (by kernel_rfl) (by kernel_rfl) ?_
    refine GoS.ret (fn := Try.f8) (v := (.bool true)) Try.func8 (by kernel_rfl) ?_
    rw [hR]
    refine ⟨rfl, _, ?_, hM35⟩
    first | (unfold numR; rw [List.length_drop]; omega) | (unfold cntR; rw [List.length_drop]; omega) | (unfold txR; rw [List.length_drop]; omega) | (unfold blkR; rw [List.length_drop]; omega)
  ·
    have h1p : ¬ (k = 0) := p_ne h1
    refine GoS.run [0, 1, 7, 8, 11, 12, 14, 39] [.n, .n, .n, .n, .n] _ [.code (csub (cd Try.f8) [1,1,1,1,0,1,0,1,1,1]), .inBlock 0, .code (csub (cd Try.f8) [1,1,1,1,1])] [(0, .pointer (some (⟨b, 0, none⟩))), (1, .string (sb s)), (7, .int .i64 0), (8, .int .i64 0), (11, .string (sb ([]))), (12, .string (sb ([]))), (14, .int .i64 k), (39, .bool (k == 1))] w (by kernel_rfl) .nil ?_
    refine GoS.cond (k == 1) [.code (csub (cd Try.f8) [1,1,1,1,0,1,0,1,1,1,0]), .inBlock 0, .code (csub (cd Try.f8) [1,1,1,1,1])] [.code (csub (cd Try.f8) [1,1,1,1,0,1,0,1,1,1,1]), .inBlock 0, .code (csub (cd Try.f8) [1,1,1,1,1])] (by kernel_rfl) (fun h8 => ?_) (fun h8 => ?_)
    ·
      have h8p : k = 1 := eq_of_beq h8
      refine GoS.run [0, 1, 11, 12, 42] [.n, .n, .n] _ [.inRegion (cops (csub (cd Try.f8) [1,1,1,1,0,1,0,1,1,1,0,0])) [1,2,3,4,5,6], .code (csub (cd Try.f8) [1,1,1,1,0,1,0,1,1,1,0,1]), .inBlock 0, .code (csub (cd Try.f8) [1,1,1,1,1])] [(0, .pointer (some (⟨b, 0, none⟩))), (1, .string (sb s)), (11, .string (sb ([]))), (12, .string (sb ([]))), (42, .pointer (some (⟨b, 0, none⟩)))] w (by kernel_rfl) .nil ?_
      refine GoS.call [0, 1, 11, 12] 11 #[.pointer (some (⟨b, 0, none⟩))] (some 43) [.inRegion (cops (csub (cd Try.f8) [1,1,1,1,0,1,0,1,1,1,0,0])) [2,3,4,5,6], .code (csub (cd Try.f8) [1,1,1,1,0,1,0,1,1,1,0,1]), .inBlock 0, .code (csub (cd Try.f8) [1,1,1,1,1])] [(0, .pointer (some (⟨b, 0, none⟩))), (1, .string (sb s)), (11, .string (sb ([]))), (12, .string (sb ([])))] (by kernel_rfl) (ccount_c s b w (Mem.lend (R := [⟨37, 1, (obj b), 1, [.string (sb s)]⟩]) (L := []) hM)) ?_
      rintro _ w9 ⟨rfl, m10⟩
      refine ⟨_, rfl, ?_⟩
      have hM11 : Mem S w0 w9 [⟨37, 1, (obj b), 1, [.string (sb (cntR s))]⟩] := Mem.back (R := [⟨37, 1, (obj b), 1, [.string (sb s)]⟩]) (L := []) hM m10
      refine GoS.run [0, 1, 7, 11, 12, 13, 47] [.n, .n, .n, .n, .n, .n, .n, .n] _ [.inRegion (cops (csub (cd Try.f8) [1,1,1,1,0,1,0,1,1,1,0,1])) [1,2,3,4,5,6,7,8], .inBlock 0, .code (csub (cd Try.f8) [1,1,1,1,1])] [(0, .pointer (some (⟨b, 0, none⟩))), (1, .string (sb s)), (7, .int .i64 ((cntP s).1)), (11, .string (sb ([]))), (12, .string (sb ([]))), (13, .int .i64 ((cntP s).2.2)), (47, .string (sb s))] w9 (by kernel_rfl) .nil ?_
      refine GoS.call [0, 1, 7, 11, 12, 13] 16 #[.string (sb s)] (some 48) [.inRegion (cops (csub (cd Try.f8) [1,1,1,1,0,1,0,1,1,1,0,1])) [2,3,4,5,6,7,8], .inBlock 0, .code (csub (cd Try.f8) [1,1,1,1,1])] [(0, .pointer (some (⟨b, 0, none⟩))), (1, .string (sb s)), (7, .int .i64 ((cntP s).1)), (11, .string (sb ([]))), (12, .string (sb ([]))), (13, .int .i64 ((cntP s).2.2))] (by kernel_rfl) (rreadcount_c s w9) ?_
      rintro _ w12 ⟨rfl, m13⟩
      refine ⟨_, rfl, ?_⟩
      have hM14 := Mem.join hM11 m13
      refine GoS.run [0, 1, 7, 8, 9, 10, 11, 12, 13] [.n, .n, .n, .n, .n, .n, .n, .n] _ [.inBlock 0, .code (csub (cd Try.f8) [1,1,1,1,1])] [(0, .pointer (some (⟨b, 0, none⟩))), (1, .string (sb s)), (7, .int .i64 ((cntP s).1)), (8, .int .i64 ((cntP s).1)), (9, .int .i64 ((cntP s).2.1)), (10, .int .i64 ((cntP s).2.2)), (11, .string (sb ([]))), (12, .string (sb ([]))), (13, .int .i64 ((cntP s).2.2))] w12 (by kernel_rfl) .nil ?_
      refine GoS.run [0, 1, 7, 8, 9, 10, 11, 12, 13] [.n, .n] _ [.code (csub (cd Try.f8) [1,1,1,1,1,0]), .code (csub (cd Try.f8) [1,1,1,1,1,1])] [(0, .pointer (some (⟨b, 0, none⟩))), (1, .string (sb s)), (7, .int .i64 ((cntP s).1)), (8, .int .i64 ((cntP s).1)), (9, .int .i64 ((cntP s).2.1)), (10, .int .i64 ((cntP s).2.2)), (11, .string (sb ([]))), (12, .string (sb ([]))), (13, .int .i64 ((cntP s).2.2))] w12 (by kernel_rfl) .nil ?_
      obtain ⟨w37, hw38⟩ : ∃ w_, (w12).drewN 1 = w_ := ⟨_, rfl⟩
      refine GoS.held (fun W_ => Mem S w0 W_ [⟨37, 1, (obj b), 1, [.string (sb (cntR s))]⟩]) [] 16 (by kernel_rfl) (by kernel_rfl) 22 (by kernel_rfl) ?_
      rw [hw38]
      have hM39 : Mem S w0 w37 [⟨37, 1, (obj b), 1, [.string (sb (cntR s))]⟩] := hw38 ▸ hM14.ext (Kept.drewN _ _ 1)
      have hS40 : Mem S w0 w37 [⟨37, 1, (obj b), 1, [.string (sb (cntR s))]⟩] := hM39.sub (List.Sublist.cons_cons _ (List.Sublist.refl _))
      refine GoH.takeV 0 (.int .i64 ((cntP s).1)) (.int .i64 ((cntP s).1)) (some 65) (fun W_ => by kernel_rfl) rfl hS40 ?_
      refine GoH.takeV 1 (.int .i64 ((cntP s).1)) (.int .i64 ((cntP s).1)) (some 66) (fun W_ => by kernel_rfl) rfl hS40 ?_
      refine GoH.takeF 2 (.bool true) (fun W_ => (IntKind.i64 = IntKind.i64) ∧ W_ = W_ ∧ Value.bool true = .bool ((cntP s).1 == (cntP s).1)) (some 67) (fun W_ => by kernel_rfl) (fun W_ hW_ => ⟨rfl, rfl, congrArg Value.bool (Eq.symm (beq_self_eq_true _))⟩) hS40 ?_
      refine GoH.takeV 3 (.bool true) (.bool true) (some 68) (fun W_ => by kernel_rfl) rfl hS40 ?_
      refine GoH.takeV 4 (.string (sb ([]))) (.string (sb ([]))) (some 69) (fun W_ => by kernel_rfl) rfl hS40 ?_
      refine GoH.takeV 5 (.string (sb ([]))) (.string (sb ([]))) (some 70) (fun W_ => by kernel_rfl) rfl hS40 ?_
      refine GoH.takeF 6 (.bool true) (fun W_ => (binOp .eql 9 (.string (sb ([]))) (.string (sb ([])))).run Try.prog W_ = .ok (.bool true) W_) (some 71) (fun W_ => by kernel_rfl) (fun W_ hW_ => f_streq_yes (rfl)) hS40 ?_
      refine GoH.takeV 7 (.bool true) (.bool true) (some 72) (fun W_ => by kernel_rfl) rfl hS40 ?_
      refine GoH.takeV 8 (.bool true) (.bool true) (some 73) (fun W_ => by kernel_rfl) rfl hS40 ?_
      refine GoH.takeV 9 (.int .i64 ((cntP s).2.2)) (.int .i64 ((cntP s).2.2)) (some 74) (fun W_ => by kernel_rfl) rfl hS40 ?_
      refine GoH.takeV 10 (.int .i64 ((cntP s).2.2)) (.int .i64 ((cntP s).2.2)) (some 75) (fun W_ => by kernel_rfl) rfl hS40 ?_
      refine GoH.takeF 11 (.bool true) (fun W_ => (IntKind.i64 = IntKind.i64) ∧ W_ = W_ ∧ Value.bool true = .bool ((cntP s).2.2 == (cntP s).2.2)) (some 76) (fun W_ => by kernel_rfl) (fun W_ hW_ => ⟨rfl, rfl, congrArg Value.bool (Eq.symm (beq_self_eq_true _))⟩) hS40 ?_
      refine GoH.takeV 12 (.bool true) (.bool true) (some 77) (fun W_ => by kernel_rfl) rfl hS40 ?_
      refine GoH.takeV 13 (.bool true) (.bool true) (some 78) (fun W_ => by kernel_rfl) rfl hS40 ?_
      refine GoH.takeV 14 (.pointer (some (⟨b, 0, none⟩))) (.pointer (some (⟨b, 0, none⟩))) (some 79) (fun W_ => by kernel_rfl) rfl hS40 ?_
      refine GoH.takeV 16 (.string (sb s)) (.string (sb s)) (some 81) (fun W_ => by kernel_rfl) rfl hS40 ?_
      refine GoH.takeV 17 (.int .i64 ((cntP s).2.1)) (.int .i64 ((cntP s).2.1)) (some 82) (fun W_ => by kernel_rfl) rfl hS40 ?_
      refine GoH.takeF 18 (.string (sb (List.drop (Int.toNat ((cntP s).2.1)) s))) (fun W_ => (Instr.sliceAt 9 (.string (sb s)) (some (.int .i64 ((cntP s).2.1))) none none).run Try.prog W_ = .ok (.string (sb (List.drop (Int.toNat ((cntP s).2.1)) s))) W_) (some 83) (fun W_ => by kernel_rfl) (fun W_ hW_ => f_slice_lo (Int.toNat ((cntP s).2.1)) (by kernel_rfl) (by omega) (by first | omega)) hS40 ?_
      refine GoH.callF 15 7 #[.pointer (some (⟨b, 0, none⟩))] (some 80) (by kernel_rfl) (crest_c (cntR s) b w37 (Mem.lend (R := [⟨37, 1, (obj b), 1, [.string (sb (cntR s))]⟩]) (L := []) hM39)) ?_
      rintro _ w41 ⟨rfl, m42⟩
      have hM43 : Mem S w0 w41 [⟨37, 1, (obj b), 1, [.string (sb (cntR s))]⟩] := Mem.back (R := [⟨37, 1, (obj b), 1, [.string (sb (cntR s))]⟩]) (L := []) hM39 m42
      have hS44 : Mem S w0 w41 [⟨37, 1, (obj b), 1, [.string (sb (cntR s))]⟩] := hM43.sub (List.Sublist.cons_cons _ (List.Sublist.refl _))
      refine ⟨.string (sb (cntR s)), rfl, .inr hS44, ?_⟩
      refine GoH.takeF 19 (.bool true) (fun W_ => (binOp .eql 9 (.string (sb (cntR s))) (.string (sb (List.drop (Int.toNat ((cntP s).2.1)) s)))).run Try.prog W_ = .ok (.bool true) W_) (some 84) (fun W_ => by kernel_rfl) (fun W_ hW_ => f_streq_yes (rfl)) hS44 ?_
      refine GoH.takeV 20 (.bool true) (.bool true) (some 85) (fun W_ => by kernel_rfl) rfl hS44 ?_
      refine GoH.takeV 21 (.bool true) (.bool true) (some 6) (fun W_ => by kernel_rfl) rfl hS44 ?_
      refine GoH.done [6] [(6, .bool true)] (by kernel_rfl) (by kernel_rfl) ?_
      refine GoS.ret (fn := Try.f8) (v := (.bool true)) Try.func8 (by kernel_rfl) ?_
      rw [hR]
      refine ⟨rfl, _, ?_, hM43⟩
      first | (unfold numR; rw [List.length_drop]; omega) | (unfold cntR; rw [List.length_drop]; omega) | (unfold txR; rw [List.length_drop]; omega) | (unfold blkR; rw [List.length_drop]; omega)
    ·
      have h8p : ¬ (k = 1) := p_ne h8
      refine GoS.run [0, 1, 7, 8, 52] [.n, .n, .n, .n, .n] _ [.code (csub (cd Try.f8) [1,1,1,1,0,1,0,1,1,1,1,1]), .inBlock 0, .code (csub (cd Try.f8) [1,1,1,1,1])] [(0, .pointer (some (⟨b, 0, none⟩))), (1, .string (sb s)), (7, .int .i64 0), (8, .int .i64 0), (52, .bool (k == 2))] w (by kernel_rfl) .nil ?_
      refine GoS.cond (k == 2) [.code (csub (cd Try.f8) [1,1,1,1,0,1,0,1,1,1,1,1,0]), .inBlock 0, .code (csub (cd Try.f8) [1,1,1,1,1])] [.code (csub (cd Try.f8) [1,1,1,1,0,1,0,1,1,1,1,1,1]), .inBlock 0, .code (csub (cd Try.f8) [1,1,1,1,1])] (by kernel_rfl) (fun h15 => ?_) (fun h15 => ?_)
      ·
        have h15p : k = 2 := eq_of_beq h15
        refine GoS.run [0, 1, 7, 8, 55] [.n, .n, .n] _ [.inRegion (cops (csub (cd Try.f8) [1,1,1,1,0,1,0,1,1,1,1,1,0,0])) [1,2,3,4,5,6], .code (csub (cd Try.f8) [1,1,1,1,0,1,0,1,1,1,1,1,0,1]), .inBlock 0, .code (csub (cd Try.f8) [1,1,1,1,1])] [(0, .pointer (some (⟨b, 0, none⟩))), (1, .string (sb s)), (7, .int .i64 0), (8, .int .i64 0), (55, .pointer (some (⟨b, 0, none⟩)))] w (by kernel_rfl) .nil ?_
        refine GoS.call [0, 1, 7, 8] 12 #[.pointer (some (⟨b, 0, none⟩))] (some 56) [.inRegion (cops (csub (cd Try.f8) [1,1,1,1,0,1,0,1,1,1,1,1,0,0])) [2,3,4,5,6], .code (csub (cd Try.f8) [1,1,1,1,0,1,0,1,1,1,1,1,0,1]), .inBlock 0, .code (csub (cd Try.f8) [1,1,1,1,1])] [(0, .pointer (some (⟨b, 0, none⟩))), (1, .string (sb s)), (7, .int .i64 0), (8, .int .i64 0)] (by kernel_rfl) (ctext_c s b (by omega) w (Mem.lend (R := [⟨37, 1, (obj b), 1, [.string (sb s)]⟩]) (L := []) hM)) ?_
        rintro _ w16 ⟨rfl, m17⟩
        refine ⟨_, rfl, ?_⟩
        have hM18 : Mem S w0 w16 [⟨37, 1, (obj b), 1, [.string (sb (txR s))]⟩] := Mem.back (R := [⟨37, 1, (obj b), 1, [.string (sb s)]⟩]) (L := []) hM m17
        have htx19 := txN_le s
        refine GoS.run [0, 1, 7, 8, 11, 13, 60] [.n, .n, .n, .n, .n, .n, .n, .n] _ [.inRegion (cops (csub (cd Try.f8) [1,1,1,1,0,1,0,1,1,1,1,1,0,1])) [1,2,3,4,5,6,7,8], .inBlock 0, .code (csub (cd Try.f8) [1,1,1,1,1])] [(0, .pointer (some (⟨b, 0, none⟩))), (1, .string (sb s)), (7, .int .i64 0), (8, .int .i64 0), (11, .string (sb (txS s))), (13, .int .i64 (txE s)), (60, .string (sb s))] w16 (by kernel_rfl) .nil ?_
        refine GoS.call [0, 1, 7, 8, 11, 13] 17 #[.string (sb s)] (some 61) [.inRegion (cops (csub (cd Try.f8) [1,1,1,1,0,1,0,1,1,1,1,1,0,1])) [2,3,4,5,6,7,8], .inBlock 0, .code (csub (cd Try.f8) [1,1,1,1,1])] [(0, .pointer (some (⟨b, 0, none⟩))), (1, .string (sb s)), (7, .int .i64 0), (8, .int .i64 0), (11, .string (sb (txS s))), (13, .int .i64 (txE s))] (by kernel_rfl) (rreadtext_c s (by omega) w16) ?_
        rintro _ _ ⟨rfl, rfl⟩
        refine ⟨_, rfl, ?_⟩
        have htx20 := txN_le s
        refine GoS.run [0, 1, 7, 8, 9, 10, 11, 12, 13] [.n, .n, .n, .n, .n, .n, .n, .n] _ [.inBlock 0, .code (csub (cd Try.f8) [1,1,1,1,1])] [(0, .pointer (some (⟨b, 0, none⟩))), (1, .string (sb s)), (7, .int .i64 0), (8, .int .i64 0), (9, .int .i64 (((txN s) : Nat) : Int)), (10, .int .i64 (txE s)), (11, .string (sb (txS s))), (12, .string (sb (txS s))), (13, .int .i64 (txE s))] w16 (by kernel_rfl) .nil ?_
        refine GoS.run [0, 1, 7, 8, 9, 10, 11, 12, 13] [.n, .n] _ [.code (csub (cd Try.f8) [1,1,1,1,1,0]), .code (csub (cd Try.f8) [1,1,1,1,1,1])] [(0, .pointer (some (⟨b, 0, none⟩))), (1, .string (sb s)), (7, .int .i64 0), (8, .int .i64 0), (9, .int .i64 (((txN s) : Nat) : Int)), (10, .int .i64 (txE s)), (11, .string (sb (txS s))), (12, .string (sb (txS s))), (13, .int .i64 (txE s))] w16 (by kernel_rfl) .nil ?_
        obtain ⟨w45, hw46⟩ : ∃ w_, (w16).drewN 1 = w_ := ⟨_, rfl⟩
        refine GoS.held (fun W_ => Mem S w0 W_ [⟨37, 1, (obj b), 1, [.string (sb (txR s))]⟩]) [] 16 (by kernel_rfl) (by kernel_rfl) 22 (by kernel_rfl) ?_
        rw [hw46]
        have hM47 : Mem S w0 w45 [⟨37, 1, (obj b), 1, [.string (sb (txR s))]⟩] := hw46 ▸ hM18.ext (Kept.drewN _ _ 1)
        have hS48 : Mem S w0 w45 [⟨37, 1, (obj b), 1, [.string (sb (txR s))]⟩] := hM47.sub (List.Sublist.cons_cons _ (List.Sublist.refl _))
        refine GoH.takeV 0 (.int .i64 0) (.int .i64 0) (some 65) (fun W_ => by kernel_rfl) rfl hS48 ?_
        refine GoH.takeV 1 (.int .i64 0) (.int .i64 0) (some 66) (fun W_ => by kernel_rfl) rfl hS48 ?_
        refine GoH.takeF 2 (.bool true) (fun W_ => (IntKind.i64 = IntKind.i64) ∧ W_ = W_ ∧ Value.bool true = .bool (0 == 0)) (some 67) (fun W_ => by kernel_rfl) (fun W_ hW_ => ⟨rfl, rfl, congrArg Value.bool (Eq.symm (beq_self_eq_true _))⟩) hS48 ?_
        refine GoH.takeV 3 (.bool true) (.bool true) (some 68) (fun W_ => by kernel_rfl) rfl hS48 ?_
        refine GoH.takeV 4 (.string (sb (txS s))) (.string (sb (txS s))) (some 69) (fun W_ => by kernel_rfl) rfl hS48 ?_
        refine GoH.takeV 5 (.string (sb (txS s))) (.string (sb (txS s))) (some 70) (fun W_ => by kernel_rfl) rfl hS48 ?_
        refine GoH.takeF 6 (.bool true) (fun W_ => (binOp .eql 9 (.string (sb (txS s))) (.string (sb (txS s)))).run Try.prog W_ = .ok (.bool true) W_) (some 71) (fun W_ => by kernel_rfl) (fun W_ hW_ => f_streq_yes (rfl)) hS48 ?_
        refine GoH.takeV 7 (.bool true) (.bool true) (some 72) (fun W_ => by kernel_rfl) rfl hS48 ?_
        refine GoH.takeV 8 (.bool true) (.bool true) (some 73) (fun W_ => by kernel_rfl) rfl hS48 ?_
        refine GoH.takeV 9 (.int .i64 (txE s)) (.int .i64 (txE s)) (some 74) (fun W_ => by kernel_rfl) rfl hS48 ?_
        refine GoH.takeV 10 (.int .i64 (txE s)) (.int .i64 (txE s)) (some 75) (fun W_ => by kernel_rfl) rfl hS48 ?_
        refine GoH.takeF 11 (.bool true) (fun W_ => (IntKind.i64 = IntKind.i64) ∧ W_ = W_ ∧ Value.bool true = .bool ((txE s) == (txE s))) (some 76) (fun W_ => by kernel_rfl) (fun W_ hW_ => ⟨rfl, rfl, congrArg Value.bool (Eq.symm (beq_self_eq_true _))⟩) hS48 ?_
        refine GoH.takeV 12 (.bool true) (.bool true) (some 77) (fun W_ => by kernel_rfl) rfl hS48 ?_
        refine GoH.takeV 13 (.bool true) (.bool true) (some 78) (fun W_ => by kernel_rfl) rfl hS48 ?_
        refine GoH.takeV 14 (.pointer (some (⟨b, 0, none⟩))) (.pointer (some (⟨b, 0, none⟩))) (some 79) (fun W_ => by kernel_rfl) rfl hS48 ?_
        refine GoH.takeV 16 (.string (sb s)) (.string (sb s)) (some 81) (fun W_ => by kernel_rfl) rfl hS48 ?_
        refine GoH.takeV 17 (.int .i64 (((txN s) : Nat) : Int)) (.int .i64 (((txN s) : Nat) : Int)) (some 82) (fun W_ => by kernel_rfl) rfl hS48 ?_
        refine GoH.takeF 18 (.string (sb (List.drop (txN s) s))) (fun W_ => (Instr.sliceAt 9 (.string (sb s)) (some (.int .i64 (((txN s) : Nat) : Int))) none none).run Try.prog W_ = .ok (.string (sb (List.drop (txN s) s))) W_) (some 83) (fun W_ => by kernel_rfl) (fun W_ hW_ => f_slice_lo (txN s) (by kernel_rfl) (by omega) (by first | omega)) hS48 ?_
        refine GoH.callF 15 7 #[.pointer (some (⟨b, 0, none⟩))] (some 80) (by kernel_rfl) (crest_c (txR s) b w45 (Mem.lend (R := [⟨37, 1, (obj b), 1, [.string (sb (txR s))]⟩]) (L := []) hM47)) ?_
        rintro _ w49 ⟨rfl, m50⟩
        have hM51 : Mem S w0 w49 [⟨37, 1, (obj b), 1, [.string (sb (txR s))]⟩] := Mem.back (R := [⟨37, 1, (obj b), 1, [.string (sb (txR s))]⟩]) (L := []) hM47 m50
        have hS52 : Mem S w0 w49 [⟨37, 1, (obj b), 1, [.string (sb (txR s))]⟩] := hM51.sub (List.Sublist.cons_cons _ (List.Sublist.refl _))
        refine ⟨.string (sb (txR s)), rfl, .inr hS52, ?_⟩
        refine GoH.takeF 19 (.bool true) (fun W_ => (binOp .eql 9 (.string (sb (txR s))) (.string (sb (List.drop (txN s) s)))).run Try.prog W_ = .ok (.bool true) W_) (some 84) (fun W_ => by kernel_rfl) (fun W_ hW_ => f_streq_yes (rfl)) hS52 ?_
        refine GoH.takeV 20 (.bool true) (.bool true) (some 85) (fun W_ => by kernel_rfl) rfl hS52 ?_
        refine GoH.takeV 21 (.bool true) (.bool true) (some 6) (fun W_ => by kernel_rfl) rfl hS52 ?_
        refine GoH.done [6] [(6, .bool true)] (by kernel_rfl) (by kernel_rfl) ?_
        refine GoS.ret (fn := Try.f8) (v := (.bool true)) Try.func8 (by kernel_rfl) ?_
        rw [hR]
        refine ⟨rfl, _, ?_, hM51⟩
        first | (unfold numR; rw [List.length_drop]; omega) | (unfold cntR; rw [List.length_drop]; omega) | (unfold txR; rw [List.length_drop]; omega) | (unfold blkR; rw [List.length_drop]; omega)
      ·
        have h15p : ¬ (k = 2) := p_ne h15
        refine GoS.run [0, 1, 7, 8, 16] [.n, .n, .n] _ [.inRegion (cops (csub (cd Try.f8) [1,1,1,1,0,1,0,1,1,1,1,1,1,0])) [1,2,3,4,5,6], .code (csub (cd Try.f8) [1,1,1,1,0,1,0,1,1,1,1,1,1,1]), .inBlock 0, .code (csub (cd Try.f8) [1,1,1,1,1])] [(0, .pointer (some (⟨b, 0, none⟩))), (1, .string (sb s)), (7, .int .i64 0), (8, .int .i64 0), (16, .pointer (some (⟨b, 0, none⟩)))] w (by kernel_rfl) .nil ?_
        refine GoS.call [0, 1, 7, 8] 13 #[.pointer (some (⟨b, 0, none⟩))] (some 17) [.inRegion (cops (csub (cd Try.f8) [1,1,1,1,0,1,0,1,1,1,1,1,1,0])) [2,3,4,5,6], .code (csub (cd Try.f8) [1,1,1,1,0,1,0,1,1,1,1,1,1,1]), .inBlock 0, .code (csub (cd Try.f8) [1,1,1,1,1])] [(0, .pointer (some (⟨b, 0, none⟩))), (1, .string (sb s)), (7, .int .i64 0), (8, .int .i64 0)] (by kernel_rfl) (cblock_c s b w (Mem.lend (R := [⟨37, 1, (obj b), 1, [.string (sb s)]⟩]) (L := []) hM)) ?_
        rintro _ w21 ⟨rfl, m22⟩
        refine ⟨_, rfl, ?_⟩
        have hM23 : Mem S w0 w21 [⟨37, 1, (obj b), 1, [.string (sb (blkR s))]⟩] := Mem.back (R := [⟨37, 1, (obj b), 1, [.string (sb s)]⟩]) (L := []) hM m22
        refine GoS.run [0, 1, 7, 8, 11, 13, 21] [.n, .n, .n, .n, .n, .n, .n, .n] _ [.inRegion (cops (csub (cd Try.f8) [1,1,1,1,0,1,0,1,1,1,1,1,1,1])) [1,2,3,4,5,6,7,8], .inBlock 0, .code (csub (cd Try.f8) [1,1,1,1,1])] [(0, .pointer (some (⟨b, 0, none⟩))), (1, .string (sb s)), (7, .int .i64 0), (8, .int .i64 0), (11, .string (sb (blkS s))), (13, .int .i64 (blkE s)), (21, .string (sb s))] w21 (by kernel_rfl) .nil ?_
        refine GoS.call [0, 1, 7, 8, 11, 13] 18 #[.string (sb s)] (some 22) [.inRegion (cops (csub (cd Try.f8) [1,1,1,1,0,1,0,1,1,1,1,1,1,1])) [2,3,4,5,6,7,8], .inBlock 0, .code (csub (cd Try.f8) [1,1,1,1,1])] [(0, .pointer (some (⟨b, 0, none⟩))), (1, .string (sb s)), (7, .int .i64 0), (8, .int .i64 0), (11, .string (sb (blkS s))), (13, .int .i64 (blkE s))] (by kernel_rfl) (rreadblock_c s (by omega) w21) ?_
        rintro _ w24 ⟨rfl, m25⟩
        refine ⟨_, rfl, ?_⟩
        have hM26 := Mem.join hM23 m25
        have hn27 := blkN_le s
        have hn28 := blkS_len s
        refine GoS.run [0, 1, 7, 8, 9, 10, 11, 12, 13] [.n, .n, .n, .n, .n, .n, .n, .n] _ [.inBlock 0, .code (csub (cd Try.f8) [1,1,1,1,1])] [(0, .pointer (some (⟨b, 0, none⟩))), (1, .string (sb s)), (7, .int .i64 0), (8, .int .i64 0), (9, .int .i64 (((blkN s) : Nat) : Int)), (10, .int .i64 (blkE s)), (11, .string (sb (blkS s))), (12, .string (sb (blkS s))), (13, .int .i64 (blkE s))] w24 (by kernel_rfl) .nil ?_
        refine GoS.run [0, 1, 7, 8, 9, 10, 11, 12, 13] [.n, .n] _ [.code (csub (cd Try.f8) [1,1,1,1,1,0]), .code (csub (cd Try.f8) [1,1,1,1,1,1])] [(0, .pointer (some (⟨b, 0, none⟩))), (1, .string (sb s)), (7, .int .i64 0), (8, .int .i64 0), (9, .int .i64 (((blkN s) : Nat) : Int)), (10, .int .i64 (blkE s)), (11, .string (sb (blkS s))), (12, .string (sb (blkS s))), (13, .int .i64 (blkE s))] w24 (by kernel_rfl) .nil ?_
        obtain ⟨w53, hw54⟩ : ∃ w_, (w24).drewN 1 = w_ := ⟨_, rfl⟩
        refine GoS.held (fun W_ => Mem S w0 W_ [⟨37, 1, (obj b), 1, [.string (sb (blkR s))]⟩]) [] 16 (by kernel_rfl) (by kernel_rfl) 22 (by kernel_rfl) ?_
        rw [hw54]
        have hM55 : Mem S w0 w53 [⟨37, 1, (obj b), 1, [.string (sb (blkR s))]⟩] := hw54 ▸ hM26.ext (Kept.drewN _ _ 1)
        have hS56 : Mem S w0 w53 [⟨37, 1, (obj b), 1, [.string (sb (blkR s))]⟩] := hM55.sub (List.Sublist.cons_cons _ (List.Sublist.refl _))
        refine GoH.takeV 0 (.int .i64 0) (.int .i64 0) (some 65) (fun W_ => by kernel_rfl) rfl hS56 ?_
        refine GoH.takeV 1 (.int .i64 0) (.int .i64 0) (some 66) (fun W_ => by kernel_rfl) rfl hS56 ?_
        refine GoH.takeF 2 (.bool true) (fun W_ => (IntKind.i64 = IntKind.i64) ∧ W_ = W_ ∧ Value.bool true = .bool (0 == 0)) (some 67) (fun W_ => by kernel_rfl) (fun W_ hW_ => ⟨rfl, rfl, congrArg Value.bool (Eq.symm (beq_self_eq_true _))⟩) hS56 ?_
        refine GoH.takeV 3 (.bool true) (.bool true) (some 68) (fun W_ => by kernel_rfl) rfl hS56 ?_
        refine GoH.takeV 4 (.string (sb (blkS s))) (.string (sb (blkS s))) (some 69) (fun W_ => by kernel_rfl) rfl hS56 ?_
        refine GoH.takeV 5 (.string (sb (blkS s))) (.string (sb (blkS s))) (some 70) (fun W_ => by kernel_rfl) rfl hS56 ?_
        refine GoH.takeF 6 (.bool true) (fun W_ => (binOp .eql 9 (.string (sb (blkS s))) (.string (sb (blkS s)))).run Try.prog W_ = .ok (.bool true) W_) (some 71) (fun W_ => by kernel_rfl) (fun W_ hW_ => f_streq_yes (rfl)) hS56 ?_
        refine GoH.takeV 7 (.bool true) (.bool true) (some 72) (fun W_ => by kernel_rfl) rfl hS56 ?_
        refine GoH.takeV 8 (.bool true) (.bool true) (some 73) (fun W_ => by kernel_rfl) rfl hS56 ?_
        refine GoH.takeV 9 (.int .i64 (blkE s)) (.int .i64 (blkE s)) (some 74) (fun W_ => by kernel_rfl) rfl hS56 ?_
        refine GoH.takeV 10 (.int .i64 (blkE s)) (.int .i64 (blkE s)) (some 75) (fun W_ => by kernel_rfl) rfl hS56 ?_
        refine GoH.takeF 11 (.bool true) (fun W_ => (IntKind.i64 = IntKind.i64) ∧ W_ = W_ ∧ Value.bool true = .bool ((blkE s) == (blkE s))) (some 76) (fun W_ => by kernel_rfl) (fun W_ hW_ => ⟨rfl, rfl, congrArg Value.bool (Eq.symm (beq_self_eq_true _))⟩) hS56 ?_
        refine GoH.takeV 12 (.bool true) (.bool true) (some 77) (fun W_ => by kernel_rfl) rfl hS56 ?_
        refine GoH.takeV 13 (.bool true) (.bool true) (some 78) (fun W_ => by kernel_rfl) rfl hS56 ?_
        refine GoH.takeV 14 (.pointer (some (⟨b, 0, none⟩))) (.pointer (some (⟨b, 0, none⟩))) (some 79) (fun W_ => by kernel_rfl) rfl hS56 ?_
        refine GoH.takeV 16 (.string (sb s)) (.string (sb s)) (some 81) (fun W_ => by kernel_rfl) rfl hS56 ?_
        refine GoH.takeV 17 (.int .i64 (((blkN s) : Nat) : Int)) (.int .i64 (((blkN s) : Nat) : Int)) (some 82) (fun W_ => by kernel_rfl) rfl hS56 ?_
        refine GoH.takeF 18 (.string (sb (List.drop (blkN s) s))) (fun W_ => (Instr.sliceAt 9 (.string (sb s)) (some (.int .i64 (((blkN s) : Nat) : Int))) none none).run Try.prog W_ = .ok (.string (sb (List.drop (blkN s) s))) W_) (some 83) (fun W_ => by kernel_rfl) (fun W_ hW_ => f_slice_lo (blkN s) (by kernel_rfl) (by omega) (by first | omega)) hS56 ?_
        refine GoH.callF 15 7 #[.pointer (some (⟨b, 0, none⟩))] (some 80) (by kernel_rfl) (crest_c (blkR s) b w53 (Mem.lend (R := [⟨37, 1, (obj b), 1, [.string (sb (blkR s))]⟩]) (L := []) hM55)) ?_
        rintro _ w57 ⟨rfl, m58⟩
        have hM59 : Mem S w0 w57 [⟨37, 1, (obj b), 1, [.string (sb (blkR s))]⟩] := Mem.back (R := [⟨37, 1, (obj b), 1, [.string (sb (blkR s))]⟩]) (L := []) hM55 m58
        have hS60 : Mem S w0 w57 [⟨37, 1, (obj b), 1, [.string (sb (blkR s))]⟩] := hM59.sub (List.Sublist.cons_cons _ (List.Sublist.refl _))
        refine ⟨.string (sb (blkR s)), rfl, .inr hS60, ?_⟩
        refine GoH.takeF 19 (.bool true) (fun W_ => (binOp .eql 9 (.string (sb (blkR s))) (.string (sb (List.drop (blkN s) s)))).run Try.prog W_ = .ok (.bool true) W_) (some 84) (fun W_ => by kernel_rfl) (fun W_ hW_ => f_streq_yes (rfl)) hS60 ?_
        refine GoH.takeV 20 (.bool true) (.bool true) (some 85) (fun W_ => by kernel_rfl) rfl hS60 ?_
        refine GoH.takeV 21 (.bool true) (.bool true) (some 6) (fun W_ => by kernel_rfl) rfl hS60 ?_
        refine GoH.done [6] [(6, .bool true)] (by kernel_rfl) (by kernel_rfl) ?_
        refine GoS.ret (fn := Try.f8) (v := (.bool true)) Try.func8 (by kernel_rfl) ?_
        rw [hR]
        refine ⟨rfl, _, ?_, hM59⟩
        first | (unfold numR; rw [List.length_drop]; omega) | (unfold cntR; rw [List.length_drop]; omega) | (unfold txR; rw [List.length_drop]; omega) | (unfold blkR; rw [List.length_drop]; omega)

set_option maxHeartbeats 400000 in
theorem lgoes_L {w0 : World} (u : Value) (l : List Int) (hu : Rd w0 1 u l.length (ivals .u8 l)) (hw : ∀ j, 0 ≤ l.getD j 0 ∧ l.getD j 0 ≤ 255) (b : Nat) (R : Ending → World → Prop) (hR : R = (fun e w' => e = .returned (.bool true) ∧ Below w0.heap.size w0 w')) : ∀ (N : Nat) (s : List UInt8) (k : Nat) (w : World) (hk : k ≤ l.length) (hs : s.length ≤ 140737488355327) (hM : Mem [] w0 w [⟨37, 1, (obj b), 1, [.string (sb s)]⟩]) (hN : l.length - k < N), GoS Try.prog 3 R 59 [.code (csub (cd Try.f3) [1,1,1,0,1,0,0]), .inLoop (csub (cd Try.f3) [1,1,1,0,1,0,0]), .inBlock 0, .code (csub (cd Try.f3) [1,1,1,1])] [(1, u), (5, .pointer (some (⟨b, 0, none⟩))), (6, .int .i64 ((k : Nat) : Int))] w := by
  intro N
  induction N with
  | zero => intro s k w hk hs hM hN; exact absurd hN (Nat.not_lt_zero _)
  | succ N ih =>
    intro s k w hk hs hM hN
    have hat := hw
    have hll := rd_len hu
    simp only [maxLen] at hll
    have o1 : (Builtin.len_ #[22] 3 #[u]).run Try.prog w = .ok (.int .i64 (((List.length l) : Nat) : Int)) w := f_slen sT22 (hu.kept0 hM.kept) 3 _
    refine GoS.run [1, 5, 6, 25] [.n, .n, .n, .n, .n, .h (.int .i64 (((List.length l) : Nat) : Int)), .n, .n] _ [.inRegion (cops (csub (cd Try.f3) [1,1,1,0,1,0,0,0,0])) [5,6,7], .code (csub (cd Try.f3) [1,1,1,0,1,0,0,0,1]), .code (csub (cd Try.f3) [1,1,1,0,1,0,0,1]), .inLoop (csub (cd Try.f3) [1,1,1,0,1,0,0]), .inBlock 0, .code (csub (cd Try.f3) [1,1,1,1])] [(1, u), (5, .pointer (some (⟨b, 0, none⟩))), (6, .int .i64 ((k : Nat) : Int)), (25, .bool (decide (((k : Nat) : Int) < (((List.length l) : Nat) : Int))))] w (by kernel_rfl) (.cons o1 .nil) ?_
    refine GoS.fork 25 (decide (((k : Nat) : Int) < (((List.length l) : Nat) : Int))) (by kernel_rfl) (fun h2 => ?_) (fun h2 => ?_)
    ·
      have h2p : ((k : Nat) : Int) < (((List.length l) : Nat) : Int) := of_decide_eq_true h2
      refine GoS.run [1, 5, 6, 28] [.n, .n, .n] _ [.inRegion (cops (csub (cd Try.f3) [1,1,1,0,1,0,0,0,0])) [], .code (csub (cd Try.f3) [1,1,1,0,1,0,0,0,1]), .code (csub (cd Try.f3) [1,1,1,0,1,0,0,1]), .inLoop (csub (cd Try.f3) [1,1,1,0,1,0,0]), .inBlock 0, .code (csub (cd Try.f3) [1,1,1,1])] [(1, u), (5, .pointer (some (⟨b, 0, none⟩))), (6, .int .i64 ((k : Nat) : Int)), (28, .bool (decide (((k : Nat) : Int) < 200)))] w (by kernel_rfl) .nil ?_
      refine GoS.run [1, 5, 6, 28] [.n] _ [.code (csub (cd Try.f3) [1,1,1,0,1,0,0,0,1]), .code (csub (cd Try.f3) [1,1,1,0,1,0,0,1]), .inLoop (csub (cd Try.f3) [1,1,1,0,1,0,0]), .inBlock 0, .code (csub (cd Try.f3) [1,1,1,1])] [(1, u), (5, .pointer (some (⟨b, 0, none⟩))), (6, .int .i64 ((k : Nat) : Int)), (28, .bool (decide (((k : Nat) : Int) < 200)))] w (by kernel_rfl) .nil ?_
      refine GoS.cond (decide (((k : Nat) : Int) < 200)) [.code (csub (cd Try.f3) [1,1,1,0,1,0,0,0,1,0]), .code (csub (cd Try.f3) [1,1,1,0,1,0,0,1]), .inLoop (csub (cd Try.f3) [1,1,1,0,1,0,0]), .inBlock 0, .code (csub (cd Try.f3) [1,1,1,1])] [.code (csub (cd Try.f3) [1,1,1,0,1,0,0,0,1,1]), .code (csub (cd Try.f3) [1,1,1,0,1,0,0,1]), .inLoop (csub (cd Try.f3) [1,1,1,0,1,0,0]), .inBlock 0, .code (csub (cd Try.f3) [1,1,1,1])] (by kernel_rfl) (fun h3 => ?_) (fun h3 => ?_)
      ·
        have h3p : ((k : Nat) : Int) < 200 := of_decide_eq_true h3
        refine GoS.run [1, 5, 6] [.n] _ [.code (csub (cd Try.f3) [1,1,1,0,1,0,0,1]), .inLoop (csub (cd Try.f3) [1,1,1,0,1,0,0]), .inBlock 0, .code (csub (cd Try.f3) [1,1,1,1])] [(1, u), (5, .pointer (some (⟨b, 0, none⟩))), (6, .int .i64 ((k : Nat) : Int))] w (by kernel_rfl) .nil ?_
        refine GoS.run [1, 5, 6] [.n, .n, .n] _ [.code (csub (cd Try.f3) [1,1,1,0,1,0,0,1,0,0,0]), .code (csub (cd Try.f3) [1,1,1,0,1,0,0,1,0,0,1]), .inBlock 1, .code (csub (cd Try.f3) [1,1,1,0,1,0,0,1,1]), .inLoop (csub (cd Try.f3) [1,1,1,0,1,0,0]), .inBlock 0, .code (csub (cd Try.f3) [1,1,1,1])] [(1, u), (5, .pointer (some (⟨b, 0, none⟩))), (6, .int .i64 ((k : Nat) : Int))] w (by kernel_rfl) .nil ?_
        obtain ⟨w22, hw23⟩ : ∃ w_, (w).drewN 1 = w_ := ⟨_, rfl⟩
        refine GoS.held (fun W_ => Mem [] w0 W_ []) [] 7 (by kernel_rfl) (by kernel_rfl) 11 (by kernel_rfl) ?_
        rw [hw23]
        have hM24 : Mem [] w0 w22 [⟨37, 1, (obj b), 1, [.string (sb s)]⟩] := hw23 ▸ hM.ext (Kept.drewN _ _ 1)
        have hS25 : Mem [] w0 w22 [] := hM24.sub (List.Sublist.cons _ (List.Sublist.refl _))
        refine GoH.takeV 0 (.pointer (some (⟨b, 0, none⟩))) (.pointer (some (⟨b, 0, none⟩))) (some 31) (fun W_ => by kernel_rfl) rfl hS25 ?_
        refine GoH.takeV 1 (.pointer (some (⟨b, 0, none⟩))) (.pointer (some (⟨b, 0, none⟩))) (some 32) (fun W_ => by kernel_rfl) rfl hS25 ?_
        refine GoH.takeV 3 (u) (u) (some 34) (fun W_ => by kernel_rfl) rfl hS25 ?_
        refine GoH.takeV 4 (.int .i64 ((k : Nat) : Int)) (.int .i64 ((k : Nat) : Int)) (some 35) (fun W_ => by kernel_rfl) rfl hS25 ?_
        obtain ⟨p26, hp27, hq28⟩ := rd_at (i := ((k : Nat) : Int)) sT22 (hu.kept0 hS25.kept) k (by omega) (by first | omega | (dsimp only; omega))
        refine GoH.takeF 5 (.pointer (some p26)) (fun W_ => (Instr.indexAt 22 (u) (.int .i64 ((k : Nat) : Int))).run Try.prog W_ = .ok (.pointer (some p26)) W_) (some 36) (fun W_ => by kernel_rfl) (fun W_ hW_ => hq28 _ _) hS25 ?_
        have hb29 := hat k
        refine GoH.takeF 6 (.int .u8 (List.getD l k 0)) (fun W_ => (Instr.loadAt 5 (.pointer (some p26))).run Try.prog W_ = .ok (.int .u8 (List.getD l k 0)) W_) (some 37) (fun W_ => by kernel_rfl) (fun W_ hW_ => at_load pE5 (hu.kept0 hW_.kept) hp27 (ivals_at (by first | omega | (dsimp only; omega)))) hS25 ?_
        refine GoH.takeF 7 (.int .u8 ((List.getD l k 0) % 4)) (fun W_ => (binOp .rem 5 (.int .u8 (List.getD l k 0)) (.int .u8 4)).run Try.prog W_ = .ok (.int .u8 ((List.getD l k 0) % 4)) W_) (some 38) (fun W_ => by kernel_rfl) (fun W_ hW_ => f_rem (by decide) (IntWalk.rem_in _ _ (by omega))) hS25 ?_
        refine GoH.takeF 8 (.int .i64 ((List.getD l k 0) % 4)) (fun W_ => (convert 5 3 (.int .u8 ((List.getD l k 0) % 4))).run Try.prog W_ = .ok (.int .i64 ((List.getD l k 0) % 4)) W_) (some 39) (fun W_ => by kernel_rfl) (fun W_ hW_ => f_conv (u := .int .u8) (by kernel_rfl) (by kernel_rfl) (IntWalk.i64_in _ (by omega))) hS25 ?_
        refine GoH.callF 2 7 #[.pointer (some (⟨b, 0, none⟩))] (some 33) (by kernel_rfl) (crest_c s b w22 (Mem.lend (R := [⟨37, 1, (obj b), 1, [.string (sb s)]⟩]) (L := []) hM24)) ?_
        rintro _ w30 ⟨rfl, m31⟩
        have hM32 : Mem [] w0 w30 [⟨37, 1, (obj b), 1, [.string (sb s)]⟩] := Mem.back (R := [⟨37, 1, (obj b), 1, [.string (sb s)]⟩]) (L := []) hM24 m31
        have hS33 : Mem [] w0 w30 [] := hM32.sub (List.Sublist.cons _ (List.Sublist.refl _))
        refine ⟨.string (sb s), rfl, .inr hS33, ?_⟩
        refine GoH.callF 9 8 #[.pointer (some (⟨b, 0, none⟩)), .string (sb s), .int .i64 ((List.getD l k 0) % 4)] (some 40) (by kernel_rfl) (went_c s b ((List.getD l k 0) % 4) (by omega) w30 (Mem.lend (R := [⟨37, 1, (obj b), 1, [.string (sb s)]⟩]) (L := []) hM32)) ?_
        rintro _ w34 ⟨rfl, s36, hl37, m35⟩
        have hM38 : Mem [] w0 w34 [⟨37, 1, (obj b), 1, [.string (sb s36)]⟩] := Mem.back (R := [⟨37, 1, (obj b), 1, [.string (sb s)]⟩]) (L := []) hM32 m35
        have hS39 : Mem [] w0 w34 [] := hM38.sub (List.Sublist.cons _ (List.Sublist.refl _))
        refine ⟨.bool true, rfl, .inr hS39, ?_⟩
        refine GoH.takeV 10 (.bool false) (.bool false) (some 41) (fun W_ => by kernel_rfl) rfl hS39 ?_
        refine GoH.done [1, 5, 6, 41] [(1, u), (5, .pointer (some (⟨b, 0, none⟩))), (6, .int .i64 ((k : Nat) : Int)), (41, .bool false)] (by kernel_rfl) (by kernel_rfl) ?_
        have o40 : (binOp .add 3 (.int .i64 ((k : Nat) : Int)) (.int .i64 1)).run Try.prog w34 = .ok (.int .i64 (((k + 1) : Nat) : Int)) w34 := f_add (by rw [show ((k : Nat) : Int) + 1 = (((k + 1) : Nat) : Int) by omega]; exact IntWalk.i64_in _ (by omega))
        refine GoS.run [1, 5, 6] [.n, .n, .n, .n, .n, .h (.int .i64 (((k + 1) : Nat) : Int)), .n, .n, .n] _ [.code (csub (cd Try.f3) [1,1,1,0,1,0,0]), .inLoop (csub (cd Try.f3) [1,1,1,0,1,0,0]), .inBlock 0, .code (csub (cd Try.f3) [1,1,1,1])] [(1, u), (5, .pointer (some (⟨b, 0, none⟩))), (6, .int .i64 (((k + 1) : Nat) : Int))] w34 (by kernel_rfl) (.cons o40 .nil) ?_
        exact ih s36 (k + 1) _ (by omega) (by omega) hM38 (by omega)
      ·
        have h3p : ¬ (((k : Nat) : Int) < 200) := of_decide_eq_false h3
        refine GoS.run [5, 42] [.n, .n, .n, .n] _ [.inRegion (cops (csub (cd Try.f3) [1,1,1,1,0])) [1,2,3,4,5,6,7,8,9,10,11,12,13,14,15,16,17], .code (csub (cd Try.f3) [1,1,1,1,1])] [(5, .pointer (some (⟨b, 0, none⟩))), (42, .pointer (some (⟨b, 0, none⟩)))] w (by kernel_rfl) .nil ?_
        refine GoS.call [5] 9 #[.pointer (some (⟨b, 0, none⟩))] (some 43) [.inRegion (cops (csub (cd Try.f3) [1,1,1,1,0])) [2,3,4,5,6,7,8,9,10,11,12,13,14,15,16,17], .code (csub (cd Try.f3) [1,1,1,1,1])] [(5, .pointer (some (⟨b, 0, none⟩)))] (by kernel_rfl) (cend_c s b w (Mem.lend (R := [⟨37, 1, (obj b), 1, [.string (sb s)]⟩]) (L := []) hM)) ?_
        rintro _ w4 ⟨rfl, m5⟩
        refine ⟨_, rfl, ?_⟩
        have hM6 : Mem [] w0 w4 [⟨37, 1, (obj b), 1, [.string (sb s)]⟩] := Mem.back (R := [⟨37, 1, (obj b), 1, [.string (sb s)]⟩]) (L := []) hM m5
        refine GoS.run [5, 44, 45] [.n, .n] _ [.inRegion (cops (csub (cd Try.f3) [1,1,1,1,0])) [4,5,6,7,8,9,10,11,12,13,14,15,16,17], .code (csub (cd Try.f3) [1,1,1,1,1])] [(5, .pointer (some (⟨b, 0, none⟩))), (44, .bool ((endE s) == 0)), (45, .pointer (some (⟨b, 0, none⟩)))] w4 (by kernel_rfl) .nil ?_
        refine GoS.call [5, 44] 7 #[.pointer (some (⟨b, 0, none⟩))] (some 46) [.inRegion (cops (csub (cd Try.f3) [1,1,1,1,0])) [5,6,7,8,9,10,11,12,13,14,15,16,17], .code (csub (cd Try.f3) [1,1,1,1,1])] [(5, .pointer (some (⟨b, 0, none⟩))), (44, .bool ((endE s) == 0))] (by kernel_rfl) (crest_c s b w4 (Mem.lend (R := [⟨37, 1, (obj b), 1, [.string (sb s)]⟩]) (L := []) hM6)) ?_
        rintro _ w7 ⟨rfl, m8⟩
        refine ⟨_, rfl, ?_⟩
        have hM9 : Mem [] w0 w7 [⟨37, 1, (obj b), 1, [.string (sb s)]⟩] := Mem.back (R := [⟨37, 1, (obj b), 1, [.string (sb s)]⟩]) (L := []) hM6 m8
        have o10 : (binOp .eql 9 (.string (sb s)) (.string (sb ([])))).run Try.prog w7 = .ok (.bool (decide (s = []))) w7 := f_streq
        have o11 : Try.prog.underlying 4 = some .bool ∧ w7 = w7 ∧ Value.bool true = .bool (((endE s) == 0) == (decide (s = []))) := ⟨by kernel_rfl, rfl, congrArg Value.bool (Eq.symm (end_iff _))⟩
        refine GoS.run [5, 49, 50] [.h (.bool (decide (s = []))), .h (.bool true), .n, .n] _ [.inRegion (cops (csub (cd Try.f3) [1,1,1,1,0])) [9,10,11,12,13,14,15,16,17], .code (csub (cd Try.f3) [1,1,1,1,1])] [(5, .pointer (some (⟨b, 0, none⟩))), (49, .bool true), (50, .pointer (some (⟨b, 0, none⟩)))] w7 (by kernel_rfl) (.cons o10 (.cons o11 .nil)) ?_
        refine GoS.call [5, 49] 9 #[.pointer (some (⟨b, 0, none⟩))] (some 51) [.inRegion (cops (csub (cd Try.f3) [1,1,1,1,0])) [10,11,12,13,14,15,16,17], .code (csub (cd Try.f3) [1,1,1,1,1])] [(5, .pointer (some (⟨b, 0, none⟩))), (49, .bool true)] (by kernel_rfl) (cend_c s b w7 (Mem.lend (R := [⟨37, 1, (obj b), 1, [.string (sb s)]⟩]) (L := []) hM9)) ?_
        rintro _ w12 ⟨rfl, m13⟩
        refine ⟨_, rfl, ?_⟩
        have hM14 : Mem [] w0 w12 [⟨37, 1, (obj b), 1, [.string (sb s)]⟩] := Mem.back (R := [⟨37, 1, (obj b), 1, [.string (sb s)]⟩]) (L := []) hM9 m13
        refine GoS.run [5, 49, 53] [.n, .n] _ [.inRegion (cops (csub (cd Try.f3) [1,1,1,1,0])) [12,13,14,15,16,17], .code (csub (cd Try.f3) [1,1,1,1,1])] [(5, .pointer (some (⟨b, 0, none⟩))), (49, .bool true), (53, .bool ((endE s) == 0))] w12 (by kernel_rfl) .nil ?_
        refine GoS.fork 53 ((endE s) == 0) (by kernel_rfl) (fun h15 => ?_) (fun h15 => ?_)
        ·
          have h15p : (endE s) = 0 := eq_of_beq h15
          have hM16 : Mem [] w0 w12 [] := hM14.sub (List.Sublist.cons _ (List.Sublist.refl _))
          refine GoS.run [4] [.n, .n, .n, .n, .n, .n] _ [.inRegion (cops (csub (cd Try.f3) [1,1,1,1,0])) [], .code (csub (cd Try.f3) [1,1,1,1,1])] [(4, .bool true)] w12 (by kernel_rfl) .nil ?_
          refine GoS.run [4] [.n] _ [.code (csub (cd Try.f3) [1,1,1,1,1])] [(4, .bool true)] w12 (by kernel_rfl) .nil ?_
          refine GoS.ret (fn := Try.f3) (v := (.bool true)) Try.func3 (by kernel_rfl) ?_
          rw [hR]
          exact ⟨rfl, hM16.below⟩
        ·
          have h15p : ¬ ((endE s) = 0) := p_ne h15
          refine GoS.run [49, 53, 54] [.n] _ [.inRegion (cops (csub (cd Try.f3) [1,1,1,1,0])) [13,14,15,16,17], .code (csub (cd Try.f3) [1,1,1,1,1])] [(49, .bool true), (53, .bool false), (54, .pointer (some (⟨b, 0, none⟩)))] w12 (by kernel_rfl) .nil ?_
          refine GoS.call [49, 53] 9 #[.pointer (some (⟨b, 0, none⟩))] (some 55) [.inRegion (cops (csub (cd Try.f3) [1,1,1,1,0])) [14,15,16,17], .code (csub (cd Try.f3) [1,1,1,1,1])] [(49, .bool true), (53, .bool false)] (by kernel_rfl) (cend_c s b w12 (Mem.lend (R := [⟨37, 1, (obj b), 1, [.string (sb s)]⟩]) (L := []) hM14)) ?_
          rintro _ w17 ⟨rfl, m18⟩
          refine ⟨_, rfl, ?_⟩
          have hM19 : Mem [] w0 w17 [⟨37, 1, (obj b), 1, [.string (sb s)]⟩] := Mem.back (R := [⟨37, 1, (obj b), 1, [.string (sb s)]⟩]) (L := []) hM14 m18
          have o20 : (IntKind.i64 = IntKind.i64) ∧ w17 = w17 ∧ Value.bool true = .bool ((endE s) == 5) := ⟨rfl, rfl, congrArg Value.bool (Eq.symm (beq_iff_eq.2 (end_five h15p)))⟩
          have hM21 : Mem [] w0 w17 [] := hM19.sub (List.Sublist.cons _ (List.Sublist.refl _))
          refine GoS.run [4] [.h (.bool true), .n, .n, .n] _ [.inRegion (cops (csub (cd Try.f3) [1,1,1,1,0])) [], .code (csub (cd Try.f3) [1,1,1,1,1])] [(4, .bool true)] w17 (by kernel_rfl) (.cons o20 .nil) ?_
          refine GoS.run [4] [.n] _ [.code (csub (cd Try.f3) [1,1,1,1,1])] [(4, .bool true)] w17 (by kernel_rfl) .nil ?_
          refine GoS.ret (fn := Try.f3) (v := (.bool true)) Try.func3 (by kernel_rfl) ?_
          rw [hR]
          exact ⟨rfl, hM21.below⟩
    ·
      have h2p : ¬ (((k : Nat) : Int) < (((List.length l) : Nat) : Int)) := of_decide_eq_false h2
      refine GoS.run [1, 5, 6, 28] [.n, .n, .n] _ [.inRegion (cops (csub (cd Try.f3) [1,1,1,0,1,0,0,0,0])) [], .code (csub (cd Try.f3) [1,1,1,0,1,0,0,0,1]), .code (csub (cd Try.f3) [1,1,1,0,1,0,0,1]), .inLoop (csub (cd Try.f3) [1,1,1,0,1,0,0]), .inBlock 0, .code (csub (cd Try.f3) [1,1,1,1])] [(1, u), (5, .pointer (some (⟨b, 0, none⟩))), (6, .int .i64 ((k : Nat) : Int)), (28, .bool false)] w (by kernel_rfl) .nil ?_
      refine GoS.run [5, 42] [.n, .n, .n, .n, .n, .n] _ [.inRegion (cops (csub (cd Try.f3) [1,1,1,1,0])) [1,2,3,4,5,6,7,8,9,10,11,12,13,14,15,16,17], .code (csub (cd Try.f3) [1,1,1,1,1])] [(5, .pointer (some (⟨b, 0, none⟩))), (42, .pointer (some (⟨b, 0, none⟩)))] w (by kernel_rfl) .nil ?_
      refine GoS.call [5] 9 #[.pointer (some (⟨b, 0, none⟩))] (some 43) [.inRegion (cops (csub (cd Try.f3) [1,1,1,1,0])) [2,3,4,5,6,7,8,9,10,11,12,13,14,15,16,17], .code (csub (cd Try.f3) [1,1,1,1,1])] [(5, .pointer (some (⟨b, 0, none⟩)))] (by kernel_rfl) (cend_c s b w (Mem.lend (R := [⟨37, 1, (obj b), 1, [.string (sb s)]⟩]) (L := []) hM)) ?_
      rintro _ w41 ⟨rfl, m42⟩
      refine ⟨_, rfl, ?_⟩
      have hM43 : Mem [] w0 w41 [⟨37, 1, (obj b), 1, [.string (sb s)]⟩] := Mem.back (R := [⟨37, 1, (obj b), 1, [.string (sb s)]⟩]) (L := []) hM m42
      refine GoS.run [5, 44, 45] [.n, .n] _ [.inRegion (cops (csub (cd Try.f3) [1,1,1,1,0])) [4,5,6,7,8,9,10,11,12,13,14,15,16,17], .code (csub (cd Try.f3) [1,1,1,1,1])] [(5, .pointer (some (⟨b, 0, none⟩))), (44, .bool ((endE s) == 0)), (45, .pointer (some (⟨b, 0, none⟩)))] w41 (by kernel_rfl) .nil ?_
      refine GoS.call [5, 44] 7 #[.pointer (some (⟨b, 0, none⟩))] (some 46) [.inRegion (cops (csub (cd Try.f3) [1,1,1,1,0])) [5,6,7,8,9,10,11,12,13,14,15,16,17], .code (csub (cd Try.f3) [1,1,1,1,1])] [(5, .pointer (some (⟨b, 0, none⟩))), (44, .bool ((endE s) == 0))] (by kernel_rfl) (crest_c s b w41 (Mem.lend (R := [⟨37, 1, (obj b), 1, [.string (sb s)]⟩]) (L := []) hM43)) ?_
      rintro _ w44 ⟨rfl, m45⟩
      refine ⟨_, rfl, ?_⟩
      have hM46 : Mem [] w0 w44 [⟨37, 1, (obj b), 1, [.string (sb s)]⟩] := Mem.back (R := [⟨37, 1, (obj b), 1, [.string (sb s)]⟩]) (L := []) hM43 m45
      have o47 : (binOp .eql 9 (.string (sb s)) (.string (sb ([])))).run Try.prog w44 = .ok (.bool (decide (s = []))) w44 := f_streq
      have o48 : Try.prog.underlying 4 = some .bool ∧ w44 = w44 ∧ Value.bool true = .bool (((endE s) == 0) == (decide (s = []))) := ⟨by kernel_rfl, rfl, congrArg Value.bool (Eq.symm (end_iff _))⟩
      refine GoS.run [5, 49, 50] [.h (.bool (decide (s = []))), .h (.bool true), .n, .n] _ [.inRegion (cops (csub (cd Try.f3) [1,1,1,1,0])) [9,10,11,12,13,14,15,16,17], .code (csub (cd Try.f3) [1,1,1,1,1])] [(5, .pointer (some (⟨b, 0, none⟩))), (49, .bool true), (50, .pointer (some (⟨b, 0, none⟩)))] w44 (by kernel_rfl) (.cons o47 (.cons o48 .nil)) ?_
      refine GoS.call [5, 49] 9 #[.pointer (some (⟨b, 0, none⟩))] (some 51) [.inRegion (cops (csub (cd Try.f3) [1,1,1,1,0])) [10,11,12,13,14,15,16,17], .code (csub (cd Try.f3) [1,1,1,1,1])] [(5, .pointer (some (⟨b, 0, none⟩))), (49, .bool true)] (by kernel_rfl) (cend_c s b w44 (Mem.lend (R := [⟨37, 1, (obj b), 1, [.string (sb s)]⟩]) (L := []) hM46)) ?_
      rintro _ w49 ⟨rfl, m50⟩
      refine ⟨_, rfl, ?_⟩
      have hM51 : Mem [] w0 w49 [⟨37, 1, (obj b), 1, [.string (sb s)]⟩] := Mem.back (R := [⟨37, 1, (obj b), 1, [.string (sb s)]⟩]) (L := []) hM46 m50
      refine GoS.run [5, 49, 53] [.n, .n] _ [.inRegion (cops (csub (cd Try.f3) [1,1,1,1,0])) [12,13,14,15,16,17], .code (csub (cd Try.f3) [1,1,1,1,1])] [(5, .pointer (some (⟨b, 0, none⟩))), (49, .bool true), (53, .bool ((endE s) == 0))] w49 (by kernel_rfl) .nil ?_
      refine GoS.fork 53 ((endE s) == 0) (by kernel_rfl) (fun h52 => ?_) (fun h52 => ?_)
      ·
        have h52p : (endE s) = 0 := eq_of_beq h52
        have hM53 : Mem [] w0 w49 [] := hM51.sub (List.Sublist.cons _ (List.Sublist.refl _))
        refine GoS.run [4] [.n, .n, .n, .n, .n, .n] _ [.inRegion (cops (csub (cd Try.f3) [1,1,1,1,0])) [], .code (csub (cd Try.f3) [1,1,1,1,1])] [(4, .bool true)] w49 (by kernel_rfl) .nil ?_
        refine GoS.run [4] [.n] _ [.code (csub (cd Try.f3) [1,1,1,1,1])] [(4, .bool true)] w49 (by kernel_rfl) .nil ?_
        refine GoS.ret (fn := Try.f3) (v := (.bool true)) Try.func3 (by kernel_rfl) ?_
        rw [hR]
        exact ⟨rfl, hM53.below⟩
      ·
        have h52p : ¬ ((endE s) = 0) := p_ne h52
        refine GoS.run [49, 53, 54] [.n] _ [.inRegion (cops (csub (cd Try.f3) [1,1,1,1,0])) [13,14,15,16,17], .code (csub (cd Try.f3) [1,1,1,1,1])] [(49, .bool true), (53, .bool false), (54, .pointer (some (⟨b, 0, none⟩)))] w49 (by kernel_rfl) .nil ?_
        refine GoS.call [49, 53] 9 #[.pointer (some (⟨b, 0, none⟩))] (some 55) [.inRegion (cops (csub (cd Try.f3) [1,1,1,1,0])) [14,15,16,17], .code (csub (cd Try.f3) [1,1,1,1,1])] [(49, .bool true), (53, .bool false)] (by kernel_rfl) (cend_c s b w49 (Mem.lend (R := [⟨37, 1, (obj b), 1, [.string (sb s)]⟩]) (L := []) hM51)) ?_
        rintro _ w54 ⟨rfl, m55⟩
        refine ⟨_, rfl, ?_⟩
        have hM56 : Mem [] w0 w54 [⟨37, 1, (obj b), 1, [.string (sb s)]⟩] := Mem.back (R := [⟨37, 1, (obj b), 1, [.string (sb s)]⟩]) (L := []) hM51 m55
        have o57 : (IntKind.i64 = IntKind.i64) ∧ w54 = w54 ∧ Value.bool true = .bool ((endE s) == 5) := ⟨rfl, rfl, congrArg Value.bool (Eq.symm (beq_iff_eq.2 (end_five h52p)))⟩
        have hM58 : Mem [] w0 w54 [] := hM56.sub (List.Sublist.cons _ (List.Sublist.refl _))
        refine GoS.run [4] [.h (.bool true), .n, .n, .n] _ [.inRegion (cops (csub (cd Try.f3) [1,1,1,1,0])) [], .code (csub (cd Try.f3) [1,1,1,1,1])] [(4, .bool true)] w54 (by kernel_rfl) (.cons o57 .nil) ?_
        refine GoS.run [4] [.n] _ [.code (csub (cd Try.f3) [1,1,1,1,1])] [(4, .bool true)] w54 (by kernel_rfl) .nil ?_
        refine GoS.ret (fn := Try.f3) (v := (.bool true)) Try.func3 (by kernel_rfl) ?_
        rw [hR]
        exact ⟨rfl, hM58.below⟩

set_option maxHeartbeats 400000 in
theorem lgoes_c (s : List UInt8) (u : Value) (l : List Int) (w : World) (hu : Rd w 1 u l.length (ivals .u8 l)) (hw : ∀ j, 0 ≤ l.getD j 0 ∧ l.getD j 0 ≤ 255) (hs : s.length ≤ 140737488355327) :
    Calls Try.prog 3 #[.string (sb s), u] w (fun e w' => e = .returned (.bool true) ∧ Below w.heap.size w w') := by
  obtain ⟨R, hR⟩ : ∃ R : Ending → World → Prop, R = (fun e w' => e = .returned (.bool true) ∧ Below w.heap.size w w') := ⟨_, rfl⟩
  rw [← hR]
  refine GoS.enter (n := 59) Try.func3 (by kernel_rfl) rfl [(0, .string (sb s)), (1, u)] (by kernel_rfl) (by kernel_rfl) ?_
  have hM0 := Mem.start w
  refine GoS.run [0, 1, 7] [.n, .n, .n, .n, .n, .n, .n] _ [.inRegion (cops (csub (cd Try.f3) [1,0])) [1,2], .code (csub (cd Try.f3) [1,1])] [(0, .string (sb s)), (1, u), (7, .string (sb s))] w (by kernel_rfl) .nil ?_
  refine GoS.call [0, 1] 5 #[.string (sb s)] (some 8) [.inRegion (cops (csub (cd Try.f3) [1,0])) [2], .code (csub (cd Try.f3) [1,1])] [(0, .string (sb s)), (1, u)] (by kernel_rfl) (at_c s w) ?_
  rintro _ w2 ⟨b1, rfl, m3⟩
  refine ⟨_, rfl, ?_⟩
  have hM4 := Mem.join hM0 m3
  refine GoS.run [0, 1, 5] [.n, .n, .n, .n, .n] _ [.inRegion (cops (csub (cd Try.f3) [1,1,0,0])) [0,1,2,3,4,5,6,7,8,9,10,11], .code (csub (cd Try.f3) [1,1,0,1]), .code (csub (cd Try.f3) [1,1,1])] [(0, .string (sb s)), (1, u), (5, .pointer (some (⟨b1, 0, none⟩)))] w2 (by kernel_rfl) .nil ?_
  refine GoS.call [0, 1, 5] 6 #[] (some 9) [.inRegion (cops (csub (cd Try.f3) [1,1,0,0])) [1,2,3,4,5,6,7,8,9,10,11], .code (csub (cd Try.f3) [1,1,0,1]), .code (csub (cd Try.f3) [1,1,1])] [(0, .string (sb s)), (1, u), (5, .pointer (some (⟨b1, 0, none⟩)))] (by kernel_rfl) (awake_c w2) ?_
  rintro _ w5 ⟨rfl, m6⟩
  refine ⟨_, rfl, ?_⟩
  have hM7 := Mem.join hM4 m6
  refine GoS.run [0, 1, 5, 15, 16] [.n, .n, .n, .n, .n, .n, .n] _ [.inRegion (cops (csub (cd Try.f3) [1,1,0,0])) [8,9,10,11], .code (csub (cd Try.f3) [1,1,0,1]), .code (csub (cd Try.f3) [1,1,1])] [(0, .string (sb s)), (1, u), (5, .pointer (some (⟨b1, 0, none⟩))), (15, .bool false), (16, .pointer (some (⟨b1, 0, none⟩)))] w5 (by kernel_rfl) .nil ?_
  refine GoS.call [0, 1, 5, 15] 7 #[.pointer (some (⟨b1, 0, none⟩))] (some 17) [.inRegion (cops (csub (cd Try.f3) [1,1,0,0])) [9,10,11], .code (csub (cd Try.f3) [1,1,0,1]), .code (csub (cd Try.f3) [1,1,1])] [(0, .string (sb s)), (1, u), (5, .pointer (some (⟨b1, 0, none⟩))), (15, .bool false)] (by kernel_rfl) (crest_c s b1 w5 (Mem.lend (R := [⟨37, 1, (obj b1), 1, [.string (sb s)]⟩]) (L := []) hM7)) ?_
  rintro _ w8 ⟨rfl, m9⟩
  refine ⟨_, rfl, ?_⟩
  have hM10 : Mem [] w w8 [⟨37, 1, (obj b1), 1, [.string (sb s)]⟩] := Mem.back (R := [⟨37, 1, (obj b1), 1, [.string (sb s)]⟩]) (L := []) hM7 m9
  have o11 : (binOp .neq 9 (.string (sb s)) (.string (sb s))).run Try.prog w8 = .ok (.bool false) w8 := f_strneq_yes (rfl)
  refine GoS.run [1, 5, 6] [.n, .h (.bool false), .n, .n, .n, .n, .n, .n, .n, .n, .n, .n, .n] _ [.code (csub (cd Try.f3) [1,1,1,0,1,0,0]), .inLoop (csub (cd Try.f3) [1,1,1,0,1,0,0]), .inBlock 0, .code (csub (cd Try.f3) [1,1,1,1])] [(1, u), (5, .pointer (some (⟨b1, 0, none⟩))), (6, .int .i64 0)] w8 (by kernel_rfl) (.cons o11 .nil) ?_
  exact lgoes_L u l hu hw b1 R hR (l.length + 1) s 0 w8 (by omega) (by omega) hM10 (by omega)


end Go.Proofs.Ytmjkbmlcclmdkaa
