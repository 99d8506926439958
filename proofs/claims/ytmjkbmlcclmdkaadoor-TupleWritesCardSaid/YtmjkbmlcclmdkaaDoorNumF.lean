/-
  The walks of a cursor's At, Num, Count, Rest.
-/
import Derived.Test.YtmjkbmlcclmdkaaDoorNumE
namespace Go.Proofs.YtmjkbmlcclmdkaaDoor
open Go Go.Gw Go.NumP Go.CrcP Go.SealP Go.RowKit
set_option linter.unusedVariables false
set_option linter.unusedSimpArgs false

theorem pE9 : Plain Tryd.prog 9 := ⟨.string, by kernel_rfl, (fun _ h => by cases h), (fun _ _ h => by cases h)⟩

set_option maxHeartbeats 400000 in
theorem at_c (s : List UInt8) (w : World) :
    Calls Tryd.prog 16 #[.string (sb s)] w (fun e w' => ∃ b, e = .returned (.pointer (some ⟨b, 0, none⟩)) ∧ Mem [] w w' [⟨52, 1, (obj b), 1, [.string (sb s)]⟩]) := by
  obtain ⟨R, hR⟩ : ∃ R : Ending → World → Prop, R = (fun e w' => ∃ b, e = .returned (.pointer (some ⟨b, 0, none⟩)) ∧ Mem [] w w' [⟨52, 1, (obj b), 1, [.string (sb s)]⟩]) := ⟨_, rfl⟩
  rw [← hR]
  refine GoS.enter (n := 6) Tryd.func16 (by kernel_rfl) rfl [(0, .string (sb s))] (by kernel_rfl) (by kernel_rfl) ?_
  have hM0 := Mem.start w
  obtain ⟨b1, w2, hr3, hM4⟩ := m_box (T := 52) (k := 1) (u := .agg #[.string (sb s)]) rfl rfl hM0
  have hM5 : Mem [] w w2 [⟨52, 1, (obj b1), 1, [.string (sb s)]⟩] := hM4
  have o6 : (Instr.box 52 (.agg #[.string (sb s)])).run Tryd.prog w = .ok (.pointer (some (⟨b1, 0, none⟩))) w2 := hr3
  refine GoS.run [2] [.n, .n, .n, .n, .n, .n, .n, .n, .u (.pointer (some (⟨b1, 0, none⟩))) (w2), .n, .n] _ [.code (csub (cd Tryd.f16) [1,1])] [(2, .pointer (some (⟨b1, 0, none⟩)))] w2 (by kernel_rfl) (.cons o6 .nil) ?_
  refine GoS.ret (fn := Tryd.f16) (v := (.pointer (some (⟨b1, 0, none⟩)))) Tryd.func16 (by kernel_rfl) ?_
  rw [hR]
  exact ⟨_, rfl, hM5⟩

set_option maxHeartbeats 400000 in
theorem cnum_c {S : List Nat} {w0 : World} (s : List UInt8) (b : Nat) (w : World) (hM : Mem S w0 w [⟨52, 1, (obj b), 1, [.string (sb s)]⟩]) :
    Calls Tryd.prog 18 #[.pointer (some (⟨b, 0, none⟩))] w (fun e w' => e = .returned (.tuple #[.int .i64 ((numP s).1), .int .i64 ((numP s).2.2)]) ∧ Mem S w0 w' [⟨52, 1, (obj b), 1, [.string (sb (numR s))]⟩]) := by
  obtain ⟨R, hR⟩ : ∃ R : Ending → World → Prop, R = (fun e w' => e = .returned (.tuple #[.int .i64 ((numP s).1), .int .i64 ((numP s).2.2)]) ∧ Mem S w0 w' [⟨52, 1, (obj b), 1, [.string (sb (numR s))]⟩]) := ⟨_, rfl⟩
  rw [← hR]
  refine GoS.enter (n := 31) Tryd.func18 (by kernel_rfl) rfl [(0, .pointer (some (⟨b, 0, none⟩)))] (by kernel_rfl) (by kernel_rfl) ?_
  have o1 : (Instr.loadAt 9 (.pointer (some (⟨b, 0, none⟩)))).run Tryd.prog w = .ok (.string (sb s)) w := c_load pE9 (hM.rd 0 rfl) (cel_obj b 0) rfl
  refine GoS.run [0, 13] [.n, .n, .n, .n, .n, .n, .n, .n, .n, .n, .n, .n, .n, .n, .n, .n, .n, .n, .h (.string (sb s))] _ [.inRegion (cops (csub (cd Tryd.f18) [1,1,0])) [4,5,6,7,8,9,10,11], .code (csub (cd Tryd.f18) [1,1,1])] [(0, .pointer (some (⟨b, 0, none⟩))), (13, .string (sb s))] w (by kernel_rfl) (.cons o1 .nil) ?_
  refine GoS.call [0] 27 #[.string (sb s)] (some 14) [.inRegion (cops (csub (cd Tryd.f18) [1,1,0])) [5,6,7,8,9,10,11], .code (csub (cd Tryd.f18) [1,1,1])] [(0, .pointer (some (⟨b, 0, none⟩)))] (by kernel_rfl) (number_c s w) ?_
  rintro _ _ ⟨rfl, rfl⟩
  refine ⟨_, rfl, ?_⟩
  have hnb := numP_bd s
  refine GoS.run [0, 4, 5, 6, 19] [.n, .n, .n, .n, .n, .n, .n, .n, .n, .n, .n, .n, .n, .n] _ [.code (csub (cd Tryd.f18) [1,1,1,0,1]), .code (csub (cd Tryd.f18) [1,1,1,1])] [(0, .pointer (some (⟨b, 0, none⟩))), (4, .int .i64 ((numP s).1)), (5, .int .i64 ((numP s).2.1)), (6, .int .i64 ((numP s).2.2)), (19, .bool ((numP s).2.2 != 0))] w (by kernel_rfl) .nil ?_
  refine GoS.cond ((numP s).2.2 != 0) [.code (csub (cd Tryd.f18) [1,1,1,0,1,0]), .code (csub (cd Tryd.f18) [1,1,1,1])] [.code (csub (cd Tryd.f18) [1,1,1,0,1,1]), .code (csub (cd Tryd.f18) [1,1,1,1])] (by kernel_rfl) (fun h2 => ?_) (fun h2 => ?_)
  ·
    have h2p : ¬ ((numP s).2.2 = 0) := bne_iff_ne.1 h2
    refine GoS.run [2, 3] [.n, .n, .n, .n, .n, .n] _ [.code (csub (cd Tryd.f18) [1,1,1,0,1,0,1]), .code (csub (cd Tryd.f18) [1,1,1,1])] [(2, .int .i64 0), (3, .int .i64 ((numP s).2.2))] w (by kernel_rfl) .nil ?_
    refine GoS.ret (fn := Tryd.f18) (v := (.tuple #[.int .i64 0, .int .i64 ((numP s).2.2)])) Tryd.func18 (by kernel_rfl) ?_
    rw [hR]
    obtain ⟨e1, e2⟩ := numP_err (bne_iff_ne.1 h2)
    rw [numR_err (bne_iff_ne.1 h2), e1]
    exact ⟨rfl, hM⟩
  ·
    have h2p : (numP s).2.2 = 0 := p_eq h2
    refine GoS.run [0, 4, 5] [.n] _ [.code (csub (cd Tryd.f18) [1,1,1,1])] [(0, .pointer (some (⟨b, 0, none⟩))), (4, .int .i64 ((numP s).1)), (5, .int .i64 ((numP s).2.1))] w (by kernel_rfl) .nil ?_
    have o7 : (Instr.loadAt 9 (.pointer (some (⟨b, 0, none⟩)))).run Tryd.prog w = .ok (.string (sb s)) w := c_load pE9 (hM.rd 0 rfl) (cel_obj b 0) rfl
    have o8 : (Instr.sliceAt 9 (.string (sb s)) (some (.int .i64 ((numP s).2.1))) none none).run Tryd.prog w = .ok (.string (sb (List.drop (Int.toNat ((numP s).2.1)) s))) w := f_slice_lo (Int.toNat ((numP s).2.1)) (by kernel_rfl) (by omega) (by have hnb := numP_bd s; omega)
    obtain ⟨w3, hr4, hM5⟩ := c_store (u := .string (sb (List.drop (Int.toNat ((numP s).2.1)) s))) (by kernel_rfl) hM 0 rfl (cel_obj b 0) (by decide) rfl rfl
    have hM6 : Mem S w0 w3 [⟨52, 1, (obj b), 1, [.string (sb (List.drop (Int.toNat ((numP s).2.1)) s))]⟩] := hM5
    have o9 : (Instr.storeAt 9 (.pointer (some (⟨b, 0, none⟩))) (.string (sb (List.drop (Int.toNat ((numP s).2.1)) s)))).run Tryd.prog w = .ok () w3 ∧ undef = undef := ⟨hr4, rfl⟩
    refine GoS.run [2, 3] [.n, .n, .n, .n, .n, .n, .h (.string (sb s)), .n, .h (.string (sb (List.drop (Int.toNat ((numP s).2.1)) s))), .n, .n, .u (undef) (w3), .n, .n, .n, .n, .n, .n, .n] _ [.code (csub (cd Tryd.f18) [1,1,1,1,1,1])] [(2, .int .i64 ((numP s).1)), (3, .int .i64 0)] w3 (by kernel_rfl) (.cons o7 (.cons o8 (.cons o9 .nil))) ?_
    refine GoS.ret (fn := Tryd.f18) (v := (.tuple #[.int .i64 ((numP s).1), .int .i64 0])) Tryd.func18 (by kernel_rfl) ?_
    rw [hR]
    have e := p_eq h2
    exact ⟨by rw [e], hM6⟩

set_option maxHeartbeats 400000 in
theorem ccount_c {S : List Nat} {w0 : World} (s : List UInt8) (b : Nat) (w : World) (hM : Mem S w0 w [⟨52, 1, (obj b), 1, [.string (sb s)]⟩]) :
    Calls Tryd.prog 22 #[.pointer (some (⟨b, 0, none⟩))] w (fun e w' => e = .returned (.tuple #[.int .i64 ((cntP s).1), .int .i64 ((cntP s).2.2)]) ∧ Mem S w0 w' [⟨52, 1, (obj b), 1, [.string (sb (cntR s))]⟩]) := by
  obtain ⟨R, hR⟩ : ∃ R : Ending → World → Prop, R = (fun e w' => e = .returned (.tuple #[.int .i64 ((cntP s).1), .int .i64 ((cntP s).2.2)]) ∧ Mem S w0 w' [⟨52, 1, (obj b), 1, [.string (sb (cntR s))]⟩]) := ⟨_, rfl⟩
  rw [← hR]
  refine GoS.enter (n := 30) Tryd.func22 (by kernel_rfl) rfl [(0, .pointer (some (⟨b, 0, none⟩)))] (by kernel_rfl) (by kernel_rfl) ?_
  have o1 : (Instr.loadAt 9 (.pointer (some (⟨b, 0, none⟩)))).run Tryd.prog w = .ok (.string (sb s)) w := c_load pE9 (hM.rd 0 rfl) (cel_obj b 0) rfl
  refine GoS.run [0, 4, 14] [.n, .n, .n, .n, .n, .n, .n, .n, .n, .n, .n, .n, .n, .n, .n, .n, .n, .n, .h (.string (sb s)), .n, .n, .n, .n, .n] _ [.inRegion (cops (csub (cd Tryd.f22) [1,1,1,0])) [1,2,3,4,5,6], .code (csub (cd Tryd.f22) [1,1,1,1])] [(0, .pointer (some (⟨b, 0, none⟩))), (4, .string (sb s)), (14, .pointer (some (⟨b, 0, none⟩)))] w (by kernel_rfl) (.cons o1 .nil) ?_
  refine GoS.call [0, 4] 18 #[.pointer (some (⟨b, 0, none⟩))] (some 15) [.inRegion (cops (csub (cd Tryd.f22) [1,1,1,0])) [2,3,4,5,6], .code (csub (cd Tryd.f22) [1,1,1,1])] [(0, .pointer (some (⟨b, 0, none⟩))), (4, .string (sb s))] (by kernel_rfl) (cnum_c s b w (Mem.lend (R := [⟨52, 1, (obj b), 1, [.string (sb s)]⟩]) (L := []) hM)) ?_
  rintro _ w2 ⟨rfl, m3⟩
  refine ⟨_, rfl, ?_⟩
  have hM4 : Mem S w0 w2 [⟨52, 1, (obj b), 1, [.string (sb (numR s))]⟩] := Mem.back (R := [⟨52, 1, (obj b), 1, [.string (sb s)]⟩]) (L := []) hM m3
  refine GoS.run [0, 4, 5, 6, 20] [.n, .n, .n, .n, .n, .n, .n, .n, .n, .n, .n, .n] _ [.inRegion (cops (csub (cd Tryd.f22) [1,1,1,1,0,0])) [3,4,5], .code (csub (cd Tryd.f22) [1,1,1,1,0,1]), .code (csub (cd Tryd.f22) [1,1,1,1,1])] [(0, .pointer (some (⟨b, 0, none⟩))), (4, .string (sb s)), (5, .int .i64 ((numP s).1)), (6, .int .i64 ((numP s).2.2)), (20, .bool ((numP s).2.2 == 0))] w2 (by kernel_rfl) .nil ?_
  refine GoS.fork 20 ((numP s).2.2 == 0) (by kernel_rfl) (fun h5 => ?_) (fun h5 => ?_)
  ·
    have h5p : (numP s).2.2 = 0 := eq_of_beq h5
    refine GoS.run [0, 4, 5, 6, 23] [.n, .n, .n] _ [.inRegion (cops (csub (cd Tryd.f22) [1,1,1,1,0,0])) [], .code (csub (cd Tryd.f22) [1,1,1,1,0,1]), .code (csub (cd Tryd.f22) [1,1,1,1,1])] [(0, .pointer (some (⟨b, 0, none⟩))), (4, .string (sb s)), (5, .int .i64 ((numP s).1)), (6, .int .i64 ((numP s).2.2)), (23, .bool (decide ((numP s).1 < 0)))] w2 (by kernel_rfl) .nil ?_
    refine GoS.run [0, 4, 5, 6, 23] [.n] _ [.code (csub (cd Tryd.f22) [1,1,1,1,0,1]), .code (csub (cd Tryd.f22) [1,1,1,1,1])] [(0, .pointer (some (⟨b, 0, none⟩))), (4, .string (sb s)), (5, .int .i64 ((numP s).1)), (6, .int .i64 ((numP s).2.2)), (23, .bool (decide ((numP s).1 < 0)))] w2 (by kernel_rfl) .nil ?_
    refine GoS.cond (decide ((numP s).1 < 0)) [.code (csub (cd Tryd.f22) [1,1,1,1,0,1,0]), .code (csub (cd Tryd.f22) [1,1,1,1,1])] [.code (csub (cd Tryd.f22) [1,1,1,1,0,1,1]), .code (csub (cd Tryd.f22) [1,1,1,1,1])] (by kernel_rfl) (fun h6 => ?_) (fun h6 => ?_)
    ·
      have h6p : (numP s).1 < 0 := of_decide_eq_true h6
      obtain ⟨w7, hr8, hM9⟩ := c_store (u := .string (sb s)) (by kernel_rfl) hM4 0 rfl (cel_obj b 0) (by decide) rfl rfl
      have hM10 : Mem S w0 w7 [⟨52, 1, (obj b), 1, [.string (sb s)]⟩] := hM9
      have o11 : (Instr.storeAt 9 (.pointer (some (⟨b, 0, none⟩))) (.string (sb s))).run Tryd.prog w2 = .ok () w7 ∧ undef = undef := ⟨hr8, rfl⟩
      refine GoS.run [2, 3] [.n, .n, .n, .n, .n, .n, .u (undef) (w7), .n, .n, .n, .n, .n, .n] _ [.code (csub (cd Tryd.f22) [1,1,1,1,0,1,0,1,1]), .code (csub (cd Tryd.f22) [1,1,1,1,1])] [(2, .int .i64 0), (3, .int .i64 3)] w7 (by kernel_rfl) (.cons o11 .nil) ?_
      refine GoS.ret (fn := Tryd.f22) (v := (.tuple #[.int .i64 0, .int .i64 3])) Tryd.func22 (by kernel_rfl) ?_
      rw [hR]
      rw [cntR_yes (by omega) (by omega), cntP_yes (by omega) (by omega)]
      exact ⟨rfl, hM10⟩
    ·
      have h6p : ¬ ((numP s).1 < 0) := of_decide_eq_false h6
      refine GoS.run [5, 6] [.n] _ [.code (csub (cd Tryd.f22) [1,1,1,1,1])] [(5, .int .i64 ((numP s).1)), (6, .int .i64 ((numP s).2.2))] w2 (by kernel_rfl) .nil ?_
      refine GoS.run [2, 3] [.n, .n, .n, .n, .n, .n, .n] _ [.code (csub (cd Tryd.f22) [1,1,1,1,1,1])] [(2, .int .i64 ((numP s).1)), (3, .int .i64 ((numP s).2.2))] w2 (by kernel_rfl) .nil ?_
      refine GoS.ret (fn := Tryd.f22) (v := (.tuple #[.int .i64 ((numP s).1), .int .i64 ((numP s).2.2)])) Tryd.func22 (by kernel_rfl) ?_
      rw [hR]
      rw [cntR_no (by omega), cntP_no (by omega)]
      exact ⟨rfl, hM4⟩
  ·
    have h5p : ¬ ((numP s).2.2 = 0) := p_ne h5
    refine GoS.run [0, 4, 5, 6, 23] [.n, .n, .n] _ [.inRegion (cops (csub (cd Tryd.f22) [1,1,1,1,0,0])) [], .code (csub (cd Tryd.f22) [1,1,1,1,0,1]), .code (csub (cd Tryd.f22) [1,1,1,1,1])] [(0, .pointer (some (⟨b, 0, none⟩))), (4, .string (sb s)), (5, .int .i64 ((numP s).1)), (6, .int .i64 ((numP s).2.2)), (23, .bool false)] w2 (by kernel_rfl) .nil ?_
    refine GoS.run [2, 3] [.n, .n, .n, .n, .n, .n, .n, .n, .n, .n] _ [.code (csub (cd Tryd.f22) [1,1,1,1,1,1])] [(2, .int .i64 ((numP s).1)), (3, .int .i64 ((numP s).2.2))] w2 (by kernel_rfl) .nil ?_
    refine GoS.ret (fn := Tryd.f22) (v := (.tuple #[.int .i64 ((numP s).1), .int .i64 ((numP s).2.2)])) Tryd.func22 (by kernel_rfl) ?_
    rw [hR]
    rw [cntR_no (by omega), cntP_no (by omega)]
    exact ⟨rfl, hM4⟩

set_option maxHeartbeats 400000 in
theorem crest_c {S : List Nat} {w0 : World} (s : List UInt8) (b : Nat) (w : World) (hM : Mem S w0 w [⟨52, 1, (obj b), 1, [.string (sb s)]⟩]) :
    Calls Tryd.prog 21 #[.pointer (some (⟨b, 0, none⟩))] w (fun e w' => e = .returned (.string (sb s)) ∧ Mem S w0 w' [⟨52, 1, (obj b), 1, [.string (sb s)]⟩]) := by
  obtain ⟨R, hR⟩ : ∃ R : Ending → World → Prop, R = (fun e w' => e = .returned (.string (sb s)) ∧ Mem S w0 w' [⟨52, 1, (obj b), 1, [.string (sb s)]⟩]) := ⟨_, rfl⟩
  rw [← hR]
  refine GoS.enter (n := 9) Tryd.func21 (by kernel_rfl) rfl [(0, .pointer (some (⟨b, 0, none⟩)))] (by kernel_rfl) (by kernel_rfl) ?_
  have o1 : (Instr.loadAt 9 (.pointer (some (⟨b, 0, none⟩)))).run Tryd.prog w = .ok (.string (sb s)) w := c_load pE9 (hM.rd 0 rfl) (cel_obj b 0) rfl
  refine GoS.run [2] [.n, .n, .n, .n, .n, .n, .n, .n, .n, .n, .n, .n, .n, .n, .n, .n, .n, .h (.string (sb s)), .n, .n] _ [.code (csub (cd Tryd.f21) [1,1,1])] [(2, .string (sb s))] w (by kernel_rfl) (.cons o1 .nil) ?_
  refine GoS.ret (fn := Tryd.f21) (v := (.string (sb s))) Tryd.func21 (by kernel_rfl) ?_
  rw [hR]
  exact ⟨rfl, hM⟩


end Go.Proofs.YtmjkbmlcclmdkaaDoor
