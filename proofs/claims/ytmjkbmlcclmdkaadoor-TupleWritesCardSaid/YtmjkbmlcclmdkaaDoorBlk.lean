/-
  The walks of blocks.
-/
import Derived.Test.YtmjkbmlcclmdkaaDoorNumF
import Derived.Test.YtmjkbmlcclmdkaaDoorSealP
namespace Go.Proofs.YtmjkbmlcclmdkaaDoor
open Go Go.Gw Go.NumP Go.CrcP Go.SealP Go.RowKit
set_option linter.unusedVariables false
set_option linter.unusedSimpArgs false


set_option maxHeartbeats 400000 in
theorem block_c (s : List UInt8) (hs : s.length ≤ 9223372036854775000) (w : World) :
    Calls Tryd.prog 14 #[.string (sb s)] w (fun e w' => e = .returned (.string (sb (blk s))) ∧ Mem [] w w' []) := by
  obtain ⟨R, hR⟩ : ∃ R : Ending → World → Prop, R = (fun e w' => e = .returned (.string (sb (blk s))) ∧ Mem [] w w' []) := ⟨_, rfl⟩
  rw [← hR]
  refine GoS.enter (n := 9) Tryd.func14 (by kernel_rfl) rfl [(0, .string (sb s))] (by kernel_rfl) (by kernel_rfl) ?_
  have hM0 := Mem.start w
  have o5 : (Builtin.len_ #[9] 3 #[.string (sb s)]).run Tryd.prog w = .ok (.int .i64 ((s.length : Nat) : Int)) w := f_len (by kernel_rfl)
  obtain ⟨v1, w2, hr3, hM4⟩ := m_lit sT28 hM0 (n := 1) (parts := #[(0, .int .i64 ((s.length : Nat) : Int))]) (cs := [.int .i64 ((s.length : Nat) : Int)]) (by decide) (by kernel_rfl) rfl
  have o6 : (Instr.buildSlice 28 1 #[(0, .int .i64 ((s.length : Nat) : Int))]).run Tryd.prog w = .ok v1 w2 := hr3
  refine GoS.run [0, 5] [.n, .n, .n, .n, .n, .n, .n, .h (.int .i64 ((s.length : Nat) : Int)), .u (v1) (w2)] _ [.inRegion (cops (csub (cd Tryd.f14) [1,0])) [3,4,5,6], .code (csub (cd Tryd.f14) [1,1])] [(0, .string (sb s)), (5, v1)] w2 (by kernel_rfl) (.cons o5 (.cons o6 .nil)) ?_
  refine GoS.call [0] 10 #[v1] (some 6) [.inRegion (cops (csub (cd Tryd.f14) [1,0])) [4,5,6], .code (csub (cd Tryd.f14) [1,1])] [(0, .string (sb s))] (by kernel_rfl) (nums_c v1 ([((s.length : Nat) : Int)] : List Int) (by first | exact one_bd (by omega) | simp) (by first | (simp; done) | (simp; omega)) w2 (hM4.rd 0 rfl)) ?_
  rintro _ w7 ⟨rfl, m8⟩
  refine ⟨_, rfl, ?_⟩
  have hM9 := Mem.join hM4 m8
  have o10 : (binOp .add 9 (.string (sb (bytesOf (numsB ([((s.length : Nat) : Int)] : List Int))))) (.string (sb s))).run Tryd.prog w7 = .ok (.string (sb ((bytesOf (numsB ([((s.length : Nat) : Int)] : List Int))) ++ s))) w7 := f_stradd (by have q1 := numB_len (s.length : Int); first | (rw [bytesOf_len']; omega) | (rw [show (numsB [(s.length : Int)]) = numB s.length by simp [numsB], bytesOf_len']; omega))
  have hM11 : Mem [] w w7 [] := hM9.sub (List.Sublist.cons _ (List.Sublist.refl _))
  refine GoS.run [2] [.n, .h (.string (sb ((bytesOf (numsB ([((s.length : Nat) : Int)] : List Int))) ++ s))), .n, .n] _ [.code (csub (cd Tryd.f14) [1,1])] [(2, .string (sb ((bytesOf (numsB ([((s.length : Nat) : Int)] : List Int))) ++ s)))] w7 (by kernel_rfl) (.cons o10 .nil) ?_
  refine GoS.ret (fn := Tryd.f14) (v := (.string (sb ((bytesOf (numsB ([((s.length : Nat) : Int)] : List Int))) ++ s)))) Tryd.func14 (by kernel_rfl) ?_
  rw [hR]
  exact ⟨ret_str (by simp [blk, numsB]), hM11⟩

set_option maxHeartbeats 400000 in
theorem rblock_c (s : List UInt8) (hs : s.length ≤ 9223372036854775000) (w : World) :
    Calls Tryd.prog 15 #[.string (sb s)] w (fun e w' => e = .returned (.string (sb (blk s))) ∧ Mem [] w w' []) := by
  obtain ⟨R, hR⟩ : ∃ R : Ending → World → Prop, R = (fun e w' => e = .returned (.string (sb (blk s))) ∧ Mem [] w w' []) := ⟨_, rfl⟩
  rw [← hR]
  refine GoS.enter (n := 8) Tryd.func15 (by kernel_rfl) rfl [(0, .string (sb s))] (by kernel_rfl) (by kernel_rfl) ?_
  have hM0 := Mem.start w
  have o1 : (Builtin.len_ #[9] 3 #[.string (sb s)]).run Tryd.prog w = .ok (.int .i64 ((s.length : Nat) : Int)) w := f_len (by kernel_rfl)
  refine GoS.run [0, 4] [.n, .n, .n, .n, .n, .n, .n, .h (.int .i64 ((s.length : Nat) : Int))] _ [.inRegion (cops (csub (cd Tryd.f15) [1,0])) [2,3,4,5], .code (csub (cd Tryd.f15) [1,1])] [(0, .string (sb s)), (4, .int .i64 ((s.length : Nat) : Int))] w (by kernel_rfl) (.cons o1 .nil) ?_
  refine GoS.call [0] 26 #[.int .i64 ((s.length : Nat) : Int)] (some 5) [.inRegion (cops (csub (cd Tryd.f15) [1,0])) [3,4,5], .code (csub (cd Tryd.f15) [1,1])] [(0, .string (sb s))] (by kernel_rfl) (rnum_c ((s.length : Nat) : Int) (by omega) w) ?_
  rintro _ w2 ⟨rfl, m3⟩
  refine ⟨_, rfl, ?_⟩
  have hM4 := Mem.join hM0 m3
  have o5 : (binOp .add 9 (.string (sb (bytesOf (numB ((s.length : Nat) : Int))))) (.string (sb s))).run Tryd.prog w2 = .ok (.string (sb ((bytesOf (numB ((s.length : Nat) : Int))) ++ s))) w2 := f_stradd (by have q1 := numB_len (s.length : Int); first | (rw [bytesOf_len']; omega) | (rw [show (numsB [(s.length : Int)]) = numB s.length by simp [numsB], bytesOf_len']; omega))
  refine GoS.run [2] [.n, .h (.string (sb ((bytesOf (numB ((s.length : Nat) : Int))) ++ s))), .n, .n] _ [.code (csub (cd Tryd.f15) [1,1])] [(2, .string (sb ((bytesOf (numB ((s.length : Nat) : Int))) ++ s)))] w2 (by kernel_rfl) (.cons o5 .nil) ?_
  refine GoS.ret (fn := Tryd.f15) (v := (.string (sb ((bytesOf (numB ((s.length : Nat) : Int))) ++ s)))) Tryd.func15 (by kernel_rfl) ?_
  rw [hR]
  exact ⟨ret_str (by simp [blk, numsB]), hM4⟩

set_option maxHeartbeats 400000 in
theorem cblock_c {S : List Nat} {w0 : World} (s : List UInt8) (b : Nat) (w : World) (hM : Mem S w0 w [⟨52, 1, (obj b), 1, [.string (sb s)]⟩]) :
    Calls Tryd.prog 20 #[.pointer (some (⟨b, 0, none⟩))] w (fun e w' => e = .returned (.tuple #[.string (sb (blkS s)), .int .i64 (blkE s)]) ∧ Mem S w0 w' [⟨52, 1, (obj b), 1, [.string (sb (blkR s))]⟩]) := by
  have hcb := cnt_bd s
  have hrl := cntR_len s
  obtain ⟨R, hR⟩ : ∃ R : Ending → World → Prop, R = (fun e w' => e = .returned (.tuple #[.string (sb (blkS s)), .int .i64 (blkE s)]) ∧ Mem S w0 w' [⟨52, 1, (obj b), 1, [.string (sb (blkR s))]⟩]) := ⟨_, rfl⟩
  rw [← hR]
  refine GoS.enter (n := 53) Tryd.func20 (by kernel_rfl) rfl [(0, .pointer (some (⟨b, 0, none⟩)))] (by kernel_rfl) (by kernel_rfl) ?_
  have o1 : (Instr.loadAt 9 (.pointer (some (⟨b, 0, none⟩)))).run Tryd.prog w = .ok (.string (sb s)) w := c_load pE9 (hM.rd 0 rfl) (cel_obj b 0) rfl
  refine GoS.run [0, 4, 15] [.n, .n, .n, .n, .n, .n, .n, .n, .n, .n, .n, .n, .n, .n, .n, .n, .n, .n, .h (.string (sb s)), .n, .n, .n, .n, .n] _ [.inRegion (cops (csub (cd Tryd.f20) [1,1,1,0])) [1,2,3,4,5,6], .code (csub (cd Tryd.f20) [1,1,1,1])] [(0, .pointer (some (⟨b, 0, none⟩))), (4, .string (sb s)), (15, .pointer (some (⟨b, 0, none⟩)))] w (by kernel_rfl) (.cons o1 .nil) ?_
  refine GoS.call [0, 4] 22 #[.pointer (some (⟨b, 0, none⟩))] (some 16) [.inRegion (cops (csub (cd Tryd.f20) [1,1,1,0])) [2,3,4,5,6], .code (csub (cd Tryd.f20) [1,1,1,1])] [(0, .pointer (some (⟨b, 0, none⟩))), (4, .string (sb s))] (by kernel_rfl) (ccount_c s b w (Mem.lend (R := [⟨52, 1, (obj b), 1, [.string (sb s)]⟩]) (L := []) hM)) ?_
  rintro _ w2 ⟨rfl, m3⟩
  refine ⟨_, rfl, ?_⟩
  have hM4 : Mem S w0 w2 [⟨52, 1, (obj b), 1, [.string (sb (cntR s))]⟩] := Mem.back (R := [⟨52, 1, (obj b), 1, [.string (sb s)]⟩]) (L := []) hM m3
  refine GoS.run [0, 4, 5, 6, 21] [.n, .n, .n, .n, .n, .n, .n, .n, .n, .n, .n, .n] _ [.inRegion (cops (csub (cd Tryd.f20) [1,1,1,1,0,0])) [3,4,5,6,7,8,9,10], .code (csub (cd Tryd.f20) [1,1,1,1,0,1]), .code (csub (cd Tryd.f20) [1,1,1,1,1])] [(0, .pointer (some (⟨b, 0, none⟩))), (4, .string (sb s)), (5, .int .i64 ((cntP s).1)), (6, .int .i64 ((cntP s).2.2)), (21, .bool ((cntP s).2.2 == 0))] w2 (by kernel_rfl) .nil ?_
  refine GoS.fork 21 ((cntP s).2.2 == 0) (by kernel_rfl) (fun h5 => ?_) (fun h5 => ?_)
  ·
    have h5p : (cntP s).2.2 = 0 := eq_of_beq h5
    have o6 : (Instr.loadAt 9 (.pointer (some (⟨b, 0, none⟩)))).run Tryd.prog w2 = .ok (.string (sb (cntR s))) w2 := c_load pE9 (hM4.rd 0 rfl) (cel_obj b 0) rfl
    have o7 : (Builtin.len_ #[9] 3 #[.string (sb (cntR s))]).run Tryd.prog w2 = .ok (.int .i64 (((cntR s).length : Nat) : Int)) w2 := f_len (by kernel_rfl)
    refine GoS.run [0, 4, 5, 6, 29] [.n, .n, .n, .n, .h (.string (sb (cntR s))), .h (.int .i64 (((cntR s).length : Nat) : Int)), .n, .n] _ [.inRegion (cops (csub (cd Tryd.f20) [1,1,1,1,0,0])) [], .code (csub (cd Tryd.f20) [1,1,1,1,0,1]), .code (csub (cd Tryd.f20) [1,1,1,1,1])] [(0, .pointer (some (⟨b, 0, none⟩))), (4, .string (sb s)), (5, .int .i64 ((cntP s).1)), (6, .int .i64 ((cntP s).2.2)), (29, .bool (decide ((cntP s).1 > (((cntR s).length : Nat) : Int))))] w2 (by kernel_rfl) (.cons o6 (.cons o7 .nil)) ?_
    refine GoS.run [0, 4, 5, 6, 29] [.n] _ [.code (csub (cd Tryd.f20) [1,1,1,1,0,1]), .code (csub (cd Tryd.f20) [1,1,1,1,1])] [(0, .pointer (some (⟨b, 0, none⟩))), (4, .string (sb s)), (5, .int .i64 ((cntP s).1)), (6, .int .i64 ((cntP s).2.2)), (29, .bool (decide ((cntP s).1 > (((cntR s).length : Nat) : Int))))] w2 (by kernel_rfl) .nil ?_
    refine GoS.cond (decide ((cntP s).1 > (((cntR s).length : Nat) : Int))) [.code (csub (cd Tryd.f20) [1,1,1,1,0,1,0]), .code (csub (cd Tryd.f20) [1,1,1,1,1])] [.code (csub (cd Tryd.f20) [1,1,1,1,0,1,1]), .code (csub (cd Tryd.f20) [1,1,1,1,1])] (by kernel_rfl) (fun h8 => ?_) (fun h8 => ?_)
    ·
      have h8p : (cntP s).1 > (((cntR s).length : Nat) : Int) := of_decide_eq_true h8
      refine GoS.run [0, 4, 5, 6] [.n, .n, .n] _ [.code (csub (cd Tryd.f20) [1,1,1,1,1])] [(0, .pointer (some (⟨b, 0, none⟩))), (4, .string (sb s)), (5, .int .i64 ((cntP s).1)), (6, .int .i64 2)] w2 (by kernel_rfl) .nil ?_
      obtain ⟨w9, hr10, hM11⟩ := c_store (u := .string (sb s)) (by kernel_rfl) hM4 0 rfl (cel_obj b 0) (by decide) rfl rfl
      have hM12 : Mem S w0 w9 [⟨52, 1, (obj b), 1, [.string (sb s)]⟩] := hM11
      have o13 : (Instr.storeAt 9 (.pointer (some (⟨b, 0, none⟩))) (.string (sb s))).run Tryd.prog w2 = .ok () w9 ∧ undef = undef := ⟨hr10, rfl⟩
      refine GoS.run [2, 3] [.n, .n, .n, .n, .n, .n, .n, .n, .n, .n, .n, .n, .n, .u (undef) (w9), .n, .n, .n, .n, .n, .n, .n] _ [.code (csub (cd Tryd.f20) [1,1,1,1,1,0,1,0,1,1]), .code (csub (cd Tryd.f20) [1,1,1,1,1,1])] [(2, .string (sb ([]))), (3, .int .i64 2)] w9 (by kernel_rfl) (.cons o13 .nil) ?_
      refine GoS.ret (fn := Tryd.f20) (v := (.tuple #[.string (sb ([])), .int .i64 2])) Tryd.func20 (by kernel_rfl) ?_
      rw [hR]
      have hz := (beq_iff_eq.1 h5)
      obtain ⟨e1, e2, e3, _⟩ := blkE_short (s := s) hz (by omega)
      rw [e1, e2, e3]
      exact ⟨rfl, hM12⟩
    ·
      have h8p : ¬ ((cntP s).1 > (((cntR s).length : Nat) : Int)) := of_decide_eq_false h8
      refine GoS.run [0, 4, 5, 6] [.n] _ [.code (csub (cd Tryd.f20) [1,1,1,1,1])] [(0, .pointer (some (⟨b, 0, none⟩))), (4, .string (sb s)), (5, .int .i64 ((cntP s).1)), (6, .int .i64 ((cntP s).2.2))] w2 (by kernel_rfl) .nil ?_
      refine GoS.run [0, 4, 5, 6, 31] [.n, .n, .n, .n, .n, .n] _ [.code (csub (cd Tryd.f20) [1,1,1,1,1,0,1]), .code (csub (cd Tryd.f20) [1,1,1,1,1,1])] [(0, .pointer (some (⟨b, 0, none⟩))), (4, .string (sb s)), (5, .int .i64 ((cntP s).1)), (6, .int .i64 ((cntP s).2.2)), (31, .bool ((cntP s).2.2 != 0))] w2 (by kernel_rfl) .nil ?_
      refine GoS.cond ((cntP s).2.2 != 0) [.code (csub (cd Tryd.f20) [1,1,1,1,1,0,1,0]), .code (csub (cd Tryd.f20) [1,1,1,1,1,1])] [.code (csub (cd Tryd.f20) [1,1,1,1,1,0,1,1]), .code (csub (cd Tryd.f20) [1,1,1,1,1,1])] (by kernel_rfl) (fun h14 => ?_) (fun h14 => ?_)
      ·
        exact absurd (beq_iff_eq.1 h5) (bne_iff_ne.1 h14)
      ·
        have h14p : (cntP s).2.2 = 0 := p_eq h14
        refine GoS.run [0, 5] [.n] _ [.code (csub (cd Tryd.f20) [1,1,1,1,1,1])] [(0, .pointer (some (⟨b, 0, none⟩))), (5, .int .i64 ((cntP s).1))] w2 (by kernel_rfl) .nil ?_
        have o19 : (Instr.loadAt 9 (.pointer (some (⟨b, 0, none⟩)))).run Tryd.prog w2 = .ok (.string (sb (cntR s))) w2 := c_load pE9 (hM4.rd 0 rfl) (cel_obj b 0) rfl
        have o20 : (Instr.sliceAt 9 (.string (sb (cntR s))) none (some (.int .i64 ((cntP s).1))) none).run Tryd.prog w2 = .ok (.string (sb (List.take (Int.toNat ((cntP s).1)) (cntR s)))) w2 := f_slice_hi (Int.toNat ((cntP s).1)) (by kernel_rfl) (by omega) (by omega)
        have o21 : (Instr.loadAt 9 (.pointer (some (⟨b, 0, none⟩)))).run Tryd.prog w2 = .ok (.string (sb (cntR s))) w2 := c_load pE9 (hM4.rd 0 rfl) (cel_obj b 0) rfl
        have o22 : (Instr.sliceAt 9 (.string (sb (cntR s))) (some (.int .i64 ((cntP s).1))) none none).run Tryd.prog w2 = .ok (.string (sb (List.drop (Int.toNat ((cntP s).1)) (cntR s)))) w2 := f_slice_lo (Int.toNat ((cntP s).1)) (by kernel_rfl) (by omega) (by omega)
        obtain ⟨w15, hr16, hM17⟩ := c_store (u := .string (sb (List.drop (Int.toNat ((cntP s).1)) (cntR s)))) (by kernel_rfl) hM4 0 rfl (cel_obj b 0) (by decide) rfl rfl
        have hM18 : Mem S w0 w15 [⟨52, 1, (obj b), 1, [.string (sb (List.drop (Int.toNat ((cntP s).1)) (cntR s)))]⟩] := hM17
        have o23 : (Instr.storeAt 9 (.pointer (some (⟨b, 0, none⟩))) (.string (sb (List.drop (Int.toNat ((cntP s).1)) (cntR s))))).run Tryd.prog w2 = .ok () w15 ∧ undef = undef := ⟨hr16, rfl⟩
        refine GoS.run [2, 3] [.n, .n, .n, .n, .n, .h (.string (sb (cntR s))), .n, .h (.string (sb (List.take (Int.toNat ((cntP s).1)) (cntR s)))), .n, .n, .n, .n, .n, .n, .n, .n, .h (.string (sb (cntR s))), .n, .h (.string (sb (List.drop (Int.toNat ((cntP s).1)) (cntR s)))), .n, .n, .u (undef) (w15), .n, .n, .n, .n, .n, .n, .n] _ [.code (csub (cd Tryd.f20) [1,1,1,1,1,1,1,1,1])] [(2, .string (sb (List.take (Int.toNat ((cntP s).1)) (cntR s)))), (3, .int .i64 0)] w15 (by kernel_rfl) (.cons o19 (.cons o20 (.cons o21 (.cons o22 (.cons o23 .nil))))) ?_
        refine GoS.ret (fn := Tryd.f20) (v := (.tuple #[.string (sb (List.take (Int.toNat ((cntP s).1)) (cntR s))), .int .i64 0])) Tryd.func20 (by kernel_rfl) ?_
        rw [hR]
        have hz := (beq_iff_eq.1 h5)
        obtain ⟨e1, e2, e3, _⟩ := blkE_ok (s := s) hz (by omega)
        have hcr := cntR_eq s
        rw [e1, e2, e3]
        exact ⟨by rw [hcr], hM18.cast (by rw [hcr, List.drop_drop])⟩
  ·
    have h5p : ¬ ((cntP s).2.2 = 0) := p_ne h5
    refine GoS.run [0, 4, 5, 6, 29] [.n, .n, .n, .n, .n, .n, .n, .n] _ [.inRegion (cops (csub (cd Tryd.f20) [1,1,1,1,0,0])) [], .code (csub (cd Tryd.f20) [1,1,1,1,0,1]), .code (csub (cd Tryd.f20) [1,1,1,1,1])] [(0, .pointer (some (⟨b, 0, none⟩))), (4, .string (sb s)), (5, .int .i64 ((cntP s).1)), (6, .int .i64 ((cntP s).2.2)), (29, .bool false)] w2 (by kernel_rfl) .nil ?_
    refine GoS.run [0, 4, 5, 6, 31] [.n, .n, .n, .n, .n, .n, .n, .n, .n] _ [.code (csub (cd Tryd.f20) [1,1,1,1,1,0,1]), .code (csub (cd Tryd.f20) [1,1,1,1,1,1])] [(0, .pointer (some (⟨b, 0, none⟩))), (4, .string (sb s)), (5, .int .i64 ((cntP s).1)), (6, .int .i64 ((cntP s).2.2)), (31, .bool ((cntP s).2.2 != 0))] w2 (by kernel_rfl) .nil ?_
    refine GoS.cond ((cntP s).2.2 != 0) [.code (csub (cd Tryd.f20) [1,1,1,1,1,0,1,0]), .code (csub (cd Tryd.f20) [1,1,1,1,1,1])] [.code (csub (cd Tryd.f20) [1,1,1,1,1,0,1,1]), .code (csub (cd Tryd.f20) [1,1,1,1,1,1])] (by kernel_rfl) (fun h24 => ?_) (fun h24 => ?_)
    ·
      have h24p : ¬ ((cntP s).2.2 = 0) := bne_iff_ne.1 h24
      obtain ⟨w25, hr26, hM27⟩ := c_store (u := .string (sb s)) (by kernel_rfl) hM4 0 rfl (cel_obj b 0) (by decide) rfl rfl
      have hM28 : Mem S w0 w25 [⟨52, 1, (obj b), 1, [.string (sb s)]⟩] := hM27
      have o29 : (Instr.storeAt 9 (.pointer (some (⟨b, 0, none⟩))) (.string (sb s))).run Tryd.prog w2 = .ok () w25 ∧ undef = undef := ⟨hr26, rfl⟩
      refine GoS.run [2, 3] [.n, .n, .n, .n, .n, .n, .u (undef) (w25), .n, .n, .n, .n, .n, .n, .n] _ [.code (csub (cd Tryd.f20) [1,1,1,1,1,0,1,0,1,1]), .code (csub (cd Tryd.f20) [1,1,1,1,1,1])] [(2, .string (sb ([]))), (3, .int .i64 ((cntP s).2.2))] w25 (by kernel_rfl) (.cons o29 .nil) ?_
      refine GoS.ret (fn := Tryd.f20) (v := (.tuple #[.string (sb ([])), .int .i64 ((cntP s).2.2)])) Tryd.func20 (by kernel_rfl) ?_
      rw [hR]
      obtain ⟨e1, e2, e3, _⟩ := blkE_err (s := s) (beq_eq_false_iff_ne.1 h5)
      rw [e1, e2, e3]
      exact ⟨rfl, hM28⟩
    ·
      exact absurd (p_eq h24) (beq_eq_false_iff_ne.1 h5)


end Go.Proofs.YtmjkbmlcclmdkaaDoor
