/-
  The walks of blocks.
-/
import Derived.Test.YtmjkbmlcclmdkaaNumF
import Derived.Test.YtmjkbmlcclmdkaaSealP
namespace Go.Proofs.Ytmjkbmlcclmdkaa
open Go Go.Gw Go.NumP Go.CrcP Go.SealP Go.RowKit
set_option linter.unusedVariables false
set_option linter.unusedSimpArgs false


set_option maxHeartbeats 400000 in
theorem cblock_c {S : List Nat} {w0 : World} (s : List UInt8) (b : Nat) (w : World) (hM : Mem S w0 w [⟨37, 1, (obj b), 1, [.string (sb s)]⟩]) :
    Calls Try.prog 13 #[.pointer (some (⟨b, 0, none⟩))] w (fun e w' => e = .returned (.tuple #[.string (sb (blkS s)), .int .i64 (blkE s)]) ∧ Mem S w0 w' [⟨37, 1, (obj b), 1, [.string (sb (blkR s))]⟩]) := by
  have hcb := cnt_bd s
  have hrl := cntR_len s
  obtain ⟨R, hR⟩ : ∃ R : Ending → World → Prop, R = (fun e w' => e = .returned (.tuple #[.string (sb (blkS s)), .int .i64 (blkE s)]) ∧ Mem S w0 w' [⟨37, 1, (obj b), 1, [.string (sb (blkR s))]⟩]) := ⟨_, rfl⟩
  rw [← hR]
  refine GoS.enter (n := 53) Try.func13 (by kernel_rfl) rfl [(0, .pointer (some (⟨b, 0, none⟩)))] (by kernel_rfl) (by kernel_rfl) ?_
  have o1 : (Instr.loadAt 9 (.pointer (some (⟨b, 0, none⟩)))).run Try.prog w = .ok (.string (sb s)) w := c_load pE9 (hM.rd 0 rfl) (cel_obj b 0) rfl
  refine GoS.run [0, 4, 15] [.n, .n, .n, .n, .n, .n, .n, .n, .n, .n, .n, .n, .n, .n, .n, .n, .n, .n, .h (.string (sb s)), .n, .n, .n, .n, .n] _ [.inRegion (cops (csub (cd Try.f13) [1,1,1,0])) [1,2,3,4,5,6], .code (csub (cd Try.f13) [1,1,1,1])] [(0, .pointer (some (⟨b, 0, none⟩))), (4, .string (sb s)), (15, .pointer (some (⟨b, 0, none⟩)))] w (by kernel_rfl) (.cons o1 .nil) ?_
  refine GoS.call [0, 4] 11 #[.pointer (some (⟨b, 0, none⟩))] (some 16) [.inRegion (cops (csub (cd Try.f13) [1,1,1,0])) [2,3,4,5,6], .code (csub (cd Try.f13) [1,1,1,1])] [(0, .pointer (some (⟨b, 0, none⟩))), (4, .string (sb s))] (by kernel_rfl) (ccount_c s b w (Mem.lend (R := [⟨37, 1, (obj b), 1, [.string (sb s)]⟩]) (L := []) hM)) ?_
  rintro _ w2 ⟨rfl, m3⟩
  refine ⟨_, rfl, ?_⟩
  have hM4 : Mem S w0 w2 [⟨37, 1, (obj b), 1, [.string (sb (cntR s))]⟩] := Mem.back (R := [⟨37, 1, (obj b), 1, [.string (sb s)]⟩]) (L := []) hM m3
  refine GoS.run [0, 4, 5, 6, 21] [.n, .n, .n, .n, .n, .n, .n, .n, .n, .n, .n, .n] _ [.inRegion (cops (csub (cd Try.f13) [1,1,1,1,0,0])) [3,4,5,6,7,8,9,10], .code (csub (cd Try.f13) [1,1,1,1,0,1]), .code (csub (cd Try.f13) [1,1,1,1,1])] [(0, .pointer (some (⟨b, 0, none⟩))), (4, .string (sb s)), (5, .int .i64 ((cntP s).1)), (6, .int .i64 ((cntP s).2.2)), (21, .bool ((cntP s).2.2 == 0))] w2 (by kernel_rfl) .nil ?_
  refine GoS.fork 21 ((cntP s).2.2 == 0) (by kernel_rfl) (fun h5 => ?_) (fun h5 => ?_)
  ·
    have h5p : (cntP s).2.2 = 0 := eq_of_beq h5
    have o6 : (Instr.loadAt 9 (.pointer (some (⟨b, 0, none⟩)))).run Try.prog w2 = .ok (.string (sb (cntR s))) w2 := c_load pE9 (hM4.rd 0 rfl) (cel_obj b 0) rfl
    have o7 : (Builtin.len_ #[9] 3 #[.string (sb (cntR s))]).run Try.prog w2 = .ok (.int .i64 (((cntR s).length : Nat) : Int)) w2 := f_len (by kernel_rfl)
    refine GoS.run [0, 4, 5, 6, 29] [.n, .n, .n, .n, .h (.string (sb (cntR s))), .h (.int .i64 (((cntR s).length : Nat) : Int)), .n, .n] _ [.inRegion (cops (csub (cd Try.f13) [1,1,1,1,0,0])) [], .code (csub (cd Try.f13) [1,1,1,1,0,1]), .code (csub (cd Try.f13) [1,1,1,1,1])] [(0, .pointer (some (⟨b, 0, none⟩))), (4, .string (sb s)), (5, .int .i64 ((cntP s).1)), (6, .int .i64 ((cntP s).2.2)), (29, .bool (decide ((cntP s).1 > (((cntR s).length : Nat) : Int))))] w2 (by kernel_rfl) (.cons o6 (.cons o7 .nil)) ?_
    refine GoS.run [0, 4, 5, 6, 29] [.n] _ [.code (csub (cd Try.f13) [1,1,1,1,0,1]), .code (csub (cd Try.f13) [1,1,1,1,1])] [(0, .pointer (some (⟨b, 0, none⟩))), (4, .string (sb s)), (5, .int .i64 ((cntP s).1)), (6, .int .i64 ((cntP s).2.2)), (29, .bool (decide ((cntP s).1 > (((cntR s).length : Nat) : Int))))] w2 (by kernel_rfl) .nil ?_
    refine GoS.cond (decide ((cntP s).1 > (((cntR s).length : Nat) : Int))) [.code (csub (cd Try.f13) [1,1,1,1,0,1,0]), .code (csub (cd Try.f13) [1,1,1,1,1])] [.code (csub (cd Try.f13) [1,1,1,1,0,1,1]), .code (csub (cd Try.f13) [1,1,1,1,1])] (by kernel_rfl) (fun h8 => ?_) (fun h8 => ?_)
    ·
      have h8p : (cntP s).1 > (((cntR s).length : Nat) : Int) := of_decide_eq_true h8
      refine GoS.run [0, 4, 5, 6] [.n, .n, .n] _ [.code (csub (cd Try.f13) [1,1,1,1,1])] [(0, .pointer (some (⟨b, 0, none⟩))), (4, .string (sb s)), (5, .int .i64 ((cntP s).1)), (6, .int .i64 2)] w2 (by kernel_rfl) .nil ?_
      obtain ⟨w9, hr10, hM11⟩ := c_store (u := .string (sb s)) (by kernel_rfl) hM4 0 rfl (cel_obj b 0) (by decide) rfl rfl
      have hM12 : Mem S w0 w9 [⟨37, 1, (obj b), 1, [.string (sb s)]⟩] := hM11
      have o13 : (Instr.storeAt 9 (.pointer (some (⟨b, 0, none⟩))) (.string (sb s))).run Try.prog w2 = .ok () w9 ∧ undef = undef := ⟨hr10, rfl⟩
      refine GoS.run [2, 3] [.n, .n, .n, .n, .n, .n, .n, .n, .n, .n, .n, .n, .n, .u (undef) (w9), .n, .n, .n, .n, .n, .n, .n] _ [.code (csub (cd Try.f13) [1,1,1,1,1,0,1,0,1,1]), .code (csub (cd Try.f13) [1,1,1,1,1,1])] [(2, .string (sb ([]))), (3, .int .i64 2)] w9 (by kernel_rfl) (.cons o13 .nil) ?_
      refine GoS.ret (fn := Try.f13) (v := (.tuple #[.string (sb ([])), .int .i64 2])) Try.func13 (by kernel_rfl) ?_
      rw [hR]
      have hz := (beq_iff_eq.1 h5)
      obtain ⟨e1, e2, e3, _⟩ := blkE_short (s := s) hz (by omega)
      rw [e1, e2, e3]
      exact ⟨rfl, hM12⟩
    ·
      have h8p : ¬ ((cntP s).1 > (((cntR s).length : Nat) : Int)) := of_decide_eq_false h8
      refine GoS.run [0, 4, 5, 6] [.n] _ [.code (csub (cd Try.f13) [1,1,1,1,1])] [(0, .pointer (some (⟨b, 0, none⟩))), (4, .string (sb s)), (5, .int .i64 ((cntP s).1)), (6, .int .i64 ((cntP s).2.2))] w2 (by kernel_rfl) .nil ?_
      refine GoS.run [0, 4, 5, 6, 31] [.n, .n, .n, .n, .n, .n] _ [.code (csub (cd Try.f13) [1,1,1,1,1,0,1]), .code (csub (cd Try.f13) [1,1,1,1,1,1])] [(0, .pointer (some (⟨b, 0, none⟩))), (4, .string (sb s)), (5, .int .i64 ((cntP s).1)), (6, .int .i64 ((cntP s).2.2)), (31, .bool ((cntP s).2.2 != 0))] w2 (by kernel_rfl) .nil ?_
      refine GoS.cond ((cntP s).2.2 != 0) [.code (csub (cd Try.f13) [1,1,1,1,1,0,1,0]), .code (csub (cd Try.f13) [1,1,1,1,1,1])] [.code (csub (cd Try.f13) [1,1,1,1,1,0,1,1]), .code (csub (cd Try.f13) [1,1,1,1,1,1])] (by kernel_rfl) (fun h14 => ?_) (fun h14 => ?_)
      ·
        exact absurd (beq_iff_eq.1 h5) (bne_iff_ne.1 h14)
      ·
        have h14p : (cntP s).2.2 = 0 := p_eq h14
        refine GoS.run [0, 5] [.n] _ [.code (csub (cd Try.f13) [1,1,1,1,1,1])] [(0, .pointer (some (⟨b, 0, none⟩))), (5, .int .i64 ((cntP s).1))] w2 (by kernel_rfl) .nil ?_
        have o19 : (Instr.loadAt 9 (.pointer (some (⟨b, 0, none⟩)))).run Try.prog w2 = .ok (.string (sb (cntR s))) w2 := c_load pE9 (hM4.rd 0 rfl) (cel_obj b 0) rfl
        have o20 : (Instr.sliceAt 9 (.string (sb (cntR s))) none (some (.int .i64 ((cntP s).1))) none).run Try.prog w2 = .ok (.string (sb (List.take (Int.toNat ((cntP s).1)) (cntR s)))) w2 := f_slice_hi (Int.toNat ((cntP s).1)) (by kernel_rfl) (by omega) (by omega)
        have o21 : (Instr.loadAt 9 (.pointer (some (⟨b, 0, none⟩)))).run Try.prog w2 = .ok (.string (sb (cntR s))) w2 := c_load pE9 (hM4.rd 0 rfl) (cel_obj b 0) rfl
        have o22 : (Instr.sliceAt 9 (.string (sb (cntR s))) (some (.int .i64 ((cntP s).1))) none none).run Try.prog w2 = .ok (.string (sb (List.drop (Int.toNat ((cntP s).1)) (cntR s)))) w2 := f_slice_lo (Int.toNat ((cntP s).1)) (by kernel_rfl) (by omega) (by omega)
        obtain ⟨w15, hr16, hM17⟩ := c_store (u := .string (sb (List.drop (Int.toNat ((cntP s).1)) (cntR s)))) (by kernel_rfl) hM4 0 rfl (cel_obj b 0) (by decide) rfl rfl
        have hM18 : Mem S w0 w15 [⟨37, 1, (obj b), 1, [.string (sb (List.drop (Int.toNat ((cntP s).1)) (cntR s)))]⟩] := hM17
        have o23 : (Instr.storeAt 9 (.pointer (some (⟨b, 0, none⟩))) (.string (sb (List.drop (Int.toNat ((cntP s).1)) (cntR s))))).run Try.prog w2 = .ok () w15 ∧ undef = undef := ⟨hr16, rfl⟩
        refine GoS.run [2, 3] [.n, .n, .n, .n, .n, .h (.string (sb (cntR s))), .n, .h (.string (sb (List.take (Int.toNat ((cntP s).1)) (cntR s)))), .n, .n, .n, .n, .n, .n, .n, .n, .h (.string (sb (cntR s))), .n, .h (.string (sb (List.drop (Int.toNat ((cntP s).1)) (cntR s)))), .n, .n, .u (undef) (w15), .n, .n, .n, .n, .n, .n, .n] _ [.code (csub (cd Try.f13) [1,1,1,1,1,1,1,1,1])] [(2, .string (sb (List.take (Int.toNat ((cntP s).1)) (cntR s)))), (3, .int .i64 0)] w15 (by kernel_rfl) (.cons o19 (.cons o20 (.cons o21 (.cons o22 (.cons o23 .nil))))) ?_
        refine GoS.ret (fn := Try.f13) (v := (.tuple #[.string (sb (List.take (Int.toNat ((cntP s).1)) (cntR s))), .int .i64 0])) Try.func13 (by kernel_rfl) ?_
        rw [hR]
        have hz := (beq_iff_eq.1 h5)
        obtain ⟨e1, e2, e3, _⟩ := blkE_ok (s := s) hz (by omega)
        have hcr := cntR_eq s
        rw [e1, e2, e3]
        exact ⟨by rw [hcr], hM18.cast (by rw [hcr, List.drop_drop])⟩
  ·
    have h5p : ¬ ((cntP s).2.2 = 0) := p_ne h5
    refine GoS.run [0, 4, 5, 6, 29] [.n, .n, .n, .n, .n, .n, .n, .n] _ [.inRegion (cops (csub (cd Try.f13) [1,1,1,1,0,0])) [], .code (csub (cd Try.f13) [1,1,1,1,0,1]), .code (csub (cd Try.f13) [1,1,1,1,1])] [(0, .pointer (some (⟨b, 0, none⟩))), (4, .string (sb s)), (5, .int .i64 ((cntP s).1)), (6, .int .i64 ((cntP s).2.2)), (29, .bool false)] w2 (by kernel_rfl) .nil ?_
    refine GoS.run [0, 4, 5, 6, 31] [.n, .n, .n, .n, .n, .n, .n, .n, .n] _ [.code (csub (cd Try.f13) [1,1,1,1,1,0,1]), .code (csub (cd Try.f13) [1,1,1,1,1,1])] [(0, .pointer (some (⟨b, 0, none⟩))), (4, .string (sb s)), (5, .int .i64 ((cntP s).1)), (6, .int .i64 ((cntP s).2.2)), (31, .bool ((cntP s).2.2 != 0))] w2 (by kernel_rfl) .nil ?_
    refine GoS.cond ((cntP s).2.2 != 0) [.code (csub (cd Try.f13) [1,1,1,1,1,0,1,0]), .code (csub (cd Try.f13) [1,1,1,1,1,1])] [.code (csub (cd Try.f13) [1,1,1,1,1,0,1,1]), .code (csub (cd Try.f13) [1,1,1,1,1,1])] (by kernel_rfl) (fun h24 => ?_) (fun h24 => ?_)
    ·
      have h24p : ¬ ((cntP s).2.2 = 0) := bne_iff_ne.1 h24
      obtain ⟨w25, hr26, hM27⟩ := c_store (u := .string (sb s)) (by kernel_rfl) hM4 0 rfl (cel_obj b 0) (by decide) rfl rfl
      have hM28 : Mem S w0 w25 [⟨37, 1, (obj b), 1, [.string (sb s)]⟩] := hM27
      have o29 : (Instr.storeAt 9 (.pointer (some (⟨b, 0, none⟩))) (.string (sb s))).run Try.prog w2 = .ok () w25 ∧ undef = undef := ⟨hr26, rfl⟩
      refine GoS.run [2, 3] [.n, .n, .n, .n, .n, .n, .u (undef) (w25), .n, .n, .n, .n, .n, .n, .n] _ [.code (csub (cd Try.f13) [1,1,1,1,1,0,1,0,1,1]), .code (csub (cd Try.f13) [1,1,1,1,1,1])] [(2, .string (sb ([]))), (3, .int .i64 ((cntP s).2.2))] w25 (by kernel_rfl) (.cons o29 .nil) ?_
      refine GoS.ret (fn := Try.f13) (v := (.tuple #[.string (sb ([])), .int .i64 ((cntP s).2.2)])) Try.func13 (by kernel_rfl) ?_
      rw [hR]
      obtain ⟨e1, e2, e3, _⟩ := blkE_err (s := s) (beq_eq_false_iff_ne.1 h5)
      rw [e1, e2, e3]
      exact ⟨rfl, hM28⟩
    ·
      exact absurd (p_eq h24) (beq_eq_false_iff_ne.1 h5)

set_option maxHeartbeats 400000 in
theorem rreadblock_c (s : List UInt8) (hs : s.length ≤ 9223372036854775807) (w : World) :
    Calls Try.prog 18 #[.string (sb s)] w (fun e w' => e = .returned (.tuple #[.string (sb (blkS s)), .int .i64 ((blkN s : Nat) : Int), .int .i64 (blkE s)]) ∧ Mem [] w w' []) := by
  have hcb := cnt_bd s
  obtain ⟨R, hR⟩ : ∃ R : Ending → World → Prop, R = (fun e w' => e = .returned (.tuple #[.string (sb (blkS s)), .int .i64 ((blkN s : Nat) : Int), .int .i64 (blkE s)]) ∧ Mem [] w w' []) := ⟨_, rfl⟩
  rw [← hR]
  refine GoS.enter (n := 32) Try.func18 (by kernel_rfl) rfl [(0, .string (sb s))] (by kernel_rfl) (by kernel_rfl) ?_
  have hM0 := Mem.start w
  refine GoS.run [0, 9] [.n, .n, .n, .n, .n, .n, .n, .n, .n] _ [.inRegion (cops (csub (cd Try.f18) [1,0])) [1,2,3,4,5,6,7,8], .code (csub (cd Try.f18) [1,1])] [(0, .string (sb s)), (9, .string (sb s))] w (by kernel_rfl) .nil ?_
  refine GoS.call [0] 16 #[.string (sb s)] (some 10) [.inRegion (cops (csub (cd Try.f18) [1,0])) [2,3,4,5,6,7,8], .code (csub (cd Try.f18) [1,1])] [(0, .string (sb s))] (by kernel_rfl) (rreadcount_c s w) ?_
  rintro _ w1 ⟨rfl, m2⟩
  refine ⟨_, rfl, ?_⟩
  have hM3 := Mem.join hM0 m2
  refine GoS.run [0, 5, 6, 7, 15] [.n, .n, .n, .n, .n, .n, .n, .n, .n, .n, .n, .n, .n, .n] _ [.code (csub (cd Try.f18) [1,1,0,1]), .code (csub (cd Try.f18) [1,1,1])] [(0, .string (sb s)), (5, .int .i64 ((cntP s).1)), (6, .int .i64 ((cntP s).2.1)), (7, .int .i64 ((cntP s).2.2)), (15, .bool ((cntP s).2.2 != 0))] w1 (by kernel_rfl) .nil ?_
  refine GoS.cond ((cntP s).2.2 != 0) [.code (csub (cd Try.f18) [1,1,0,1,0]), .code (csub (cd Try.f18) [1,1,1])] [.code (csub (cd Try.f18) [1,1,0,1,1]), .code (csub (cd Try.f18) [1,1,1])] (by kernel_rfl) (fun h4 => ?_) (fun h4 => ?_)
  ·
    have h4p : ¬ ((cntP s).2.2 = 0) := bne_iff_ne.1 h4
    refine GoS.run [2, 3, 4] [.n, .n, .n, .n, .n, .n, .n] _ [.code (csub (cd Try.f18) [1,1,0,1,0,1]), .code (csub (cd Try.f18) [1,1,1])] [(2, .string (sb ([]))), (3, .int .i64 0), (4, .int .i64 ((cntP s).2.2))] w1 (by kernel_rfl) .nil ?_
    refine GoS.ret (fn := Try.f18) (v := (.tuple #[.string (sb ([])), .int .i64 0, .int .i64 ((cntP s).2.2)])) Try.func18 (by kernel_rfl) ?_
    rw [hR]
    obtain ⟨e1, e2, _, e4⟩ := blkE_err (s := s) (bne_iff_ne.1 h4)
    rw [e1, e2, e4]
    exact ⟨rfl, hM3⟩
  ·
    have h4p : (cntP s).2.2 = 0 := p_eq h4
    refine GoS.run [0, 5, 6] [.n] _ [.code (csub (cd Try.f18) [1,1,1])] [(0, .string (sb s)), (5, .int .i64 ((cntP s).1)), (6, .int .i64 ((cntP s).2.1))] w1 (by kernel_rfl) .nil ?_
    have o5 : (Builtin.len_ #[9] 3 #[.string (sb s)]).run Try.prog w1 = .ok (.int .i64 ((s.length : Nat) : Int)) w1 := f_len (by kernel_rfl)
    have o6 : (binOp .sub 3 (.int .i64 ((s.length : Nat) : Int)) (.int .i64 ((cntP s).2.1))).run Try.prog w1 = .ok (.int .i64 (((s.length : Nat) : Int) - (cntP s).2.1)) w1 := f_sub (IntWalk.i64_in _ (by omega))
    refine GoS.run [0, 5, 6, 22] [.n, .n, .n, .n, .n, .h (.int .i64 ((s.length : Nat) : Int)), .n, .h (.int .i64 (((s.length : Nat) : Int) - (cntP s).2.1)), .n, .n] _ [.code (csub (cd Try.f18) [1,1,1,0,1]), .code (csub (cd Try.f18) [1,1,1,1])] [(0, .string (sb s)), (5, .int .i64 ((cntP s).1)), (6, .int .i64 ((cntP s).2.1)), (22, .bool (decide ((cntP s).1 > (((s.length : Nat) : Int) - (cntP s).2.1))))] w1 (by kernel_rfl) (.cons o5 (.cons o6 .nil)) ?_
    refine GoS.cond (decide ((cntP s).1 > (((s.length : Nat) : Int) - (cntP s).2.1))) [.code (csub (cd Try.f18) [1,1,1,0,1,0]), .code (csub (cd Try.f18) [1,1,1,1])] [.code (csub (cd Try.f18) [1,1,1,0,1,1]), .code (csub (cd Try.f18) [1,1,1,1])] (by kernel_rfl) (fun h7 => ?_) (fun h7 => ?_)
    ·
      have h7p : (cntP s).1 > (((s.length : Nat) : Int) - (cntP s).2.1) := of_decide_eq_true h7
      refine GoS.run [2, 3, 4] [.n, .n, .n, .n, .n, .n] _ [.code (csub (cd Try.f18) [1,1,1,0,1,0,1]), .code (csub (cd Try.f18) [1,1,1,1])] [(2, .string (sb ([]))), (3, .int .i64 0), (4, .int .i64 2)] w1 (by kernel_rfl) .nil ?_
      refine GoS.ret (fn := Try.f18) (v := (.tuple #[.string (sb ([])), .int .i64 0, .int .i64 2])) Try.func18 (by kernel_rfl) ?_
      rw [hR]
      obtain ⟨e1, e2, _, e4⟩ := blkE_short (s := s) (p_eq h4) (by omega)
      rw [e1, e2, e4]
      exact ⟨rfl, hM3⟩
    ·
      have h7p : ¬ ((cntP s).1 > (((s.length : Nat) : Int) - (cntP s).2.1)) := of_decide_eq_false h7
      refine GoS.run [0, 5, 6] [.n] _ [.code (csub (cd Try.f18) [1,1,1,1])] [(0, .string (sb s)), (5, .int .i64 ((cntP s).1)), (6, .int .i64 ((cntP s).2.1))] w1 (by kernel_rfl) .nil ?_
      have o8 : (binOp .add 3 (.int .i64 ((cntP s).2.1)) (.int .i64 ((cntP s).1))).run Try.prog w1 = .ok (.int .i64 ((cntP s).2.1 + (cntP s).1)) w1 := f_add (IntWalk.i64_in _ (by omega))
      have o9 : (Instr.sliceAt 9 (.string (sb s)) (some (.int .i64 ((cntP s).2.1))) (some (.int .i64 ((cntP s).2.1 + (cntP s).1))) none).run Try.prog w1 = .ok (.string (sb (List.drop (Int.toNat ((cntP s).2.1)) (List.take (Int.toNat ((cntP s).2.1 + (cntP s).1)) s)))) w1 := f_slice_lohi (Int.toNat ((cntP s).2.1)) (Int.toNat ((cntP s).2.1 + (cntP s).1)) (by kernel_rfl) (by omega) (by omega) (by omega) (by omega)
      have o10 : (binOp .add 3 (.int .i64 ((cntP s).2.1)) (.int .i64 ((cntP s).1))).run Try.prog w1 = .ok (.int .i64 ((cntP s).2.1 + (cntP s).1)) w1 := f_add (IntWalk.i64_in _ (by omega))
      refine GoS.run [2, 3, 4] [.n, .n, .n, .n, .n, .n, .h (.int .i64 ((cntP s).2.1 + (cntP s).1)), .h (.string (sb (List.drop (Int.toNat ((cntP s).2.1)) (List.take (Int.toNat ((cntP s).2.1 + (cntP s).1)) s)))), .n, .n, .h (.int .i64 ((cntP s).2.1 + (cntP s).1)), .n, .n, .n, .n] _ [.code (csub (cd Try.f18) [1,1,1,1,1])] [(2, .string (sb (List.drop (Int.toNat ((cntP s).2.1)) (List.take (Int.toNat ((cntP s).2.1 + (cntP s).1)) s)))), (3, .int .i64 ((cntP s).2.1 + (cntP s).1)), (4, .int .i64 0)] w1 (by kernel_rfl) (.cons o8 (.cons o9 (.cons o10 .nil))) ?_
      refine GoS.ret (fn := Try.f18) (v := (.tuple #[.string (sb (List.drop (Int.toNat ((cntP s).2.1)) (List.take (Int.toNat ((cntP s).2.1 + (cntP s).1)) s))), .int .i64 ((cntP s).2.1 + (cntP s).1), .int .i64 0])) Try.func18 (by kernel_rfl) ?_
      rw [hR]
      obtain ⟨e1, e2, _, e4⟩ := blkE_ok (s := s) (p_eq h4) (by omega)
      rw [e1, e2, e4]
      exact ⟨ret_blk (by rw [List.drop_take]; congr 1; omega) (by omega) rfl, hM3⟩


end Go.Proofs.Ytmjkbmlcclmdkaa
