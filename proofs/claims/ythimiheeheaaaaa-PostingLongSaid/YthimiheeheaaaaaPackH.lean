/-
  The walk of Pack, of the reference.
-/
import Derived.Test.YthimiheeheaaaaaPackG
import Derived.Test.YthimiheeheaaaaaNumE
namespace Go.Proofs.Ythimiheeheaaaaa
open Go Go.Gw Go.NumP Go.LiveP Go.PackP Go.RowKit
set_option linter.unusedVariables false
set_option linter.unusedSimpArgs false


set_option maxHeartbeats 400000 in
theorem rpack_L2 (u : Value) (l : List Int) {w0 : World} (hu : Rd w0 1 u l.length (ivals .i64 l)) (hw : ∀ n ∈ l, n ≤ 9223372036854775807) (hl : l.length ≤ 140737488355328) (hneg : negs l = false) (R : Ending → World → Prop) (hR : R = (fun e w' => e = .returned (.tuple #[.string (sb (packT l)), .int .i64 (packE l)]) ∧ Mem [] w0 w' [])) : ∀ (N : Nat) (j : Nat) (w : World) (hj : 128 * j ≤ l.length + 127) (hM : Mem [] w0 w []) (hN : l.length - 128 * j < N), GoS Try.prog 27 R 44 [.code (csub (cd Try.f27) [1,1,1,0,1,0,0]), .inLoop (csub (cd Try.f27) [1,1,1,0,1,0,0]), .inBlock 2, .code (csub (cd Try.f27) [1,1,1,1])] [(0, u), (4, .string (sb ((bytesOf (numB ((List.length l : Nat) : Int))) ++ pre l j))), (6, .int .i64 (((128 * j) : Nat) : Int))] w := by
  intro N
  induction N with
  | zero => intro j w hj hM hN; exact absurd hN (Nat.not_lt_zero _)
  | succ N ih =>
    intro j w hj hM hN
    have hfit := fit_of hneg hw
    have o1 : (Builtin.len_ #[38] 3 #[u]).run Try.prog w = .ok (.int .i64 (((List.length l) : Nat) : Int)) w := f_slen sT38 (hu.kept0 hM.kept) 3 _
    refine GoS.run [0, 4, 6, 25] [.n, .n, .n, .n, .n, .h (.int .i64 (((List.length l) : Nat) : Int)), .n, .n] _ [.code (csub (cd Try.f27) [1,1,1,0,1,0,0,0,1]), .code (csub (cd Try.f27) [1,1,1,0,1,0,0,1]), .inLoop (csub (cd Try.f27) [1,1,1,0,1,0,0]), .inBlock 2, .code (csub (cd Try.f27) [1,1,1,1])] [(0, u), (4, .string (sb ((bytesOf (numB ((List.length l : Nat) : Int))) ++ pre l j))), (6, .int .i64 (((128 * j) : Nat) : Int)), (25, .bool (decide ((((128 * j) : Nat) : Int) < (((List.length l) : Nat) : Int))))] w (by kernel_rfl) (.cons o1 .nil) ?_
    refine GoS.cond (decide ((((128 * j) : Nat) : Int) < (((List.length l) : Nat) : Int))) [.code (csub (cd Try.f27) [1,1,1,0,1,0,0,0,1,0]), .code (csub (cd Try.f27) [1,1,1,0,1,0,0,1]), .inLoop (csub (cd Try.f27) [1,1,1,0,1,0,0]), .inBlock 2, .code (csub (cd Try.f27) [1,1,1,1])] [.code (csub (cd Try.f27) [1,1,1,0,1,0,0,0,1,1]), .code (csub (cd Try.f27) [1,1,1,0,1,0,0,1]), .inLoop (csub (cd Try.f27) [1,1,1,0,1,0,0]), .inBlock 2, .code (csub (cd Try.f27) [1,1,1,1])] (by kernel_rfl) (fun h2 => ?_) (fun h2 => ?_)
    ·
      have h2p : (((128 * j) : Nat) : Int) < (((List.length l) : Nat) : Int) := of_decide_eq_true h2
      refine GoS.run [0, 4, 6] [.n] _ [.code (csub (cd Try.f27) [1,1,1,0,1,0,0,1]), .inLoop (csub (cd Try.f27) [1,1,1,0,1,0,0]), .inBlock 2, .code (csub (cd Try.f27) [1,1,1,1])] [(0, u), (4, .string (sb ((bytesOf (numB ((List.length l : Nat) : Int))) ++ pre l j))), (6, .int .i64 (((128 * j) : Nat) : Int))] w (by kernel_rfl) .nil ?_
      have o3 : (binOp .add 3 (.int .i64 (((128 * j) : Nat) : Int)) (.int .i64 128)).run Try.prog w = .ok (.int .i64 ((((128 * j) + 128) : Nat) : Int)) w := f_add (by rw [show (((128 * j) : Nat) : Int) + 128 = ((((128 * j) + 128) : Nat) : Int) by omega]; exact IntWalk.i64_in _ (by omega))
      have o4 : (Builtin.len_ #[38] 3 #[u]).run Try.prog w = .ok (.int .i64 (((List.length l) : Nat) : Int)) w := f_slen sT38 (hu.kept0 hM.kept) 3 _
      refine GoS.run [0, 4, 6, 7, 33] [.n, .n, .n, .n, .n, .h (.int .i64 ((((128 * j) + 128) : Nat) : Int)), .n, .n, .n, .n, .n, .n, .n, .h (.int .i64 (((List.length l) : Nat) : Int)), .n, .n] _ [.code (csub (cd Try.f27) [1,1,1,0,1,0,0,1,0,0,1,0,1]), .code (csub (cd Try.f27) [1,1,1,0,1,0,0,1,0,0,1,1]), .inBlock 3, .code (csub (cd Try.f27) [1,1,1,0,1,0,0,1,1]), .inLoop (csub (cd Try.f27) [1,1,1,0,1,0,0]), .inBlock 2, .code (csub (cd Try.f27) [1,1,1,1])] [(0, u), (4, .string (sb ((bytesOf (numB ((List.length l : Nat) : Int))) ++ pre l j))), (6, .int .i64 (((128 * j) : Nat) : Int)), (7, .int .i64 ((((128 * j) + 128) : Nat) : Int)), (33, .bool (decide (((((128 * j) + 128) : Nat) : Int) > (((List.length l) : Nat) : Int))))] w (by kernel_rfl) (.cons o3 (.cons o4 .nil)) ?_
      refine GoS.cond (decide (((((128 * j) + 128) : Nat) : Int) > (((List.length l) : Nat) : Int))) [.code (csub (cd Try.f27) [1,1,1,0,1,0,0,1,0,0,1,0,1,0]), .code (csub (cd Try.f27) [1,1,1,0,1,0,0,1,0,0,1,1]), .inBlock 3, .code (csub (cd Try.f27) [1,1,1,0,1,0,0,1,1]), .inLoop (csub (cd Try.f27) [1,1,1,0,1,0,0]), .inBlock 2, .code (csub (cd Try.f27) [1,1,1,1])] [.code (csub (cd Try.f27) [1,1,1,0,1,0,0,1,0,0,1,0,1,1]), .code (csub (cd Try.f27) [1,1,1,0,1,0,0,1,0,0,1,1]), .inBlock 3, .code (csub (cd Try.f27) [1,1,1,0,1,0,0,1,1]), .inLoop (csub (cd Try.f27) [1,1,1,0,1,0,0]), .inBlock 2, .code (csub (cd Try.f27) [1,1,1,1])] (by kernel_rfl) (fun h5 => ?_) (fun h5 => ?_)
      ·
        have h5p : ((((128 * j) + 128) : Nat) : Int) > (((List.length l) : Nat) : Int) := of_decide_eq_true h5
        have o6 : (Builtin.len_ #[38] 3 #[u]).run Try.prog w = .ok (.int .i64 (((List.length l) : Nat) : Int)) w := f_slen sT38 (hu.kept0 hM.kept) 3 _
        refine GoS.run [0, 4, 6, 7] [.n, .n, .h (.int .i64 (((List.length l) : Nat) : Int)), .n, .n] _ [.code (csub (cd Try.f27) [1,1,1,0,1,0,0,1,0,0,1,1]), .inBlock 3, .code (csub (cd Try.f27) [1,1,1,0,1,0,0,1,1]), .inLoop (csub (cd Try.f27) [1,1,1,0,1,0,0]), .inBlock 2, .code (csub (cd Try.f27) [1,1,1,1])] [(0, u), (4, .string (sb ((bytesOf (numB ((List.length l : Nat) : Int))) ++ pre l j))), (6, .int .i64 (((128 * j) : Nat) : Int)), (7, .int .i64 (((List.length l) : Nat) : Int))] w (by kernel_rfl) (.cons o6 .nil) ?_
        obtain ⟨v7, hr8, hv9, _⟩ := f_part sT38 hu (128 * j) (List.length l) (x := (((128 * j) : Nat) : Int)) (y := (((List.length l) : Nat) : Int)) (by omega) (by omega) (by first | omega | (dsimp only; omega)) (by first | omega | (dsimp only; omega))
        replace hv9 : Rd w0 1 v7 (List.length (chunk l j)) (ivals .i64 (chunk l j)) := rd_cast (rd_castn hv9 (by rw [← chunk_of (l := l) (j := j) (m := (List.length l)) (by first | (left; rfl) | (right; omega)), List.length_drop, List.length_take]; omega)) (by unfold ivals; rw [Nat.mul_one, Nat.mul_one, ← List.map_take, ← List.map_drop, chunk_of (by first | (left; rfl) | (right; omega))])
        have o10 : (Instr.sliceAt 38 (u) (some (.int .i64 (((128 * j) : Nat) : Int))) (some (.int .i64 (((List.length l) : Nat) : Int))) none).run Try.prog w = .ok v7 w := hr8 _ _ _
        refine GoS.run [0, 6, 36, 40] [.n, .n, .n, .n, .n, .h (v7)] _ [.inRegion (cops (csub (cd Try.f27) [1,1,1,0,1,0,0,1,0,0,1,1])) [5,6,7], .inBlock 3, .code (csub (cd Try.f27) [1,1,1,0,1,0,0,1,1]), .inLoop (csub (cd Try.f27) [1,1,1,0,1,0,0]), .inBlock 2, .code (csub (cd Try.f27) [1,1,1,1])] [(0, u), (6, .int .i64 (((128 * j) : Nat) : Int)), (36, .string (sb ((bytesOf (numB ((List.length l : Nat) : Int))) ++ pre l j))), (40, v7)] w (by kernel_rfl) (.cons o10 .nil) ?_
        refine GoS.call [0, 6, 36] 36 #[v7] (some 41) [.inRegion (cops (csub (cd Try.f27) [1,1,1,0,1,0,0,1,0,0,1,1])) [6,7], .inBlock 3, .code (csub (cd Try.f27) [1,1,1,0,1,0,0,1,1]), .inLoop (csub (cd Try.f27) [1,1,1,0,1,0,0]), .inBlock 2, .code (csub (cd Try.f27) [1,1,1,1])] [(0, u), (6, .int .i64 (((128 * j) : Nat) : Int)), (36, .string (sb ((bytesOf (numB ((List.length l : Nat) : Int))) ++ pre l j)))] (by kernel_rfl) (rblock_c v7 (chunk l j) w (hv9.kept0 hM.kept) (by exact hfit.chunk _) (by rw [chunk_len]; omega)) ?_
        rintro _ w11 ⟨rfl, m12⟩
        refine ⟨_, rfl, ?_⟩
        have hM13 := Mem.join hM m12
        have hbl14 := blkB_le (l := (chunk l j)) (by exact hfit.chunk _) (by rw [chunk_len]; omega)
        have o15 : (binOp .add 9 (.string (sb ((bytesOf (numB ((List.length l : Nat) : Int))) ++ pre l j))) (.string (sb (blkB (chunk l j))))).run Try.prog w11 = .ok (.string (sb (((bytesOf (numB ((List.length l : Nat) : Int))) ++ pre l j) ++ (blkB (chunk l j))))) w11 := f_stradd (by have q1 := numB_len (l.length : Int); have q2 := pre_len hfit j; have q3 := blkB_le (hfit.chunk j) (by rw [chunk_len]; omega); simp only [List.length_append, NumP.bytesOf_len]; omega)
        have o16 : (binOp .add 3 (.int .i64 (((128 * j) : Nat) : Int)) (.int .i64 128)).run Try.prog w11 = .ok (.int .i64 ((((128 * j) + 128) : Nat) : Int)) w11 := f_add (by rw [show (((128 * j) : Nat) : Int) + 128 = ((((128 * j) + 128) : Nat) : Int) by omega]; exact IntWalk.i64_in _ (by omega))
        refine GoS.run [0, 4, 6] [.h (.string (sb (((bytesOf (numB ((List.length l : Nat) : Int))) ++ pre l j) ++ (blkB (chunk l j))))), .n, .n, .n, .n, .n, .h (.int .i64 ((((128 * j) + 128) : Nat) : Int)), .n, .n, .n] _ [.code (csub (cd Try.f27) [1,1,1,0,1,0,0]), .inLoop (csub (cd Try.f27) [1,1,1,0,1,0,0]), .inBlock 2, .code (csub (cd Try.f27) [1,1,1,1])] [(0, u), (4, .string (sb (((bytesOf (numB ((List.length l : Nat) : Int))) ++ pre l j) ++ (blkB (chunk l j))))), (6, .int .i64 ((((128 * j) + 128) : Nat) : Int))] w11 (by kernel_rfl) (.cons o15 (.cons o16 .nil)) ?_
        exact GoS.cast (by rw [pre_succ, List.append_assoc]; first | done | rfl) (ih (j + 1) _ (by omega) hM13 (by omega))
      ·
        have h5p : ¬ (((((128 * j) + 128) : Nat) : Int) > (((List.length l) : Nat) : Int)) := of_decide_eq_false h5
        refine GoS.run [0, 4, 6, 7] [.n] _ [.code (csub (cd Try.f27) [1,1,1,0,1,0,0,1,0,0,1,1]), .inBlock 3, .code (csub (cd Try.f27) [1,1,1,0,1,0,0,1,1]), .inLoop (csub (cd Try.f27) [1,1,1,0,1,0,0]), .inBlock 2, .code (csub (cd Try.f27) [1,1,1,1])] [(0, u), (4, .string (sb ((bytesOf (numB ((List.length l : Nat) : Int))) ++ pre l j))), (6, .int .i64 (((128 * j) : Nat) : Int)), (7, .int .i64 ((((128 * j) + 128) : Nat) : Int))] w (by kernel_rfl) .nil ?_
        obtain ⟨v17, hr18, hv19, _⟩ := f_part sT38 hu (128 * j) ((128 * j) + 128) (x := (((128 * j) : Nat) : Int)) (y := ((((128 * j) + 128) : Nat) : Int)) (by omega) (by omega) (by first | omega | (dsimp only; omega)) (by first | omega | (dsimp only; omega))
        replace hv19 : Rd w0 1 v17 (List.length (chunk l j)) (ivals .i64 (chunk l j)) := rd_cast (rd_castn hv19 (by rw [← chunk_of (l := l) (j := j) (m := ((128 * j) + 128)) (by first | (left; rfl) | (right; omega)), List.length_drop, List.length_take]; omega)) (by unfold ivals; rw [Nat.mul_one, Nat.mul_one, ← List.map_take, ← List.map_drop, chunk_of (by first | (left; rfl) | (right; omega))])
        have o20 : (Instr.sliceAt 38 (u) (some (.int .i64 (((128 * j) : Nat) : Int))) (some (.int .i64 ((((128 * j) + 128) : Nat) : Int))) none).run Try.prog w = .ok v17 w := hr18 _ _ _
        refine GoS.run [0, 6, 36, 40] [.n, .n, .n, .n, .n, .h (v17)] _ [.inRegion (cops (csub (cd Try.f27) [1,1,1,0,1,0,0,1,0,0,1,1])) [5,6,7], .inBlock 3, .code (csub (cd Try.f27) [1,1,1,0,1,0,0,1,1]), .inLoop (csub (cd Try.f27) [1,1,1,0,1,0,0]), .inBlock 2, .code (csub (cd Try.f27) [1,1,1,1])] [(0, u), (6, .int .i64 (((128 * j) : Nat) : Int)), (36, .string (sb ((bytesOf (numB ((List.length l : Nat) : Int))) ++ pre l j))), (40, v17)] w (by kernel_rfl) (.cons o20 .nil) ?_
        refine GoS.call [0, 6, 36] 36 #[v17] (some 41) [.inRegion (cops (csub (cd Try.f27) [1,1,1,0,1,0,0,1,0,0,1,1])) [6,7], .inBlock 3, .code (csub (cd Try.f27) [1,1,1,0,1,0,0,1,1]), .inLoop (csub (cd Try.f27) [1,1,1,0,1,0,0]), .inBlock 2, .code (csub (cd Try.f27) [1,1,1,1])] [(0, u), (6, .int .i64 (((128 * j) : Nat) : Int)), (36, .string (sb ((bytesOf (numB ((List.length l : Nat) : Int))) ++ pre l j)))] (by kernel_rfl) (rblock_c v17 (chunk l j) w (hv19.kept0 hM.kept) (by exact hfit.chunk _) (by rw [chunk_len]; omega)) ?_
        rintro _ w21 ⟨rfl, m22⟩
        refine ⟨_, rfl, ?_⟩
        have hM23 := Mem.join hM m22
        have hbl24 := blkB_le (l := (chunk l j)) (by exact hfit.chunk _) (by rw [chunk_len]; omega)
        have o25 : (binOp .add 9 (.string (sb ((bytesOf (numB ((List.length l : Nat) : Int))) ++ pre l j))) (.string (sb (blkB (chunk l j))))).run Try.prog w21 = .ok (.string (sb (((bytesOf (numB ((List.length l : Nat) : Int))) ++ pre l j) ++ (blkB (chunk l j))))) w21 := f_stradd (by have q1 := numB_len (l.length : Int); have q2 := pre_len hfit j; have q3 := blkB_le (hfit.chunk j) (by rw [chunk_len]; omega); simp only [List.length_append, NumP.bytesOf_len]; omega)
        have o26 : (binOp .add 3 (.int .i64 (((128 * j) : Nat) : Int)) (.int .i64 128)).run Try.prog w21 = .ok (.int .i64 ((((128 * j) + 128) : Nat) : Int)) w21 := f_add (by rw [show (((128 * j) : Nat) : Int) + 128 = ((((128 * j) + 128) : Nat) : Int) by omega]; exact IntWalk.i64_in _ (by omega))
        refine GoS.run [0, 4, 6] [.h (.string (sb (((bytesOf (numB ((List.length l : Nat) : Int))) ++ pre l j) ++ (blkB (chunk l j))))), .n, .n, .n, .n, .n, .h (.int .i64 ((((128 * j) + 128) : Nat) : Int)), .n, .n, .n] _ [.code (csub (cd Try.f27) [1,1,1,0,1,0,0]), .inLoop (csub (cd Try.f27) [1,1,1,0,1,0,0]), .inBlock 2, .code (csub (cd Try.f27) [1,1,1,1])] [(0, u), (4, .string (sb (((bytesOf (numB ((List.length l : Nat) : Int))) ++ pre l j) ++ (blkB (chunk l j))))), (6, .int .i64 ((((128 * j) + 128) : Nat) : Int))] w21 (by kernel_rfl) (.cons o25 (.cons o26 .nil)) ?_
        exact GoS.cast (by rw [pre_succ, List.append_assoc]; first | done | rfl) (ih (j + 1) _ (by omega) hM23 (by omega))
    ·
      have h2p : ¬ ((((128 * j) : Nat) : Int) < (((List.length l) : Nat) : Int)) := of_decide_eq_false h2
      refine GoS.run [2, 3] [.n, .n, .n, .n, .n, .n, .n] _ [.code (csub (cd Try.f27) [1,1,1,1,1])] [(2, .string (sb ((bytesOf (numB ((List.length l : Nat) : Int))) ++ pre l j))), (3, .int .i64 0)] w (by kernel_rfl) .nil ?_
      refine GoS.ret (fn := Try.f27) (v := (.tuple #[.string (sb ((bytesOf (numB ((List.length l : Nat) : Int))) ++ pre l j)), .int .i64 0])) Try.func27 (by kernel_rfl) ?_
      rw [hR]
      have hz : ¬ 0 < l.length - 128 * j := by omega
      have e : j = cnt l := cnt_end hz hj
      subst e
      exact ⟨by unfold packT packE; rw [hneg]; rfl, hM⟩

set_option maxHeartbeats 400000 in
theorem rpack_L1 (u : Value) (l : List Int) {w0 : World} (hu : Rd w0 1 u l.length (ivals .i64 l)) (hw : ∀ n ∈ l, n ≤ 9223372036854775807) (hl : l.length ≤ 140737488355328) (R : Ending → World → Prop) (hR : R = (fun e w' => e = .returned (.tuple #[.string (sb (packT l)), .int .i64 (packE l)]) ∧ Mem [] w0 w' [])) : ∀ (N : Nat) (k : Nat) (w : World) (hk : k ≤ l.length) (hneg : ∀ j, j < k → ¬ l.getD j 0 < 0) (hM : Mem [] w0 w []) (hN : l.length - k < N), GoS Try.prog 27 R 44 [.code (csub (cd Try.f27) [1,1,0,1,0,0]), .inLoop (csub (cd Try.f27) [1,1,0,1,0,0]), .inBlock 0, .code (csub (cd Try.f27) [1,1,1])] [(0, u), (4, .string (sb (bytesOf (numB (((List.length l) : Nat) : Int))))), (5, .int .i64 ((k : Nat) : Int))] w := by
  intro N
  induction N with
  | zero => intro k w hk hneg hM hN; exact absurd hN (Nat.not_lt_zero _)
  | succ N ih =>
    intro k w hk hneg hM hN
    have o1 : (Builtin.len_ #[38] 3 #[u]).run Try.prog w = .ok (.int .i64 (((List.length l) : Nat) : Int)) w := f_slen sT38 (hu.kept0 hM.kept) 3 _
    refine GoS.run [0, 4, 5, 14] [.n, .n, .n, .n, .n, .h (.int .i64 (((List.length l) : Nat) : Int)), .n, .n] _ [.code (csub (cd Try.f27) [1,1,0,1,0,0,0,1]), .code (csub (cd Try.f27) [1,1,0,1,0,0,1]), .inLoop (csub (cd Try.f27) [1,1,0,1,0,0]), .inBlock 0, .code (csub (cd Try.f27) [1,1,1])] [(0, u), (4, .string (sb (bytesOf (numB (((List.length l) : Nat) : Int))))), (5, .int .i64 ((k : Nat) : Int)), (14, .bool (decide (((k : Nat) : Int) < (((List.length l) : Nat) : Int))))] w (by kernel_rfl) (.cons o1 .nil) ?_
    refine GoS.cond (decide (((k : Nat) : Int) < (((List.length l) : Nat) : Int))) [.code (csub (cd Try.f27) [1,1,0,1,0,0,0,1,0]), .code (csub (cd Try.f27) [1,1,0,1,0,0,1]), .inLoop (csub (cd Try.f27) [1,1,0,1,0,0]), .inBlock 0, .code (csub (cd Try.f27) [1,1,1])] [.code (csub (cd Try.f27) [1,1,0,1,0,0,0,1,1]), .code (csub (cd Try.f27) [1,1,0,1,0,0,1]), .inLoop (csub (cd Try.f27) [1,1,0,1,0,0]), .inBlock 0, .code (csub (cd Try.f27) [1,1,1])] (by kernel_rfl) (fun h2 => ?_) (fun h2 => ?_)
    ·
      have h2p : ((k : Nat) : Int) < (((List.length l) : Nat) : Int) := of_decide_eq_true h2
      refine GoS.run [0, 4, 5] [.n] _ [.code (csub (cd Try.f27) [1,1,0,1,0,0,1]), .inLoop (csub (cd Try.f27) [1,1,0,1,0,0]), .inBlock 0, .code (csub (cd Try.f27) [1,1,1])] [(0, u), (4, .string (sb (bytesOf (numB (((List.length l) : Nat) : Int))))), (5, .int .i64 ((k : Nat) : Int))] w (by kernel_rfl) .nil ?_
      obtain ⟨p3, hp4, hq5⟩ := rd_at (i := ((k : Nat) : Int)) sT38 (hu.kept0 hM.kept) k (by omega) (by first | omega | (dsimp only; omega))
      have o6 : (Instr.indexAt 38 (u) (.int .i64 ((k : Nat) : Int))).run Try.prog w = .ok (.pointer (some p3)) w := hq5 _ _
      have o7 : (Instr.loadAt 3 (.pointer (some p3))).run Try.prog w = .ok (.int .i64 (List.getD l k 0)) w := at_load pE3 (hu.kept0 hM.kept) hp4 (ivals_at (by first | omega | (dsimp only; omega)))
      refine GoS.run [0, 4, 5, 21] [.n, .n, .n, .n, .n, .n, .h (.pointer (some p3)), .h (.int .i64 (List.getD l k 0)), .n, .n] _ [.code (csub (cd Try.f27) [1,1,0,1,0,0,1,0,0,1]), .inBlock 1, .code (csub (cd Try.f27) [1,1,0,1,0,0,1,1]), .inLoop (csub (cd Try.f27) [1,1,0,1,0,0]), .inBlock 0, .code (csub (cd Try.f27) [1,1,1])] [(0, u), (4, .string (sb (bytesOf (numB (((List.length l) : Nat) : Int))))), (5, .int .i64 ((k : Nat) : Int)), (21, .bool (decide ((List.getD l k 0) < 0)))] w (by kernel_rfl) (.cons o6 (.cons o7 .nil)) ?_
      refine GoS.cond (decide ((List.getD l k 0) < 0)) [.code (csub (cd Try.f27) [1,1,0,1,0,0,1,0,0,1,0]), .inBlock 1, .code (csub (cd Try.f27) [1,1,0,1,0,0,1,1]), .inLoop (csub (cd Try.f27) [1,1,0,1,0,0]), .inBlock 0, .code (csub (cd Try.f27) [1,1,1])] [.code (csub (cd Try.f27) [1,1,0,1,0,0,1,0,0,1,1]), .inBlock 1, .code (csub (cd Try.f27) [1,1,0,1,0,0,1,1]), .inLoop (csub (cd Try.f27) [1,1,0,1,0,0]), .inBlock 0, .code (csub (cd Try.f27) [1,1,1])] (by kernel_rfl) (fun h8 => ?_) (fun h8 => ?_)
      ·
        have h8p : (List.getD l k 0) < 0 := of_decide_eq_true h8
        refine GoS.run [2, 3] [.n, .n, .n, .n, .n] _ [.code (csub (cd Try.f27) [1,1,0,1,0,0,1,0,0,1,0,1]), .inBlock 1, .code (csub (cd Try.f27) [1,1,0,1,0,0,1,1]), .inLoop (csub (cd Try.f27) [1,1,0,1,0,0]), .inBlock 0, .code (csub (cd Try.f27) [1,1,1])] [(2, .string (sb ([]))), (3, .int .i64 1)] w (by kernel_rfl) .nil ?_
        refine GoS.ret (fn := Try.f27) (v := (.tuple #[.string (sb ([])), .int .i64 1])) Try.func27 (by kernel_rfl) ?_
        rw [hR]
        have e : negs l = true := negs_yes (by omega) h8p
        exact ⟨by unfold packT packE; rw [if_pos e, if_pos e], hM⟩
      ·
        have h8p : ¬ ((List.getD l k 0) < 0) := of_decide_eq_false h8
        refine GoS.run [0, 4, 5] [.n] _ [.inBlock 1, .code (csub (cd Try.f27) [1,1,0,1,0,0,1,1]), .inLoop (csub (cd Try.f27) [1,1,0,1,0,0]), .inBlock 0, .code (csub (cd Try.f27) [1,1,1])] [(0, u), (4, .string (sb (bytesOf (numB (((List.length l) : Nat) : Int))))), (5, .int .i64 ((k : Nat) : Int))] w (by kernel_rfl) .nil ?_
        have o9 : (binOp .add 3 (.int .i64 ((k : Nat) : Int)) (.int .i64 1)).run Try.prog w = .ok (.int .i64 (((k + 1) : Nat) : Int)) w := f_add (by rw [show ((k : Nat) : Int) + 1 = (((k + 1) : Nat) : Int) by omega]; exact IntWalk.i64_in _ (by omega))
        refine GoS.run [0, 4, 5] [.n, .n, .n, .h (.int .i64 (((k + 1) : Nat) : Int)), .n, .n, .n] _ [.code (csub (cd Try.f27) [1,1,0,1,0,0]), .inLoop (csub (cd Try.f27) [1,1,0,1,0,0]), .inBlock 0, .code (csub (cd Try.f27) [1,1,1])] [(0, u), (4, .string (sb (bytesOf (numB (((List.length l) : Nat) : Int))))), (5, .int .i64 (((k + 1) : Nat) : Int))] w (by kernel_rfl) (.cons o9 .nil) ?_
        exact ih (k + 1) _ (by omega) (fun j hj => by rcases Nat.lt_succ_iff_lt_or_eq.1 hj with h | h; exact hneg j h; subst h; exact h8p) hM (by omega)
    ·
      have h2p : ¬ (((k : Nat) : Int) < (((List.length l) : Nat) : Int)) := of_decide_eq_false h2
      refine GoS.run [0, 4, 6] [.n, .n, .n, .n, .n, .n, .n, .n] _ [.code (csub (cd Try.f27) [1,1,1,0,1,0,0]), .inLoop (csub (cd Try.f27) [1,1,1,0,1,0,0]), .inBlock 2, .code (csub (cd Try.f27) [1,1,1,1])] [(0, u), (4, .string (sb (bytesOf (numB (((List.length l) : Nat) : Int))))), (6, .int .i64 0)] w (by kernel_rfl) .nil ?_
      have hn : negs l = false := negs_no fun j hj => hneg j (by omega)
      exact GoS.cast (by rw [pre_zero, List.append_nil]; first | done | rfl) (rpack_L2 u l hu hw hl hn R hR (l.length + 1) 0 w (by omega) hM (by omega))

set_option maxHeartbeats 400000 in
theorem rpack_c (u : Value) (l : List Int) (w : World) (hu : Rd w 1 u l.length (ivals .i64 l)) (hw : ∀ n ∈ l, n ≤ 9223372036854775807) (hl : l.length ≤ 140737488355328) :
    Calls Try.prog 27 #[u] w (fun e w' => e = .returned (.tuple #[.string (sb (packT l)), .int .i64 (packE l)]) ∧ Mem [] w w' []) := by
  obtain ⟨R, hR⟩ : ∃ R : Ending → World → Prop, R = (fun e w' => e = .returned (.tuple #[.string (sb (packT l)), .int .i64 (packE l)]) ∧ Mem [] w w' []) := ⟨_, rfl⟩
  rw [← hR]
  refine GoS.enter (n := 44) Try.func27 (by kernel_rfl) rfl [(0, u)] (by kernel_rfl) (by kernel_rfl) ?_
  have hM0 := Mem.start w
  have o1 : (Builtin.len_ #[38] 3 #[u]).run Try.prog w = .ok (.int .i64 (((List.length l) : Nat) : Int)) w := f_slen sT38 (hu.kept0 hM0.kept) 3 _
  refine GoS.run [0, 9] [.n, .n, .n, .n, .n, .n, .n, .n, .h (.int .i64 (((List.length l) : Nat) : Int))] _ [.inRegion (cops (csub (cd Try.f27) [1,0])) [2,3], .code (csub (cd Try.f27) [1,1])] [(0, u), (9, .int .i64 (((List.length l) : Nat) : Int))] w (by kernel_rfl) (.cons o1 .nil) ?_
  refine GoS.call [0] 35 #[.int .i64 (((List.length l) : Nat) : Int)] (some 10) [.inRegion (cops (csub (cd Try.f27) [1,0])) [3], .code (csub (cd Try.f27) [1,1])] [(0, u)] (by kernel_rfl) (rnum_c (((List.length l) : Nat) : Int) (by omega) w) ?_
  rintro _ w2 ⟨rfl, m3⟩
  refine ⟨_, rfl, ?_⟩
  have hM4 := Mem.join hM0 m3
  refine GoS.run [0, 4, 5] [.n, .n, .n, .n, .n, .n, .n, .n, .n] _ [.code (csub (cd Try.f27) [1,1,0,1,0,0]), .inLoop (csub (cd Try.f27) [1,1,0,1,0,0]), .inBlock 0, .code (csub (cd Try.f27) [1,1,1])] [(0, u), (4, .string (sb (bytesOf (numB (((List.length l) : Nat) : Int))))), (5, .int .i64 0)] w2 (by kernel_rfl) .nil ?_
  exact rpack_L1 u l hu hw hl R hR (l.length + 1) 0 w2 (by omega) (by intro j hj; omega) hM4 (by omega)


end Go.Proofs.Ythimiheeheaaaaa
