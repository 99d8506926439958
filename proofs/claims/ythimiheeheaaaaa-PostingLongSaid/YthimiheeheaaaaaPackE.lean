/-
  The walks of Deltas and Sums.
-/
import Derived.Test.YthimiheeheaaaaaPackA
namespace Go.Proofs.Ythimiheeheaaaaa
open Go Go.Gw Go.NumP Go.LiveP Go.PackP Go.RowKit
set_option linter.unusedVariables false
set_option linter.unusedSimpArgs false


set_option maxHeartbeats 400000 in
theorem deltas_L (u : Value) (l : List Int) {w0 : World} (hu : Rd w0 1 u l.length (ivals .i64 l)) (hl : l.length ≤ 35184372088832) (v : Value) (R : Ending → World → Prop) (hR : R = (fun e w' => ∃ v, e = .returned v ∧ Mem [] w0 w' [⟨3, 1, v, (List.length (deltas l)), (ivals .i64 (deltas l))⟩])) : ∀ (N : Nat) (k : Nat) (w : World) (hk : k ≤ l.length) (hM : Mem [] w0 w [⟨3, 1, v, (List.length (fillU (dAt l) (List.length l) k)), (ivals .i64 (fillU (dAt l) (List.length l) k))⟩]) (hN : l.length - k < N), GoS Try.prog 25 R 26 [.code (csub (cd Try.f25) [1,1,1,0,1,0,0]), .inLoop (csub (cd Try.f25) [1,1,1,0,1,0,0]), .inBlock 0, .code (csub (cd Try.f25) [1,1,1,1])] [(3, v), (4, .int .i64 (lastOf l k)), (10, u), (11, .int .i64 (((List.length l) : Nat) : Int)), (12, .int .i64 ((k : Nat) : Int))] w := by
  intro N
  induction N with
  | zero => intro k w hk hM hN; exact absurd hN (Nat.not_lt_zero _)
  | succ N ih =>
    intro k w hk hM hN
    refine GoS.run [3, 4, 10, 11, 12, 13] [.n, .n, .n, .n, .n] _ [.code (csub (cd Try.f25) [1,1,1,0,1,0,0,1,0]), .code (csub (cd Try.f25) [1,1,1,0,1,0,0,1,1]), .inLoop (csub (cd Try.f25) [1,1,1,0,1,0,0]), .inBlock 0, .code (csub (cd Try.f25) [1,1,1,1])] [(3, v), (4, .int .i64 (lastOf l k)), (10, u), (11, .int .i64 (((List.length l) : Nat) : Int)), (12, .int .i64 ((k : Nat) : Int)), (13, .bool (decide (((k : Nat) : Int) < (((List.length l) : Nat) : Int))))] w (by kernel_rfl) .nil ?_
    refine GoS.cond (decide (((k : Nat) : Int) < (((List.length l) : Nat) : Int))) [.code (csub (cd Try.f25) [1,1,1,0,1,0,0,1,0,0]), .code (csub (cd Try.f25) [1,1,1,0,1,0,0,1,1]), .inLoop (csub (cd Try.f25) [1,1,1,0,1,0,0]), .inBlock 0, .code (csub (cd Try.f25) [1,1,1,1])] [.code (csub (cd Try.f25) [1,1,1,0,1,0,0,1,0,1]), .code (csub (cd Try.f25) [1,1,1,0,1,0,0,1,1]), .inLoop (csub (cd Try.f25) [1,1,1,0,1,0,0]), .inBlock 0, .code (csub (cd Try.f25) [1,1,1,1])] (by kernel_rfl) (fun h1 => ?_) (fun h1 => ?_)
    ·
      have h1p : ((k : Nat) : Int) < (((List.length l) : Nat) : Int) := of_decide_eq_true h1
      refine GoS.run [3, 4, 10, 11, 12] [.n] _ [.code (csub (cd Try.f25) [1,1,1,0,1,0,0,1,1]), .inLoop (csub (cd Try.f25) [1,1,1,0,1,0,0]), .inBlock 0, .code (csub (cd Try.f25) [1,1,1,1])] [(3, v), (4, .int .i64 (lastOf l k)), (10, u), (11, .int .i64 (((List.length l) : Nat) : Int)), (12, .int .i64 ((k : Nat) : Int))] w (by kernel_rfl) .nil ?_
      obtain ⟨p2, hp3, hq4⟩ := rd_at (i := ((k : Nat) : Int)) sT38 (hu.kept0 hM.kept) k (by omega) (by first | omega | (simp only [fillU_len]; omega))
      have o12 : (Instr.indexAt 38 (u) (.int .i64 ((k : Nat) : Int))).run Try.prog w = .ok (.pointer (some p2)) w := hq4 _ _
      have o13 : (Instr.loadAt 3 (.pointer (some p2))).run Try.prog w = .ok (.int .i64 (List.getD l k 0)) w := at_load pE3 (hu.kept0 hM.kept) hp3 (ivals_at (by first | omega | (simp only [fillU_len]; omega)))
      obtain ⟨p5, hp6, hq7⟩ := rd_at (i := ((k : Nat) : Int)) sT38 (hM.rd 0 rfl) k (by omega) (by first | omega | (simp only [fillU_len]; omega))
      have o14 : (Instr.indexAt 38 (v) (.int .i64 ((k : Nat) : Int))).run Try.prog w = .ok (.pointer (some p5)) w := hq7 _ _
      obtain ⟨w8, hr9, hM10⟩ := at_store (u := .int .i64 (IntKind.wrap .i64 ((List.getD l k 0) - (lastOf l k)))) (by kernel_rfl) hM 0 rfl hp6 (by first | omega | (simp only [fillU_len]; omega)) rfl rfl
      have hM11 : Mem [] w0 w8 [⟨3, 1, v, (List.length (fillU (dAt l) (List.length l) k)), (ivals .i64 (List.set (fillU (dAt l) (List.length l) k) k (IntKind.wrap .i64 ((List.getD l k 0) - (lastOf l k)))))⟩] := hM10.cast (by simp [ivals, svals, bvals, nvals, u8s, List.map_set])
      have o15 : (Instr.storeAt 3 (.pointer (some p5)) (.int .i64 (IntKind.wrap .i64 ((List.getD l k 0) - (lastOf l k))))).run Try.prog w = .ok () w8 ∧ undef = undef := ⟨hr9, rfl⟩
      have o16 : (binOp .add 3 (.int .i64 ((k : Nat) : Int)) (.int .i64 1)).run Try.prog w8 = .ok (.int .i64 (((k + 1) : Nat) : Int)) w8 := f_add (by rw [show ((k : Nat) : Int) + 1 = (((k + 1) : Nat) : Int) by omega]; exact IntWalk.i64_in _ (by omega))
      refine GoS.run [3, 4, 10, 11, 12] [.n, .n, .n, .n, .n, .h (.pointer (some p2)), .h (.int .i64 (List.getD l k 0)), .n, .n, .n, .n, .n, .n, .n, .n, .n, .n, .h (.pointer (some p5)), .u (undef) (w8), .n, .n, .n, .n, .h (.int .i64 (((k + 1) : Nat) : Int)), .n, .n, .n] _ [.code (csub (cd Try.f25) [1,1,1,0,1,0,0]), .inLoop (csub (cd Try.f25) [1,1,1,0,1,0,0]), .inBlock 0, .code (csub (cd Try.f25) [1,1,1,1])] [(3, v), (4, .int .i64 (List.getD l k 0)), (10, u), (11, .int .i64 (((List.length l) : Nat) : Int)), (12, .int .i64 (((k + 1) : Nat) : Int))] w8 (by kernel_rfl) (.cons o12 (.cons o13 (.cons o14 (.cons o15 (.cons o16 .nil))))) ?_
      exact ih (k + 1) _ (by omega) (hM11.cast (by rw [← fillU_set (f := dAt l), List.length_set]; rfl)) (by omega)
    ·
      have h1p : ¬ (((k : Nat) : Int) < (((List.length l) : Nat) : Int)) := of_decide_eq_false h1
      refine GoS.run [2] [.n, .n, .n, .n, .n, .n] _ [.code (csub (cd Try.f25) [1,1,1,1,1])] [(2, v)] w (by kernel_rfl) .nil ?_
      refine GoS.ret (fn := Try.f25) (v := v) Try.func25 (by kernel_rfl) ?_
      rw [hR]
      obtain rfl : k = l.length := by omega
      exact ⟨_, rfl, hM⟩

set_option maxHeartbeats 400000 in
theorem deltas_c (u : Value) (l : List Int) (w : World) (hu : Rd w 1 u l.length (ivals .i64 l)) (hl : l.length ≤ 35184372088832) :
    Calls Try.prog 25 #[u] w (fun e w' => ∃ v, e = .returned v ∧ Mem [] w w' [⟨3, 1, v, (List.length (deltas l)), (ivals .i64 (deltas l))⟩]) := by
  obtain ⟨R, hR⟩ : ∃ R : Ending → World → Prop, R = (fun e w' => ∃ v, e = .returned v ∧ Mem [] w w' [⟨3, 1, v, (List.length (deltas l)), (ivals .i64 (deltas l))⟩]) := ⟨_, rfl⟩
  rw [← hR]
  refine GoS.enter (n := 26) Try.func25 (by kernel_rfl) rfl [(0, u)] (by kernel_rfl) (by kernel_rfl) ?_
  have hM0 := Mem.start w
  have o6 : (Builtin.len_ #[38] 3 #[u]).run Try.prog w = .ok (.int .i64 (((List.length l) : Nat) : Int)) w := f_slen sT38 (hu.kept0 hM0.kept) 3 _
  obtain ⟨v1, w2, hr3, hM4⟩ := m_make (x := (((List.length l) : Nat) : Int)) (y := (((List.length l) : Nat) : Int)) sT38 rfl hM0 (List.length l) (by omega) (by omega) (by omega) (by omega) .i64 .i64
  have hM5 : Mem [] w w2 [⟨3, 1, v1, (List.length l), (ivals .i64 (List.replicate (List.length l) 0))⟩] := hM4.cast (by simp [ivals, svals, bvals])
  have o7 : (Instr.makeSlice 38 (.int .i64 (((List.length l) : Nat) : Int)) (.int .i64 (((List.length l) : Nat) : Int))).run Try.prog w = .ok v1 w2 := hr3
  have o8 : (Builtin.len_ #[38] 3 #[u]).run Try.prog w2 = .ok (.int .i64 (((List.length l) : Nat) : Int)) w2 := f_slen sT38 (hu.kept0 hM5.kept) 3 _
  refine GoS.run [3, 4, 10, 11, 12] [.n, .n, .n, .n, .n, .n, .n, .h (.int .i64 (((List.length l) : Nat) : Int)), .u (v1) (w2), .n, .n, .n, .n, .n, .n, .n, .n, .n, .n, .h (.int .i64 (((List.length l) : Nat) : Int)), .n, .n, .n, .n] _ [.code (csub (cd Try.f25) [1,1,1,0,1,0,0]), .inLoop (csub (cd Try.f25) [1,1,1,0,1,0,0]), .inBlock 0, .code (csub (cd Try.f25) [1,1,1,1])] [(3, v1), (4, .int .i64 0), (10, u), (11, .int .i64 (((List.length l) : Nat) : Int)), (12, .int .i64 0)] w2 (by kernel_rfl) (.cons o6 (.cons o7 (.cons o8 .nil))) ?_
  exact deltas_L u l hu hl v1 R hR (l.length + 1) 0 w2 (by omega) (hM5.cast (by rw [fillU_zero, List.length_replicate])) (by omega)

set_option maxHeartbeats 400000 in
theorem sums_L (u : Value) (l : List Int) {w0 : World} (hu : Rd w0 1 u l.length (ivals .i64 l)) (hl : l.length ≤ 35184372088832) (v : Value) (R : Ending → World → Prop) (hR : R = (fun e w' => ∃ v, e = .returned v ∧ Mem [] w0 w' [⟨3, 1, v, (List.length (sums l)), (ivals .i64 (sums l))⟩])) : ∀ (N : Nat) (k : Nat) (w : World) (hk : k ≤ l.length) (hM : Mem [] w0 w [⟨3, 1, v, (List.length (fillU (fun j => sumW l (j + 1)) (List.length l) k)), (ivals .i64 (fillU (fun j => sumW l (j + 1)) (List.length l) k))⟩]) (hN : l.length - k < N), GoS Try.prog 29 R 26 [.code (csub (cd Try.f29) [1,1,1,0,1,0,0]), .inLoop (csub (cd Try.f29) [1,1,1,0,1,0,0]), .inBlock 0, .code (csub (cd Try.f29) [1,1,1,1])] [(3, v), (4, .int .i64 (sumW l k)), (10, u), (11, .int .i64 (((List.length l) : Nat) : Int)), (12, .int .i64 ((k : Nat) : Int))] w := by
  intro N
  induction N with
  | zero => intro k w hk hM hN; exact absurd hN (Nat.not_lt_zero _)
  | succ N ih =>
    intro k w hk hM hN
    refine GoS.run [3, 4, 10, 11, 12, 13] [.n, .n, .n, .n, .n] _ [.code (csub (cd Try.f29) [1,1,1,0,1,0,0,1,0]), .code (csub (cd Try.f29) [1,1,1,0,1,0,0,1,1]), .inLoop (csub (cd Try.f29) [1,1,1,0,1,0,0]), .inBlock 0, .code (csub (cd Try.f29) [1,1,1,1])] [(3, v), (4, .int .i64 (sumW l k)), (10, u), (11, .int .i64 (((List.length l) : Nat) : Int)), (12, .int .i64 ((k : Nat) : Int)), (13, .bool (decide (((k : Nat) : Int) < (((List.length l) : Nat) : Int))))] w (by kernel_rfl) .nil ?_
    refine GoS.cond (decide (((k : Nat) : Int) < (((List.length l) : Nat) : Int))) [.code (csub (cd Try.f29) [1,1,1,0,1,0,0,1,0,0]), .code (csub (cd Try.f29) [1,1,1,0,1,0,0,1,1]), .inLoop (csub (cd Try.f29) [1,1,1,0,1,0,0]), .inBlock 0, .code (csub (cd Try.f29) [1,1,1,1])] [.code (csub (cd Try.f29) [1,1,1,0,1,0,0,1,0,1]), .code (csub (cd Try.f29) [1,1,1,0,1,0,0,1,1]), .inLoop (csub (cd Try.f29) [1,1,1,0,1,0,0]), .inBlock 0, .code (csub (cd Try.f29) [1,1,1,1])] (by kernel_rfl) (fun h1 => ?_) (fun h1 => ?_)
    ·
      have h1p : ((k : Nat) : Int) < (((List.length l) : Nat) : Int) := of_decide_eq_true h1
      refine GoS.run [3, 4, 10, 11, 12] [.n] _ [.code (csub (cd Try.f29) [1,1,1,0,1,0,0,1,1]), .inLoop (csub (cd Try.f29) [1,1,1,0,1,0,0]), .inBlock 0, .code (csub (cd Try.f29) [1,1,1,1])] [(3, v), (4, .int .i64 (sumW l k)), (10, u), (11, .int .i64 (((List.length l) : Nat) : Int)), (12, .int .i64 ((k : Nat) : Int))] w (by kernel_rfl) .nil ?_
      obtain ⟨p2, hp3, hq4⟩ := rd_at (i := ((k : Nat) : Int)) sT38 (hu.kept0 hM.kept) k (by omega) (by first | omega | (simp only [fillU_len]; omega))
      have o12 : (Instr.indexAt 38 (u) (.int .i64 ((k : Nat) : Int))).run Try.prog w = .ok (.pointer (some p2)) w := hq4 _ _
      have o13 : (Instr.loadAt 3 (.pointer (some p2))).run Try.prog w = .ok (.int .i64 (List.getD l k 0)) w := at_load pE3 (hu.kept0 hM.kept) hp3 (ivals_at (by first | omega | (simp only [fillU_len]; omega)))
      obtain ⟨p5, hp6, hq7⟩ := rd_at (i := ((k : Nat) : Int)) sT38 (hM.rd 0 rfl) k (by omega) (by first | omega | (simp only [fillU_len]; omega))
      have o14 : (Instr.indexAt 38 (v) (.int .i64 ((k : Nat) : Int))).run Try.prog w = .ok (.pointer (some p5)) w := hq7 _ _
      obtain ⟨w8, hr9, hM10⟩ := at_store (u := .int .i64 (IntKind.wrap .i64 ((sumW l k) + (List.getD l k 0)))) (by kernel_rfl) hM 0 rfl hp6 (by first | omega | (simp only [fillU_len]; omega)) rfl rfl
      have hM11 : Mem [] w0 w8 [⟨3, 1, v, (List.length (fillU (fun j => sumW l (j + 1)) (List.length l) k)), (ivals .i64 (List.set (fillU (fun j => sumW l (j + 1)) (List.length l) k) k (IntKind.wrap .i64 ((sumW l k) + (List.getD l k 0)))))⟩] := hM10.cast (by simp [ivals, svals, bvals, nvals, u8s, List.map_set])
      have o15 : (Instr.storeAt 3 (.pointer (some p5)) (.int .i64 (IntKind.wrap .i64 ((sumW l k) + (List.getD l k 0))))).run Try.prog w = .ok () w8 ∧ undef = undef := ⟨hr9, rfl⟩
      have o16 : (binOp .add 3 (.int .i64 ((k : Nat) : Int)) (.int .i64 1)).run Try.prog w8 = .ok (.int .i64 (((k + 1) : Nat) : Int)) w8 := f_add (by rw [show ((k : Nat) : Int) + 1 = (((k + 1) : Nat) : Int) by omega]; exact IntWalk.i64_in _ (by omega))
      refine GoS.run [3, 4, 10, 11, 12] [.n, .n, .n, .n, .n, .h (.pointer (some p2)), .h (.int .i64 (List.getD l k 0)), .n, .n, .n, .n, .n, .n, .n, .n, .n, .n, .n, .n, .n, .n, .h (.pointer (some p5)), .u (undef) (w8), .n, .n, .n, .h (.int .i64 (((k + 1) : Nat) : Int)), .n, .n, .n] _ [.code (csub (cd Try.f29) [1,1,1,0,1,0,0]), .inLoop (csub (cd Try.f29) [1,1,1,0,1,0,0]), .inBlock 0, .code (csub (cd Try.f29) [1,1,1,1])] [(3, v), (4, .int .i64 (IntKind.wrap .i64 ((sumW l k) + (List.getD l k 0)))), (10, u), (11, .int .i64 (((List.length l) : Nat) : Int)), (12, .int .i64 (((k + 1) : Nat) : Int))] w8 (by kernel_rfl) (.cons o12 (.cons o13 (.cons o14 (.cons o15 (.cons o16 .nil))))) ?_
      exact ih (k + 1) _ (by omega) (hM11.cast (by rw [← fillU_set (f := (fun j => sumW l (j + 1))), List.length_set]; rfl)) (by omega)
    ·
      have h1p : ¬ (((k : Nat) : Int) < (((List.length l) : Nat) : Int)) := of_decide_eq_false h1
      refine GoS.run [2] [.n, .n, .n, .n, .n, .n] _ [.code (csub (cd Try.f29) [1,1,1,1,1])] [(2, v)] w (by kernel_rfl) .nil ?_
      refine GoS.ret (fn := Try.f29) (v := v) Try.func29 (by kernel_rfl) ?_
      rw [hR]
      obtain rfl : k = l.length := by omega
      exact ⟨_, rfl, hM⟩

set_option maxHeartbeats 400000 in
theorem sums_c (u : Value) (l : List Int) (w : World) (hu : Rd w 1 u l.length (ivals .i64 l)) (hl : l.length ≤ 35184372088832) :
    Calls Try.prog 29 #[u] w (fun e w' => ∃ v, e = .returned v ∧ Mem [] w w' [⟨3, 1, v, (List.length (sums l)), (ivals .i64 (sums l))⟩]) := by
  obtain ⟨R, hR⟩ : ∃ R : Ending → World → Prop, R = (fun e w' => ∃ v, e = .returned v ∧ Mem [] w w' [⟨3, 1, v, (List.length (sums l)), (ivals .i64 (sums l))⟩]) := ⟨_, rfl⟩
  rw [← hR]
  refine GoS.enter (n := 26) Try.func29 (by kernel_rfl) rfl [(0, u)] (by kernel_rfl) (by kernel_rfl) ?_
  have hM0 := Mem.start w
  have o6 : (Builtin.len_ #[38] 3 #[u]).run Try.prog w = .ok (.int .i64 (((List.length l) : Nat) : Int)) w := f_slen sT38 (hu.kept0 hM0.kept) 3 _
  obtain ⟨v1, w2, hr3, hM4⟩ := m_make (x := (((List.length l) : Nat) : Int)) (y := (((List.length l) : Nat) : Int)) sT38 rfl hM0 (List.length l) (by omega) (by omega) (by omega) (by omega) .i64 .i64
  have hM5 : Mem [] w w2 [⟨3, 1, v1, (List.length l), (ivals .i64 (List.replicate (List.length l) 0))⟩] := hM4.cast (by simp [ivals, svals, bvals])
  have o7 : (Instr.makeSlice 38 (.int .i64 (((List.length l) : Nat) : Int)) (.int .i64 (((List.length l) : Nat) : Int))).run Try.prog w = .ok v1 w2 := hr3
  have o8 : (Builtin.len_ #[38] 3 #[u]).run Try.prog w2 = .ok (.int .i64 (((List.length l) : Nat) : Int)) w2 := f_slen sT38 (hu.kept0 hM5.kept) 3 _
  refine GoS.run [3, 4, 10, 11, 12] [.n, .n, .n, .n, .n, .n, .n, .h (.int .i64 (((List.length l) : Nat) : Int)), .u (v1) (w2), .n, .n, .n, .n, .n, .n, .n, .n, .n, .n, .h (.int .i64 (((List.length l) : Nat) : Int)), .n, .n, .n, .n] _ [.code (csub (cd Try.f29) [1,1,1,0,1,0,0]), .inLoop (csub (cd Try.f29) [1,1,1,0,1,0,0]), .inBlock 0, .code (csub (cd Try.f29) [1,1,1,1])] [(3, v1), (4, .int .i64 0), (10, u), (11, .int .i64 (((List.length l) : Nat) : Int)), (12, .int .i64 0)] w2 (by kernel_rfl) (.cons o6 (.cons o7 (.cons o8 .nil))) ?_
  exact sums_L u l hu hl v1 R hR (l.length + 1) 0 w2 (by omega) (hM5.cast (by rw [fillU_zero, List.length_replicate])) (by omega)


end Go.Proofs.Ythimiheeheaaaaa
