/-
  The walk of the reference's Pack.
-/
import Derived.Test.YtiifhlhmkpcaeaaLiveC
namespace Go.Proofs.Ytiifhlhmkpcaeaa
open Go Go.Gw Go.NumP Go.LiveP Go.RowKit
set_option linter.unusedVariables false
set_option linter.unusedSimpArgs false


set_option maxHeartbeats 400000 in
theorem rpack_I (b : Nat) (v : Value) (n : Int) (q : List Int) (hn : 0 ≤ n ∧ n ≤ 1048576) (hq : Wise n q) {w0 : World} (k1 : Rd w0 2 (obj b) 1 [.int .i64 n, v]) (k2 : Rd w0 1 v (List.length q) (ivals .i64 q)) {j D : Nat} (hj : j < q.length) (hD : q.getD j 0 = (D : Int)) (R : Ending → World → Prop) (hR : R = (fun e w' => e = .returned (.string (sb (packR n q))) ∧ Mem [] w0 w' [])) : ∀ (N : Nat) (r : Nat) (p : Value) (w : World) (out : ∀ (p : Value) (w : World), Mem [] w0 w [⟨5, 1, p, (List.length (packI (Int.toNat ((n + 7) / 8)) (uptoR q (j + 1)))), (ivals .u8 (packI (Int.toNat ((n + 7) / 8)) (uptoR q (j + 1))))⟩] → GoS Try.prog 18 R 56 [.code (csub (cd Try.f18) [1,1,0,1,0,0]), .inLoop (csub (cd Try.f18) [1,1,0,1,0,0]), .inBlock 0, .code (csub (cd Try.f18) [1,1,1])] [(0, .pointer (some (⟨b, 0, none⟩))), (3, p), (4, .int .i64 (((j + 1) : Nat) : Int))] w) (hr : r ≤ D % 8) (hM : Mem [] w0 w [⟨5, 1, p, (List.length (packI (Int.toNat ((n + 7) / 8)) (uptoR q j))), (ivals .u8 (packI (Int.toNat ((n + 7) / 8)) (uptoR q j)))⟩]) (hN : 8 - r < N), GoS Try.prog 18 R 56 [.code (csub (cd Try.f18) [1,1,0,1,0,0,1,0,0,1,1,0,1,0,0]), .inLoop (csub (cd Try.f18) [1,1,0,1,0,0,1,0,0,1,1,0,1,0,0]), .inBlock 2, .code (csub (cd Try.f18) [1,1,0,1,0,0,1,0,0,1,1,1]), .inBlock 1, .code (csub (cd Try.f18) [1,1,0,1,0,0,1,1]), .inLoop (csub (cd Try.f18) [1,1,0,1,0,0]), .inBlock 0, .code (csub (cd Try.f18) [1,1,1])] [(0, .pointer (some (⟨b, 0, none⟩))), (3, p), (4, .int .i64 ((j : Nat) : Int)), (5, .int .i64 ((D : Nat) : Int)), (6, .int .i64 (((2 ^ r) : Nat) : Int)), (7, .int .i64 ((r : Nat) : Int))] w := by
  intro N
  induction N with
  | zero => intro r p w out hr hM hN; exact absurd hN (Nat.not_lt_zero _)
  | succ N ih =>
    intro r p w out hr hM hN
    have hp8 := pow8 (r := r) (by omega)
    have hpos := Nat.two_pow_pos r
    have hb := hq.1 j hj
    have hbn := byteN_upd (uptoR_new hq hj hD)
    have hbl := byteN_lt (upd (uptoR q j) D) (D / 8)
    have hg := packI_get (m := ((n + 7) / 8).toNat) (j := D / 8) (uptoR q j) (by omega)
    have hle : 2 ^ r ≤ 2 ^ (D % 8) := Nat.pow_le_pow_right (by omega) hr
    have hlen : q.length ≤ 9223372036854775807 := rd_len k2
    have o1 : (binOp .rem 3 (.int .i64 ((D : Nat) : Int)) (.int .i64 8)).run Try.prog w = .ok (.int .i64 (((D % 8) : Nat) : Int)) w := f_rem (by decide) ((IntWalk.rem_in _ _ (by omega)).trans (by omega))
    refine GoS.run [0, 3, 4, 5, 6, 7, 34] [.n, .n, .n, .n, .n, .h (.int .i64 (((D % 8) : Nat) : Int)), .n, .n] _ [.code (csub (cd Try.f18) [1,1,0,1,0,0,1,0,0,1,1,0,1,0,0,0,1]), .code (csub (cd Try.f18) [1,1,0,1,0,0,1,0,0,1,1,0,1,0,0,1]), .inLoop (csub (cd Try.f18) [1,1,0,1,0,0,1,0,0,1,1,0,1,0,0]), .inBlock 2, .code (csub (cd Try.f18) [1,1,0,1,0,0,1,0,0,1,1,1]), .inBlock 1, .code (csub (cd Try.f18) [1,1,0,1,0,0,1,1]), .inLoop (csub (cd Try.f18) [1,1,0,1,0,0]), .inBlock 0, .code (csub (cd Try.f18) [1,1,1])] [(0, .pointer (some (⟨b, 0, none⟩))), (3, p), (4, .int .i64 ((j : Nat) : Int)), (5, .int .i64 ((D : Nat) : Int)), (6, .int .i64 (((2 ^ r) : Nat) : Int)), (7, .int .i64 ((r : Nat) : Int)), (34, .bool (decide (((r : Nat) : Int) < (((D % 8) : Nat) : Int))))] w (by kernel_rfl) (.cons o1 .nil) ?_
    refine GoS.cond (decide (((r : Nat) : Int) < (((D % 8) : Nat) : Int))) [.code (csub (cd Try.f18) [1,1,0,1,0,0,1,0,0,1,1,0,1,0,0,0,1,0]), .code (csub (cd Try.f18) [1,1,0,1,0,0,1,0,0,1,1,0,1,0,0,1]), .inLoop (csub (cd Try.f18) [1,1,0,1,0,0,1,0,0,1,1,0,1,0,0]), .inBlock 2, .code (csub (cd Try.f18) [1,1,0,1,0,0,1,0,0,1,1,1]), .inBlock 1, .code (csub (cd Try.f18) [1,1,0,1,0,0,1,1]), .inLoop (csub (cd Try.f18) [1,1,0,1,0,0]), .inBlock 0, .code (csub (cd Try.f18) [1,1,1])] [.code (csub (cd Try.f18) [1,1,0,1,0,0,1,0,0,1,1,0,1,0,0,0,1,1]), .code (csub (cd Try.f18) [1,1,0,1,0,0,1,0,0,1,1,0,1,0,0,1]), .inLoop (csub (cd Try.f18) [1,1,0,1,0,0,1,0,0,1,1,0,1,0,0]), .inBlock 2, .code (csub (cd Try.f18) [1,1,0,1,0,0,1,0,0,1,1,1]), .inBlock 1, .code (csub (cd Try.f18) [1,1,0,1,0,0,1,1]), .inLoop (csub (cd Try.f18) [1,1,0,1,0,0]), .inBlock 0, .code (csub (cd Try.f18) [1,1,1])] (by kernel_rfl) (fun h2 => ?_) (fun h2 => ?_)
    ·
      have h2p : ((r : Nat) : Int) < (((D % 8) : Nat) : Int) := of_decide_eq_true h2
      refine GoS.run [0, 3, 4, 5, 6, 7] [.n] _ [.code (csub (cd Try.f18) [1,1,0,1,0,0,1,0,0,1,1,0,1,0,0,1]), .inLoop (csub (cd Try.f18) [1,1,0,1,0,0,1,0,0,1,1,0,1,0,0]), .inBlock 2, .code (csub (cd Try.f18) [1,1,0,1,0,0,1,0,0,1,1,1]), .inBlock 1, .code (csub (cd Try.f18) [1,1,0,1,0,0,1,1]), .inLoop (csub (cd Try.f18) [1,1,0,1,0,0]), .inBlock 0, .code (csub (cd Try.f18) [1,1,1])] [(0, .pointer (some (⟨b, 0, none⟩))), (3, p), (4, .int .i64 ((j : Nat) : Int)), (5, .int .i64 ((D : Nat) : Int)), (6, .int .i64 (((2 ^ r) : Nat) : Int)), (7, .int .i64 ((r : Nat) : Int))] w (by kernel_rfl) .nil ?_
      have o21 : (binOp .mul 3 (.int .i64 2) (.int .i64 (((2 ^ r) : Nat) : Int))).run Try.prog w = .ok (.int .i64 (((2 * (2 ^ r)) : Nat) : Int)) w := f_mul (by rw [show 2 * (((2 ^ r) : Nat) : Int) = (((2 * (2 ^ r)) : Nat) : Int) by omega]; exact IntWalk.i64_in _ (by first | omega | (obtain rfl : r = D % 8 := (by omega); omega)))
      have o22 : (binOp .add 3 (.int .i64 ((r : Nat) : Int)) (.int .i64 1)).run Try.prog w = .ok (.int .i64 (((r + 1) : Nat) : Int)) w := f_add (by rw [show ((r : Nat) : Int) + 1 = (((r + 1) : Nat) : Int) by omega]; exact IntWalk.i64_in _ (by first | omega | (obtain rfl : r = D % 8 := (by omega); omega)))
      refine GoS.run [0, 3, 4, 5, 6, 7] [.n, .n, .n, .n, .h (.int .i64 (((2 * (2 ^ r)) : Nat) : Int)), .n, .n, .n, .n, .n, .h (.int .i64 (((r + 1) : Nat) : Int)), .n, .n, .n] _ [.code (csub (cd Try.f18) [1,1,0,1,0,0,1,0,0,1,1,0,1,0,0]), .inLoop (csub (cd Try.f18) [1,1,0,1,0,0,1,0,0,1,1,0,1,0,0]), .inBlock 2, .code (csub (cd Try.f18) [1,1,0,1,0,0,1,0,0,1,1,1]), .inBlock 1, .code (csub (cd Try.f18) [1,1,0,1,0,0,1,1]), .inLoop (csub (cd Try.f18) [1,1,0,1,0,0]), .inBlock 0, .code (csub (cd Try.f18) [1,1,1])] [(0, .pointer (some (⟨b, 0, none⟩))), (3, p), (4, .int .i64 ((j : Nat) : Int)), (5, .int .i64 ((D : Nat) : Int)), (6, .int .i64 (((2 * (2 ^ r)) : Nat) : Int)), (7, .int .i64 (((r + 1) : Nat) : Int))] w (by kernel_rfl) (.cons o21 (.cons o22 .nil)) ?_
      exact GoS.cast (by rw [Nat.pow_succ, Nat.mul_comm]) (ih (r + 1) _ _ out (by omega) hM (by omega))
    ·
      have h2p : ¬ (((r : Nat) : Int) < (((D % 8) : Nat) : Int)) := of_decide_eq_false h2
      have o13 : (binOp .quo 3 (.int .i64 ((D : Nat) : Int)) (.int .i64 8)).run Try.prog w = .ok (.int .i64 (((D / 8) : Nat) : Int)) w := f_quo (by decide) ((IntWalk.i64_quo _ _ (by omega)).trans (by omega))
      obtain ⟨p3, hp4, hq5⟩ := rd_at (i := (((D / 8) : Nat) : Int)) sT50 (hM.rd 0 rfl) (D / 8) (by omega) (by first | omega | (simp only [packI_len]; omega))
      have o14 : (Instr.indexAt 50 (p) (.int .i64 (((D / 8) : Nat) : Int))).run Try.prog w = .ok (.pointer (some p3)) w := hq5 _ _
      have o15 : (Instr.loadAt 5 (.pointer (some p3))).run Try.prog w = .ok (.int .u8 (List.getD (packI (Int.toNat ((n + 7) / 8)) (uptoR q j)) (D / 8) 0)) w := at_load pE5 (hM.rd 0 rfl) hp4 (ivals_at (by first | omega | (simp only [packI_len]; omega)))
      have o16 : (convert 3 5 (.int .i64 (((2 ^ r) : Nat) : Int))).run Try.prog w = .ok (.int .u8 (((2 ^ r) : Nat) : Int)) w := f_conv (u := .int .i64) (by kernel_rfl) (by kernel_rfl) (IntWalk.u8_in _ (by first | omega | (obtain rfl : r = D % 8 := (by omega); omega)))
      have o17 : (binOp .add 5 (.int .u8 (List.getD (packI (Int.toNat ((n + 7) / 8)) (uptoR q j)) (D / 8) 0)) (.int .u8 (((2 ^ r) : Nat) : Int))).run Try.prog w = .ok (.int .u8 ((List.getD (packI (Int.toNat ((n + 7) / 8)) (uptoR q j)) (D / 8) 0) + (((2 ^ r) : Nat) : Int))) w := f_add (IntWalk.u8_in _ (by first | omega | (obtain rfl : r = D % 8 := (by omega); omega)))
      obtain ⟨p6, hp7, hq8⟩ := rd_at (i := (((D / 8) : Nat) : Int)) sT50 (hM.rd 0 rfl) (D / 8) (by omega) (by first | omega | (simp only [packI_len]; omega))
      have o18 : (Instr.indexAt 50 (p) (.int .i64 (((D / 8) : Nat) : Int))).run Try.prog w = .ok (.pointer (some p6)) w := hq8 _ _
      obtain ⟨w9, hr10, hM11⟩ := at_store (u := .int .u8 ((List.getD (packI (Int.toNat ((n + 7) / 8)) (uptoR q j)) (D / 8) 0) + (((2 ^ r) : Nat) : Int))) (by kernel_rfl) hM 0 rfl hp7 (by first | omega | (simp only [packI_len]; omega)) rfl rfl
      have hM12 : Mem [] w0 w9 [⟨5, 1, p, (List.length (packI (Int.toNat ((n + 7) / 8)) (uptoR q j))), (ivals .u8 (List.set (packI (Int.toNat ((n + 7) / 8)) (uptoR q j)) (D / 8) ((List.getD (packI (Int.toNat ((n + 7) / 8)) (uptoR q j)) (D / 8) 0) + (((2 ^ r) : Nat) : Int))))⟩] := hM11.cast (by simp [ivals, svals, bvals, nvals, u8s, List.map_set])
      have o19 : (Instr.storeAt 5 (.pointer (some p6)) (.int .u8 ((List.getD (packI (Int.toNat ((n + 7) / 8)) (uptoR q j)) (D / 8) 0) + (((2 ^ r) : Nat) : Int)))).run Try.prog w = .ok () w9 ∧ undef = undef := ⟨hr10, rfl⟩
      have o20 : (binOp .add 3 (.int .i64 ((j : Nat) : Int)) (.int .i64 1)).run Try.prog w9 = .ok (.int .i64 (((j + 1) : Nat) : Int)) w9 := f_add (by rw [show ((j : Nat) : Int) + 1 = (((j + 1) : Nat) : Int) by omega]; exact IntWalk.i64_in _ (by first | omega | (obtain rfl : r = D % 8 := (by omega); omega)))
      refine GoS.run [0, 3, 4] [.n, .n, .n, .n, .h (.int .i64 (((D / 8) : Nat) : Int)), .h (.pointer (some p3)), .h (.int .u8 (List.getD (packI (Int.toNat ((n + 7) / 8)) (uptoR q j)) (D / 8) 0)), .n, .h (.int .u8 (((2 ^ r) : Nat) : Int)), .h (.int .u8 ((List.getD (packI (Int.toNat ((n + 7) / 8)) (uptoR q j)) (D / 8) 0) + (((2 ^ r) : Nat) : Int))), .h (.pointer (some p6)), .u (undef) (w9), .n, .n, .n, .n, .h (.int .i64 (((j + 1) : Nat) : Int)), .n, .n, .n] _ [.code (csub (cd Try.f18) [1,1,0,1,0,0]), .inLoop (csub (cd Try.f18) [1,1,0,1,0,0]), .inBlock 0, .code (csub (cd Try.f18) [1,1,1])] [(0, .pointer (some (⟨b, 0, none⟩))), (3, p), (4, .int .i64 (((j + 1) : Nat) : Int))] w9 (by kernel_rfl) (.cons o13 (.cons o14 (.cons o15 (.cons o16 (.cons o17 (.cons o18 (.cons o19 (.cons o20 .nil)))))))) ?_
      have hr2 : r = D % 8 := by omega
      have e1 : (List.set (packI (Int.toNat ((n + 7) / 8)) (uptoR q j)) (D / 8) ((List.getD (packI (Int.toNat ((n + 7) / 8)) (uptoR q j)) (D / 8) 0) + (((2 ^ r) : Nat) : Int))) = packI (Int.toNat ((n + 7) / 8)) (uptoR q (j + 1)) := by
        rw [uptoR_step hj hD, ← packI_set (by omega), hr2]; congr 1; omega
      exact out _ _ (hM12.cast (by rw [e1, packI_len, packI_len]))

set_option maxHeartbeats 400000 in
theorem rpack_L (b : Nat) (v : Value) (n : Int) (q : List Int) (hn : 0 ≤ n ∧ n ≤ 1048576) (hq : Wise n q) {w0 : World} (k1 : Rd w0 2 (obj b) 1 [.int .i64 n, v]) (k2 : Rd w0 1 v (List.length q) (ivals .i64 q)) (R : Ending → World → Prop) (hR : R = (fun e w' => e = .returned (.string (sb (packR n q))) ∧ Mem [] w0 w' [])) : ∀ (N : Nat) (j : Nat) (p : Value) (w : World) (hj : j ≤ q.length) (hM : Mem [] w0 w [⟨5, 1, p, (List.length (packI (Int.toNat ((n + 7) / 8)) (uptoR q j))), (ivals .u8 (packI (Int.toNat ((n + 7) / 8)) (uptoR q j)))⟩]) (hN : q.length - j < N), GoS Try.prog 18 R 56 [.code (csub (cd Try.f18) [1,1,0,1,0,0]), .inLoop (csub (cd Try.f18) [1,1,0,1,0,0]), .inBlock 0, .code (csub (cd Try.f18) [1,1,1])] [(0, .pointer (some (⟨b, 0, none⟩))), (3, p), (4, .int .i64 ((j : Nat) : Int))] w := by
  intro N
  induction N with
  | zero => intro j p w hj hM hN; exact absurd hN (Nat.not_lt_zero _)
  | succ N ih =>
    intro j p w hj hM hN
    have hlen : q.length ≤ 9223372036854775807 := rd_len k2
    have o1 : (Instr.loadAt 38 (.pointer (some (⟨b, 1, none⟩)))).run Try.prog w = .ok (v) w := c_load pE38 (k1.kept0 hM.kept) (cel_obj b 1) rfl
    have o2 : (Builtin.len_ #[38] 3 #[v]).run Try.prog w = .ok (.int .i64 (((List.length q) : Nat) : Int)) w := f_slen sT38 (k2.kept0 hM.kept) 3 _
    refine GoS.run [0, 3, 4, 21] [.n, .n, .n, .n, .n, .n, .n, .h (v), .h (.int .i64 (((List.length q) : Nat) : Int)), .n, .n] _ [.code (csub (cd Try.f18) [1,1,0,1,0,0,0,1]), .code (csub (cd Try.f18) [1,1,0,1,0,0,1]), .inLoop (csub (cd Try.f18) [1,1,0,1,0,0]), .inBlock 0, .code (csub (cd Try.f18) [1,1,1])] [(0, .pointer (some (⟨b, 0, none⟩))), (3, p), (4, .int .i64 ((j : Nat) : Int)), (21, .bool (decide (((j : Nat) : Int) < (((List.length q) : Nat) : Int))))] w (by kernel_rfl) (.cons o1 (.cons o2 .nil)) ?_
    refine GoS.cond (decide (((j : Nat) : Int) < (((List.length q) : Nat) : Int))) [.code (csub (cd Try.f18) [1,1,0,1,0,0,0,1,0]), .code (csub (cd Try.f18) [1,1,0,1,0,0,1]), .inLoop (csub (cd Try.f18) [1,1,0,1,0,0]), .inBlock 0, .code (csub (cd Try.f18) [1,1,1])] [.code (csub (cd Try.f18) [1,1,0,1,0,0,0,1,1]), .code (csub (cd Try.f18) [1,1,0,1,0,0,1]), .inLoop (csub (cd Try.f18) [1,1,0,1,0,0]), .inBlock 0, .code (csub (cd Try.f18) [1,1,1])] (by kernel_rfl) (fun h3 => ?_) (fun h3 => ?_)
    ·
      have h3p : ((j : Nat) : Int) < (((List.length q) : Nat) : Int) := of_decide_eq_true h3
      refine GoS.run [0, 3, 4] [.n] _ [.code (csub (cd Try.f18) [1,1,0,1,0,0,1]), .inLoop (csub (cd Try.f18) [1,1,0,1,0,0]), .inBlock 0, .code (csub (cd Try.f18) [1,1,1])] [(0, .pointer (some (⟨b, 0, none⟩))), (3, p), (4, .int .i64 ((j : Nat) : Int))] w (by kernel_rfl) .nil ?_
      have o11 : (Instr.loadAt 38 (.pointer (some (⟨b, 1, none⟩)))).run Try.prog w = .ok (v) w := c_load pE38 (k1.kept0 hM.kept) (cel_obj b 1) rfl
      obtain ⟨p8, hp9, hq10⟩ := rd_at (i := ((j : Nat) : Int)) sT38 (k2.kept0 hM.kept) j (by omega) (by first | omega | (simp only [packI_len]; omega))
      have o12 : (Instr.indexAt 38 (v) (.int .i64 ((j : Nat) : Int))).run Try.prog w = .ok (.pointer (some p8)) w := hq10 _ _
      have o13 : (Instr.loadAt 3 (.pointer (some p8))).run Try.prog w = .ok (.int .i64 (List.getD q j 0)) w := at_load pE3 (k2.kept0 hM.kept) hp9 (ivals_at (by first | omega | (simp only [packI_len]; omega)))
      refine GoS.run [0, 3, 4, 5, 6, 7] [.n, .n, .n, .n, .n, .n, .n, .h (v), .n, .h (.pointer (some p8)), .h (.int .i64 (List.getD q j 0)), .n, .n, .n, .n, .n, .n, .n, .n, .n, .n, .n, .n, .n] _ [.code (csub (cd Try.f18) [1,1,0,1,0,0,1,0,0,1,1,0,1,0,0]), .inLoop (csub (cd Try.f18) [1,1,0,1,0,0,1,0,0,1,1,0,1,0,0]), .inBlock 2, .code (csub (cd Try.f18) [1,1,0,1,0,0,1,0,0,1,1,1]), .inBlock 1, .code (csub (cd Try.f18) [1,1,0,1,0,0,1,1]), .inLoop (csub (cd Try.f18) [1,1,0,1,0,0]), .inBlock 0, .code (csub (cd Try.f18) [1,1,1])] [(0, .pointer (some (⟨b, 0, none⟩))), (3, p), (4, .int .i64 ((j : Nat) : Int)), (5, .int .i64 (List.getD q j 0)), (6, .int .i64 1), (7, .int .i64 0)] w (by kernel_rfl) (.cons o11 (.cons o12 (.cons o13 .nil))) ?_
      have hb := hq.1 j (by omega)
      obtain ⟨D, hD⟩ := Int.eq_ofNat_of_zero_le hb.1
      exact GoS.cast (by rw [hD]; rfl) (rpack_I b v n q hn hq k1 k2 (by omega) hD R hR 9 0 _ w (fun p w m => ih (j + 1) p w (by omega) m (by omega)) (by omega) hM (by omega))
    ·
      have h3p : ¬ (((j : Nat) : Int) < (((List.length q) : Nat) : Int)) := of_decide_eq_false h3
      refine GoS.run [0, 3] [.n, .n] _ [.code (csub (cd Try.f18) [1,1,1,0]), .code (csub (cd Try.f18) [1,1,1,1])] [(0, .pointer (some (⟨b, 0, none⟩))), (3, p)] w (by kernel_rfl) .nil ?_
      refine GoS.drawC (fun W_ => Kept [] w W_) 12 (by kernel_rfl) [2] [.u (.pointer (some (⟨b, 0, none⟩))) w, .u (.pointer (some (⟨b, 0, none⟩))) w, .u (.pointer (some (⟨b, 0, none⟩))) w, .h (.int .i64 n), .h (.string (sb (bytesOf (numB n)))), .u (p) w, .h (.string (sb (bytesOf (packI (Int.toNat ((n + 7) / 8)) (uptoR q j))))), .h (.string (sb ((bytesOf (numB n)) ++ (bytesOf (packI (Int.toNat ((n + 7) / 8)) (uptoR q j)))))), .u (.string (sb ((bytesOf (numB n)) ++ (bytesOf (packI (Int.toNat ((n + 7) / 8)) (uptoR q j)))))) w] (fun W_ => [(Instr.loadAt 3 (.pointer (some (⟨b, 0, none⟩)))).run Try.prog W_ = .ok (.int .i64 n) W_, (W_ = W_) ∧ Calls Try.prog 22 #[.int .i64 n] W_ (fun e W2 => e = .returned (.string (sb (bytesOf (numB n)))) ∧ (fun W_ => Kept [] w W_) W2), (convert 50 9 (p)).run Try.prog W_ = .ok (.string (sb (bytesOf (packI (Int.toNat ((n + 7) / 8)) (uptoR q j))))) W_, (binOp .add 9 (.string (sb (bytesOf (numB n)))) (.string (sb (bytesOf (packI (Int.toNat ((n + 7) / 8)) (uptoR q j)))))).run Try.prog W_ = .ok (.string (sb ((bytesOf (numB n)) ++ (bytesOf (packI (Int.toNat ((n + 7) / 8)) (uptoR q j)))))) W_]) [(.pointer (some (⟨b, 0, none⟩)), .pointer (some (⟨b, 0, none⟩))), (.pointer (some (⟨b, 0, none⟩)), .pointer (some (⟨b, 0, none⟩))), (.pointer (some (⟨b, 0, none⟩)), .pointer (some (⟨b, 0, none⟩))), (p, p), (.string (sb ((bytesOf (numB n)) ++ (bytesOf (packI (Int.toNat ((n + 7) / 8)) (uptoR q j))))), .string (sb ((bytesOf (numB n)) ++ (bytesOf (packI (Int.toNat ((n + 7) / 8)) (uptoR q j))))))] [(2, .string (sb ((bytesOf (numB n)) ++ (bytesOf (packI (Int.toNat ((n + 7) / 8)) (uptoR q j))))))] (by kernel_rfl) (by kernel_rfl) ([(2, .string (sb ((bytesOf (numB n)) ++ (bytesOf (packI (Int.toNat ((n + 7) / 8)) (uptoR q j)))))), (55, .string (sb ((bytesOf (numB n)) ++ (bytesOf (packI (Int.toNat ((n + 7) / 8)) (uptoR q j)))))), (54, .string (sb (bytesOf (packI (Int.toNat ((n + 7) / 8)) (uptoR q j))))), (53, p), (52, .string (sb (bytesOf (numB n)))), (51, .int .i64 n), (50, .pointer (some (⟨b, 0, none⟩))), (49, .pointer (some (⟨b, 0, none⟩))), (48, .pointer (some (⟨b, 0, none⟩)))] ++ [(0, .pointer (some (⟨b, 0, none⟩))), (3, p)]) (fun W_ => by kernel_rfl) (by kernel_rfl) (.cons rfl (.cons rfl (.cons rfl (.cons rfl (.cons rfl Obs.nil))))) (Kept.drewN _ _ 1) (fun W_ hW_ => (.cons (c_load pE3 ((k1.kept0 hM.kept).kept0 hW_) (cel_obj b 0) rfl) (.cons (⟨rfl, Calls.mono (rnum_c n (by omega) W_) (fun e W2 h => ⟨h.1, Kept.trans hW_ h.2.kept⟩)⟩) (.cons (f_string_i sT50 (by kernel_rfl) (by kernel_rfl) ((hM.rd 0 rfl).kept0 hW_) (by exact packI_bd _ _)) (.cons (f_stradd (by (have q1 := numB_len n; simp only [bytesOf_len, packI_len] at *; omega))) Obs.nil))))) (fun w4 hw5 => ?_)
      have hM6 := hM.ext hw5
      have hM7 : Mem [] w0 w4 [] := hM6.sub (List.Sublist.cons _ (List.Sublist.refl _))
      refine GoS.ret (fn := Try.f18) (v := (.string (sb ((bytesOf (numB n)) ++ (bytesOf (packI (Int.toNat ((n + 7) / 8)) (uptoR q j))))))) Try.func18 (by kernel_rfl) ?_
      rw [hR]
      exact ⟨ret_str (packR_eq (by omega)), hM7⟩

set_option maxHeartbeats 400000 in
theorem rpack_c (b : Nat) (v : Value) (n : Int) (q : List Int) (hn : 0 ≤ n ∧ n ≤ 1048576) (hq : Wise n q) (w : World) (k1 : Rd w 2 (obj b) 1 [.int .i64 n, v]) (k2 : Rd w 1 v (List.length q) (ivals .i64 q)) :
    Calls Try.prog 18 #[.pointer (some (⟨b, 0, none⟩))] w (fun e w' => e = .returned (.string (sb (packR n q))) ∧ Mem [] w w' []) := by
  obtain ⟨R, hR⟩ : ∃ R : Ending → World → Prop, R = (fun e w' => e = .returned (.string (sb (packR n q))) ∧ Mem [] w w' []) := ⟨_, rfl⟩
  rw [← hR]
  refine GoS.enter (n := 56) Try.func18 (by kernel_rfl) rfl [(0, .pointer (some (⟨b, 0, none⟩)))] (by kernel_rfl) (by kernel_rfl) ?_
  have hM0 := Mem.start w
  have o6 : (Instr.loadAt 3 (.pointer (some (⟨b, 0, none⟩)))).run Try.prog w = .ok (.int .i64 n) w := c_load pE3 (k1.kept0 hM0.kept) (cel_obj b 0) rfl
  have o7 : (binOp .add 3 (.int .i64 n) (.int .i64 7)).run Try.prog w = .ok (.int .i64 (n + 7)) w := f_add (IntWalk.i64_in _ (by first | omega | (obtain rfl : r = D % 8 := (by omega); omega)))
  have o8 : (binOp .quo 3 (.int .i64 (n + 7)) (.int .i64 8)).run Try.prog w = .ok (.int .i64 ((n + 7) / 8)) w := f_quo (by decide) (IntWalk.i64_quo _ _ (by omega))
  obtain ⟨v1, w2, hr3, hM4⟩ := m_make (x := ((n + 7) / 8)) (y := ((n + 7) / 8)) sT50 rfl hM0 (Int.toNat ((n + 7) / 8)) (by omega) (by omega) (by (try dsimp only); omega) (by (try dsimp only); omega) .i64 .i64
  have hM5 : Mem [] w w2 [⟨5, 1, v1, (Int.toNat ((n + 7) / 8)), (ivals .u8 (List.replicate (Int.toNat ((n + 7) / 8)) 0))⟩] := hM4.cast (by simp [ivals, svals, bvals])
  have o9 : (Instr.makeSlice 50 (.int .i64 ((n + 7) / 8)) (.int .i64 ((n + 7) / 8))).run Try.prog w = .ok v1 w2 := hr3
  refine GoS.run [0, 3, 4] [.n, .n, .n, .n, .n, .n, .n, .n, .n, .h (.int .i64 n), .h (.int .i64 (n + 7)), .h (.int .i64 ((n + 7) / 8)), .u (v1) (w2), .n, .n, .n, .n, .n, .n, .n, .n, .n] _ [.code (csub (cd Try.f18) [1,1,0,1,0,0]), .inLoop (csub (cd Try.f18) [1,1,0,1,0,0]), .inBlock 0, .code (csub (cd Try.f18) [1,1,1])] [(0, .pointer (some (⟨b, 0, none⟩))), (3, v1), (4, .int .i64 0)] w2 (by kernel_rfl) (.cons o6 (.cons o7 (.cons o8 (.cons o9 .nil)))) ?_
  have e : (packI (Int.toNat ((n + 7) / 8)) (uptoR q 0)) = List.replicate (Int.toNat ((n + 7) / 8)) 0 := by rw [uptoR_zero, packI_zero]
  exact rpack_L b v n q hn hq k1 k2 R hR (q.length + 1) 0 _ w2 (by omega) (hM5.cast (by rw [e, List.length_replicate])) (by omega)


end Go.Proofs.Ytiifhlhmkpcaeaa
