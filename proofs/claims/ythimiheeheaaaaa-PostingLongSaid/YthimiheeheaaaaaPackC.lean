/-
  The walk of numbers out of bytes.
-/
import Derived.Test.YthimiheeheaaaaaPackA
namespace Go.Proofs.Ythimiheeheaaaaa
open Go Go.Gw Go.NumP Go.LiveP Go.PackP Go.RowKit
set_option linter.unusedVariables false
set_option linter.unusedSimpArgs false


set_option maxHeartbeats 400000 in
theorem numbers_L2 (t : List UInt8) (W n : Nat) {w0 : World} (hW : W ≤ 63) (hn : n ≤ 128) (hlen : longOf W n ≤ t.length) (ht : t.length ≤ 140737488355328) (v : Value) (i : Nat) (hi : i < n) (R : Ending → World → Prop) (hR : R = (fun e w' => ∃ v, e = .returned v ∧ Mem [] w0 w' [⟨3, 1, v, (List.length (numsT t W n)), (ivals .i64 (numsT t W n))⟩])) : ∀ (N : Nat) (k : Nat) (w : World) (out : ∀ (w : World), Mem [] w0 w [⟨3, 1, v, (List.length (numsU t W n (i + 1) 0)), (ivals .i64 (numsU t W n (i + 1) 0))⟩] → GoS Try.prog 40 R 46 [.code (csub (cd Try.f40) [1,1,0,1,0,0]), .inLoop (csub (cd Try.f40) [1,1,0,1,0,0]), .inBlock 0, .code (csub (cd Try.f40) [1,1,1])] [(0, .string (sb t)), (1, .int .i64 ((W : Nat) : Int)), (7, v), (13, .int .i64 ((n : Nat) : Int)), (14, .int .i64 (((i + 1) : Nat) : Int))] w) (hk : k ≤ W) (hM : Mem [] w0 w [⟨3, 1, v, (List.length (numsU t W n i k)), (ivals .i64 (numsU t W n i k))⟩]) (hN : W - k < N), GoS Try.prog 40 R 46 [.code (csub (cd Try.f40) [1,1,0,1,0,0,1,1,0,0,1,1,0,0]), .inLoop (csub (cd Try.f40) [1,1,0,1,0,0,1,1,0,0,1,1,0,0]), .inBlock 2, .inBlock 1, .code (csub (cd Try.f40) [1,1,0,1,0,0,1,1,1]), .inLoop (csub (cd Try.f40) [1,1,0,1,0,0]), .inBlock 0, .code (csub (cd Try.f40) [1,1,1])] [(0, .string (sb t)), (1, .int .i64 ((W : Nat) : Int)), (7, v), (8, .int .i64 ((i : Nat) : Int)), (13, .int .i64 ((n : Nat) : Int)), (14, .int .i64 ((i : Nat) : Int)), (17, .int .i64 ((W : Nat) : Int)), (18, .int .i64 ((k : Nat) : Int))] w := by
  intro N
  induction N with
  | zero => intro k w out hk hM hN; exact absurd hN (Nat.not_lt_zero _)
  | succ N ih =>
    intro k w out hk hM hN
    have hwm := mul_le128 hW hn
    have hat := at_le (W := W) hi
    unfold longOf at hlen
    have hb0 := bl_bd t ((i * W + k) / 8)
    refine GoS.run [0, 1, 7, 8, 13, 14, 17, 18, 19] [.n, .n, .n, .n, .n] _ [.code (csub (cd Try.f40) [1,1,0,1,0,0,1,1,0,0,1,1,0,0,1,0]), .code (csub (cd Try.f40) [1,1,0,1,0,0,1,1,0,0,1,1,0,0,1,1]), .inLoop (csub (cd Try.f40) [1,1,0,1,0,0,1,1,0,0,1,1,0,0]), .inBlock 2, .inBlock 1, .code (csub (cd Try.f40) [1,1,0,1,0,0,1,1,1]), .inLoop (csub (cd Try.f40) [1,1,0,1,0,0]), .inBlock 0, .code (csub (cd Try.f40) [1,1,1])] [(0, .string (sb t)), (1, .int .i64 ((W : Nat) : Int)), (7, v), (8, .int .i64 ((i : Nat) : Int)), (13, .int .i64 ((n : Nat) : Int)), (14, .int .i64 ((i : Nat) : Int)), (17, .int .i64 ((W : Nat) : Int)), (18, .int .i64 ((k : Nat) : Int)), (19, .bool (decide (((k : Nat) : Int) < ((W : Nat) : Int))))] w (by kernel_rfl) .nil ?_
    refine GoS.cond (decide (((k : Nat) : Int) < ((W : Nat) : Int))) [.code (csub (cd Try.f40) [1,1,0,1,0,0,1,1,0,0,1,1,0,0,1,0,0]), .code (csub (cd Try.f40) [1,1,0,1,0,0,1,1,0,0,1,1,0,0,1,1]), .inLoop (csub (cd Try.f40) [1,1,0,1,0,0,1,1,0,0,1,1,0,0]), .inBlock 2, .inBlock 1, .code (csub (cd Try.f40) [1,1,0,1,0,0,1,1,1]), .inLoop (csub (cd Try.f40) [1,1,0,1,0,0]), .inBlock 0, .code (csub (cd Try.f40) [1,1,1])] [.code (csub (cd Try.f40) [1,1,0,1,0,0,1,1,0,0,1,1,0,0,1,0,1]), .code (csub (cd Try.f40) [1,1,0,1,0,0,1,1,0,0,1,1,0,0,1,1]), .inLoop (csub (cd Try.f40) [1,1,0,1,0,0,1,1,0,0,1,1,0,0]), .inBlock 2, .inBlock 1, .code (csub (cd Try.f40) [1,1,0,1,0,0,1,1,1]), .inLoop (csub (cd Try.f40) [1,1,0,1,0,0]), .inBlock 0, .code (csub (cd Try.f40) [1,1,1])] (by kernel_rfl) (fun h1 => ?_) (fun h1 => ?_)
    ·
      have h1p : ((k : Nat) : Int) < ((W : Nat) : Int) := of_decide_eq_true h1
      refine GoS.run [0, 1, 7, 8, 13, 14, 17, 18] [.n] _ [.code (csub (cd Try.f40) [1,1,0,1,0,0,1,1,0,0,1,1,0,0,1,1]), .inLoop (csub (cd Try.f40) [1,1,0,1,0,0,1,1,0,0,1,1,0,0]), .inBlock 2, .inBlock 1, .code (csub (cd Try.f40) [1,1,0,1,0,0,1,1,1]), .inLoop (csub (cd Try.f40) [1,1,0,1,0,0]), .inBlock 0, .code (csub (cd Try.f40) [1,1,1])] [(0, .string (sb t)), (1, .int .i64 ((W : Nat) : Int)), (7, v), (8, .int .i64 ((i : Nat) : Int)), (13, .int .i64 ((n : Nat) : Int)), (14, .int .i64 ((i : Nat) : Int)), (17, .int .i64 ((W : Nat) : Int)), (18, .int .i64 ((k : Nat) : Int))] w (by kernel_rfl) .nil ?_
      have o3 : (binOp .mul 3 (.int .i64 ((i : Nat) : Int)) (.int .i64 ((W : Nat) : Int))).run Try.prog w = .ok (.int .i64 (((i * W) : Nat) : Int)) w := f_mul (by rw [show ((i : Nat) : Int) * ((W : Nat) : Int) = (((i * W) : Nat) : Int) by omega]; exact IntWalk.i64_in _ (by omega))
      have o4 : (binOp .add 3 (.int .i64 (((i * W) : Nat) : Int)) (.int .i64 ((k : Nat) : Int))).run Try.prog w = .ok (.int .i64 ((((i * W) + k) : Nat) : Int)) w := f_add (by rw [show (((i * W) : Nat) : Int) + ((k : Nat) : Int) = ((((i * W) + k) : Nat) : Int) by omega]; exact IntWalk.i64_in _ (by omega))
      refine GoS.run [0, 1, 7, 8, 9, 10, 13, 14, 17, 18] [.n, .n, .n, .n, .n, .n, .n, .n, .n, .n, .n, .h (.int .i64 (((i * W) : Nat) : Int)), .n, .h (.int .i64 ((((i * W) + k) : Nat) : Int)), .n, .n] _ [.code (csub (cd Try.f40) [1,1,0,1,0,0,1,1,0,0,1,1,0,0,1,1,0,0,1,1]), .inBlock 3, .code (csub (cd Try.f40) [1,1,0,1,0,0,1,1,0,0,1,1,0,0,1,1,1]), .inLoop (csub (cd Try.f40) [1,1,0,1,0,0,1,1,0,0,1,1,0,0]), .inBlock 2, .inBlock 1, .code (csub (cd Try.f40) [1,1,0,1,0,0,1,1,1]), .inLoop (csub (cd Try.f40) [1,1,0,1,0,0]), .inBlock 0, .code (csub (cd Try.f40) [1,1,1])] [(0, .string (sb t)), (1, .int .i64 ((W : Nat) : Int)), (7, v), (8, .int .i64 ((i : Nat) : Int)), (9, .int .i64 ((k : Nat) : Int)), (10, .int .i64 ((((i * W) + k) : Nat) : Int)), (13, .int .i64 ((n : Nat) : Int)), (14, .int .i64 ((i : Nat) : Int)), (17, .int .i64 ((W : Nat) : Int)), (18, .int .i64 ((k : Nat) : Int))] w (by kernel_rfl) (.cons o3 (.cons o4 .nil)) ?_
      obtain ⟨w5, hw6⟩ : ∃ w_, (w).drewN 1 = w_ := ⟨_, rfl⟩
      refine GoS.held (fun W_ => Mem [] w0 W_ []) [] 9 (by kernel_rfl) (by kernel_rfl) 18 (by kernel_rfl) ?_
      rw [hw6]
      have hM7 : Mem [] w0 w5 [⟨3, 1, v, (List.length (numsU t W n i k)), (ivals .i64 (numsU t W n i k))⟩] := hw6 ▸ hM.ext (Kept.drewN _ _ 1)
      have hS8 : Mem [] w0 w5 [] := hM7.sub (List.Sublist.cons _ (List.Sublist.refl _))
      refine GoH.takeV 0 (v) (v) (some 26) (fun W_ => by kernel_rfl) rfl hS8 ?_
      refine GoH.takeV 1 (.int .i64 ((i : Nat) : Int)) (.int .i64 ((i : Nat) : Int)) (some 27) (fun W_ => by kernel_rfl) rfl hS8 ?_
      refine GoH.takeV 4 (.string (sb t)) (.string (sb t)) (some 30) (fun W_ => by kernel_rfl) rfl hS8 ?_
      refine GoH.takeV 5 (.int .i64 ((((i * W) + k) : Nat) : Int)) (.int .i64 ((((i * W) + k) : Nat) : Int)) (some 31) (fun W_ => by kernel_rfl) rfl hS8 ?_
      refine GoH.takeF 6 (.int .i64 (((((i * W) + k) / 8) : Nat) : Int)) (fun W_ => (binOp .quo 3 (.int .i64 ((((i * W) + k) : Nat) : Int)) (.int .i64 8)).run Try.prog W_ = .ok (.int .i64 (((((i * W) + k) / 8) : Nat) : Int)) W_) (some 32) (fun W_ => by kernel_rfl) (fun W_ hW_ => f_quo (by decide) ((IntWalk.i64_quo _ _ (by omega)).trans (by omega))) hS8 ?_
      have hb9 := bl_bd t (((i * W) + k) / 8)
      refine GoH.takeF 7 (.int .u8 (bl t (((i * W) + k) / 8))) (fun W_ => (Instr.index 9 (.string (sb t)) (.int .i64 (((((i * W) + k) / 8) : Nat) : Int))).run Try.prog W_ = .ok (.int .u8 (bl t (((i * W) + k) / 8))) W_) (some 33) (fun W_ => by kernel_rfl) (fun W_ hW_ => f_index (((i * W) + k) / 8) (by kernel_rfl) (by omega) (by first | omega | (rw [numsU_len]; omega) | (simp only [numsU_len]; omega))) hS8 ?_
      refine GoH.takeV 8 (.int .i64 ((((i * W) + k) : Nat) : Int)) (.int .i64 ((((i * W) + k) : Nat) : Int)) (some 34) (fun W_ => by kernel_rfl) rfl hS8 ?_
      refine GoH.takeF 9 (.int .i64 (((((i * W) + k) % 8) : Nat) : Int)) (fun W_ => (binOp .rem 3 (.int .i64 ((((i * W) + k) : Nat) : Int)) (.int .i64 8)).run Try.prog W_ = .ok (.int .i64 (((((i * W) + k) % 8) : Nat) : Int)) W_) (some 35) (fun W_ => by kernel_rfl) (fun W_ hW_ => f_rem (by decide) ((IntWalk.rem_in _ _ (by omega)).trans (by omega))) hS8 ?_
      refine GoH.takeF 10 (.int .u8 ((bl t (((i * W) + k) / 8)) / ((2 ^ (((i * W) + k) % 8) : Nat) : Int))) (fun W_ => (binOp .shr 5 (.int .u8 (bl t (((i * W) + k) / 8))) (.int .i64 (((((i * W) + k) % 8) : Nat) : Int))).run Try.prog W_ = .ok (.int .u8 ((bl t (((i * W) + k) / 8)) / ((2 ^ (((i * W) + k) % 8) : Nat) : Int))) W_) (some 36) (fun W_ => by kernel_rfl) (fun W_ hW_ => f_shr (by omega) (shr8 (by omega))) hS8 ?_
      refine GoH.takeF 11 (.int .u8 (((bl t (((i * W) + k) / 8)) / ((2 ^ (((i * W) + k) % 8) : Nat) : Int)) % 2)) (fun W_ => (binOp .and 5 (.int .u8 ((bl t (((i * W) + k) / 8)) / ((2 ^ (((i * W) + k) % 8) : Nat) : Int))) (.int .u8 1)).run Try.prog W_ = .ok (.int .u8 (((bl t (((i * W) + k) / 8)) / ((2 ^ (((i * W) + k) % 8) : Nat) : Int)) % 2)) W_) (some 37) (fun W_ => by kernel_rfl) (fun W_ hW_ => f_and (and_u8 _ 1 1 (by decide) (by decide))) hS8 ?_
      refine GoH.takeF 12 (.int .i64 (((bl t (((i * W) + k) / 8)) / ((2 ^ (((i * W) + k) % 8) : Nat) : Int)) % 2)) (fun W_ => (convert 5 3 (.int .u8 (((bl t (((i * W) + k) / 8)) / ((2 ^ (((i * W) + k) % 8) : Nat) : Int)) % 2))).run Try.prog W_ = .ok (.int .i64 (((bl t (((i * W) + k) / 8)) / ((2 ^ (((i * W) + k) % 8) : Nat) : Int)) % 2)) W_) (some 38) (fun W_ => by kernel_rfl) (fun W_ hW_ => f_conv (u := .int .u8) (by kernel_rfl) (by kernel_rfl) (IntWalk.i64_in _ (by omega))) hS8 ?_
      refine GoH.takeV 13 (.int .i64 ((k : Nat) : Int)) (.int .i64 ((k : Nat) : Int)) (some 39) (fun W_ => by kernel_rfl) rfl hS8 ?_
      refine GoH.takeF 14 (.int .i64 (((b2 (Nat.testBit (Int.toNat (bl t (((i * W) + k) / 8))) (((i * W) + k) % 8)) (2 ^ k)) : Nat) : Int)) (fun W_ => (binOp .shl 3 (.int .i64 (((bl t (((i * W) + k) / 8)) / ((2 ^ (((i * W) + k) % 8) : Nat) : Int)) % 2)) (.int .i64 ((k : Nat) : Int))).run Try.prog W_ = .ok (.int .i64 (((b2 (Nat.testBit (Int.toNat (bl t (((i * W) + k) / 8))) (((i * W) + k) % 8)) (2 ^ k)) : Nat) : Int)) W_) (some 40) (fun W_ => by kernel_rfl) (fun W_ hW_ => f_shl (by omega) (shl_top _ (by omega) (by omega))) hS8 ?_
      obtain ⟨p10, hp11, hq12⟩ := rd_at (i := ((i : Nat) : Int)) sT38 (hM7.rd 0 rfl) i (by omega) (by first | omega | (rw [numsU_len]; omega) | (simp only [numsU_len]; omega))
      have hS13 : Mem [] w0 w5 [] := hM7.sub (List.Sublist.cons _ (List.Sublist.refl _))
      refine GoH.stepF 2 (.pointer (some p10)) (w5) ((Instr.indexAt 38 (v) (.int .i64 ((i : Nat) : Int))).run Try.prog w5 = .ok (.pointer (some p10)) w5) (some 28) (by kernel_rfl) (hq12 _ _) (.inr hS13) ?_
      have hS14 : Mem [] w0 w5 [] := hM7.sub (List.Sublist.cons _ (List.Sublist.refl _))
      refine GoH.stepF 3 (.int .i64 (List.getD (numsU t W n i k) i 0)) (w5) ((Instr.loadAt 3 (.pointer (some p10))).run Try.prog w5 = .ok (.int .i64 (List.getD (numsU t W n i k) i 0)) w5) (some 29) (by kernel_rfl) (at_load pE3 (hM7.rd 0 rfl) hp11 (ivals_at (by first | omega | (rw [numsU_len]; omega) | (simp only [numsU_len]; omega)))) (.inr hS14) ?_
      refine GoH.takeF 15 (.int .i64 ((numV t W i (k + 1) : Nat) : Int)) (fun W_ => (binOp .or 3 (.int .i64 (List.getD (numsU t W n i k) i 0)) (.int .i64 (((b2 (Nat.testBit (Int.toNat (bl t (((i * W) + k) / 8))) (((i * W) + k) % 8)) (2 ^ k)) : Nat) : Int))).run Try.prog W_ = .ok (.int .i64 ((numV t W i (k + 1) : Nat) : Int)) W_) (some 41) (fun W_ => by kernel_rfl) (fun W_ hW_ => f_or (by rw [numsU_get hi, ← bitT_test]; exact or_top (numV_lt _ _ _ _) (by omega))) hS14 ?_
      obtain ⟨p15, hp16, hq17⟩ := rd_at (i := ((i : Nat) : Int)) sT38 (hM7.rd 0 rfl) i (by omega) (by first | omega | (rw [numsU_len]; omega) | (simp only [numsU_len]; omega))
      have hS18 : Mem [] w0 w5 [] := hM7.sub (List.Sublist.cons _ (List.Sublist.refl _))
      refine GoH.stepF 16 (.pointer (some p15)) (w5) ((Instr.indexAt 38 (v) (.int .i64 ((i : Nat) : Int))).run Try.prog w5 = .ok (.pointer (some p15)) w5) (some 42) (by kernel_rfl) (hq17 _ _) (.inr hS18) ?_
      obtain ⟨w19, hr20, hM21⟩ := at_store (u := .int .i64 ((numV t W i (k + 1) : Nat) : Int)) (by kernel_rfl) hM7 0 rfl hp16 (by first | omega | (rw [numsU_len]; omega) | (simp only [numsU_len]; omega)) rfl rfl
      have hM22 : Mem [] w0 w19 [⟨3, 1, v, (List.length (numsU t W n i k)), (ivals .i64 (List.set (numsU t W n i k) i ((numV t W i (k + 1) : Nat) : Int)))⟩] := hM21.cast (by simp [ivals, svals, bvals, nvals, u8s, List.map_set])
      have hS23 : Mem [] w0 w19 [] := hM22.sub (List.Sublist.cons _ (List.Sublist.refl _))
      refine GoH.stepF 17 (undef) (w19) ((Instr.storeAt 3 (.pointer (some p15)) (.int .i64 ((numV t W i (k + 1) : Nat) : Int))).run Try.prog w5 = .ok () w19 ∧ undef = undef) none (by kernel_rfl) (⟨hr20, rfl⟩) (.inr hS23) ?_
      refine GoH.done [0, 1, 7, 8, 13, 14, 17, 18] [(0, .string (sb t)), (1, .int .i64 ((W : Nat) : Int)), (7, v), (8, .int .i64 ((i : Nat) : Int)), (13, .int .i64 ((n : Nat) : Int)), (14, .int .i64 ((i : Nat) : Int)), (17, .int .i64 ((W : Nat) : Int)), (18, .int .i64 ((k : Nat) : Int))] (by kernel_rfl) (by kernel_rfl) ?_
      have o24 : (binOp .add 3 (.int .i64 ((k : Nat) : Int)) (.int .i64 1)).run Try.prog w19 = .ok (.int .i64 (((k + 1) : Nat) : Int)) w19 := f_add (by rw [show ((k : Nat) : Int) + 1 = (((k + 1) : Nat) : Int) by omega]; exact IntWalk.i64_in _ (by omega))
      refine GoS.run [0, 1, 7, 8, 13, 14, 17, 18] [.n, .n, .h (.int .i64 (((k + 1) : Nat) : Int)), .n, .n, .n] _ [.code (csub (cd Try.f40) [1,1,0,1,0,0,1,1,0,0,1,1,0,0]), .inLoop (csub (cd Try.f40) [1,1,0,1,0,0,1,1,0,0,1,1,0,0]), .inBlock 2, .inBlock 1, .code (csub (cd Try.f40) [1,1,0,1,0,0,1,1,1]), .inLoop (csub (cd Try.f40) [1,1,0,1,0,0]), .inBlock 0, .code (csub (cd Try.f40) [1,1,1])] [(0, .string (sb t)), (1, .int .i64 ((W : Nat) : Int)), (7, v), (8, .int .i64 ((i : Nat) : Int)), (13, .int .i64 ((n : Nat) : Int)), (14, .int .i64 ((i : Nat) : Int)), (17, .int .i64 ((W : Nat) : Int)), (18, .int .i64 (((k + 1) : Nat) : Int))] w19 (by kernel_rfl) (.cons o24 .nil) ?_
      exact ih (k + 1) _ out (by omega) (hM22.cast (by rw [numsU_set hi, numsU_len, numsU_len])) (by omega)
    ·
      have h1p : ¬ (((k : Nat) : Int) < ((W : Nat) : Int)) := of_decide_eq_false h1
      have o2 : (binOp .add 3 (.int .i64 ((i : Nat) : Int)) (.int .i64 1)).run Try.prog w = .ok (.int .i64 (((i + 1) : Nat) : Int)) w := f_add (by rw [show ((i : Nat) : Int) + 1 = (((i + 1) : Nat) : Int) by omega]; exact IntWalk.i64_in _ (by omega))
      refine GoS.run [0, 1, 7, 13, 14] [.n, .n, .n, .h (.int .i64 (((i + 1) : Nat) : Int)), .n, .n, .n] _ [.code (csub (cd Try.f40) [1,1,0,1,0,0]), .inLoop (csub (cd Try.f40) [1,1,0,1,0,0]), .inBlock 0, .code (csub (cd Try.f40) [1,1,1])] [(0, .string (sb t)), (1, .int .i64 ((W : Nat) : Int)), (7, v), (13, .int .i64 ((n : Nat) : Int)), (14, .int .i64 (((i + 1) : Nat) : Int))] w (by kernel_rfl) (.cons o2 .nil) ?_
      obtain rfl : k = W := by omega
      exact out _ (hM.cast (by rw [numsU_end]))

set_option maxHeartbeats 400000 in
theorem numbers_L1 (t : List UInt8) (W n : Nat) {w0 : World} (hW : W ≤ 63) (hn : n ≤ 128) (hlen : longOf W n ≤ t.length) (ht : t.length ≤ 140737488355328) (v : Value) (R : Ending → World → Prop) (hR : R = (fun e w' => ∃ v, e = .returned v ∧ Mem [] w0 w' [⟨3, 1, v, (List.length (numsT t W n)), (ivals .i64 (numsT t W n))⟩])) : ∀ (N : Nat) (i : Nat) (w : World) (hi : i ≤ n) (hM : Mem [] w0 w [⟨3, 1, v, (List.length (numsU t W n i 0)), (ivals .i64 (numsU t W n i 0))⟩]) (hN : n - i < N), GoS Try.prog 40 R 46 [.code (csub (cd Try.f40) [1,1,0,1,0,0]), .inLoop (csub (cd Try.f40) [1,1,0,1,0,0]), .inBlock 0, .code (csub (cd Try.f40) [1,1,1])] [(0, .string (sb t)), (1, .int .i64 ((W : Nat) : Int)), (7, v), (13, .int .i64 ((n : Nat) : Int)), (14, .int .i64 ((i : Nat) : Int))] w := by
  intro N
  induction N with
  | zero => intro i w hi hM hN; exact absurd hN (Nat.not_lt_zero _)
  | succ N ih =>
    intro i w hi hM hN
    refine GoS.run [0, 1, 7, 13, 14, 15] [.n, .n, .n, .n, .n] _ [.code (csub (cd Try.f40) [1,1,0,1,0,0,1,0]), .code (csub (cd Try.f40) [1,1,0,1,0,0,1,1]), .inLoop (csub (cd Try.f40) [1,1,0,1,0,0]), .inBlock 0, .code (csub (cd Try.f40) [1,1,1])] [(0, .string (sb t)), (1, .int .i64 ((W : Nat) : Int)), (7, v), (13, .int .i64 ((n : Nat) : Int)), (14, .int .i64 ((i : Nat) : Int)), (15, .bool (decide (((i : Nat) : Int) < ((n : Nat) : Int))))] w (by kernel_rfl) .nil ?_
    refine GoS.cond (decide (((i : Nat) : Int) < ((n : Nat) : Int))) [.code (csub (cd Try.f40) [1,1,0,1,0,0,1,0,0]), .code (csub (cd Try.f40) [1,1,0,1,0,0,1,1]), .inLoop (csub (cd Try.f40) [1,1,0,1,0,0]), .inBlock 0, .code (csub (cd Try.f40) [1,1,1])] [.code (csub (cd Try.f40) [1,1,0,1,0,0,1,0,1]), .code (csub (cd Try.f40) [1,1,0,1,0,0,1,1]), .inLoop (csub (cd Try.f40) [1,1,0,1,0,0]), .inBlock 0, .code (csub (cd Try.f40) [1,1,1])] (by kernel_rfl) (fun h1 => ?_) (fun h1 => ?_)
    ·
      have h1p : ((i : Nat) : Int) < ((n : Nat) : Int) := of_decide_eq_true h1
      refine GoS.run [0, 1, 7, 13, 14] [.n] _ [.code (csub (cd Try.f40) [1,1,0,1,0,0,1,1]), .inLoop (csub (cd Try.f40) [1,1,0,1,0,0]), .inBlock 0, .code (csub (cd Try.f40) [1,1,1])] [(0, .string (sb t)), (1, .int .i64 ((W : Nat) : Int)), (7, v), (13, .int .i64 ((n : Nat) : Int)), (14, .int .i64 ((i : Nat) : Int))] w (by kernel_rfl) .nil ?_
      refine GoS.run [0, 1, 7, 8, 13, 14, 17, 18] [.n, .n, .n, .n, .n, .n, .n, .n, .n, .n, .n, .n, .n, .n] _ [.code (csub (cd Try.f40) [1,1,0,1,0,0,1,1,0,0,1,1,0,0]), .inLoop (csub (cd Try.f40) [1,1,0,1,0,0,1,1,0,0,1,1,0,0]), .inBlock 2, .inBlock 1, .code (csub (cd Try.f40) [1,1,0,1,0,0,1,1,1]), .inLoop (csub (cd Try.f40) [1,1,0,1,0,0]), .inBlock 0, .code (csub (cd Try.f40) [1,1,1])] [(0, .string (sb t)), (1, .int .i64 ((W : Nat) : Int)), (7, v), (8, .int .i64 ((i : Nat) : Int)), (13, .int .i64 ((n : Nat) : Int)), (14, .int .i64 ((i : Nat) : Int)), (17, .int .i64 ((W : Nat) : Int)), (18, .int .i64 0)] w (by kernel_rfl) .nil ?_
      exact numbers_L2 t W n hW hn hlen ht v i (by omega) R hR (W + 1) 0 w (fun w m => ih (i + 1) w (by omega) m (by omega)) (by omega) hM (by omega)
    ·
      have h1p : ¬ (((i : Nat) : Int) < ((n : Nat) : Int)) := of_decide_eq_false h1
      refine GoS.run [6] [.n, .n, .n, .n, .n, .n] _ [.code (csub (cd Try.f40) [1,1,1,1])] [(6, v)] w (by kernel_rfl) .nil ?_
      refine GoS.ret (fn := Try.f40) (v := v) Try.func40 (by kernel_rfl) ?_
      rw [hR]
      obtain rfl : i = n := by omega
      exact ⟨_, rfl, hM.cast (by rw [numsU_all])⟩

set_option maxHeartbeats 400000 in
theorem numbers_b (t : List UInt8) (W n : Nat)  (hW : W ≤ 63) (hn : n ≤ 128) (hlen : longOf W n ≤ t.length) (ht : t.length ≤ 140737488355328) (w : World) :
    Calls Try.prog 40 #[.string (sb t), .int .i64 ((W : Nat) : Int), .int .i64 ((n : Nat) : Int)] w (fun e w' => ∃ v, e = .returned v ∧ Mem [] w w' [⟨3, 1, v, (List.length (numsT t W n)), (ivals .i64 (numsT t W n))⟩]) := by
  obtain ⟨R, hR⟩ : ∃ R : Ending → World → Prop, R = (fun e w' => ∃ v, e = .returned v ∧ Mem [] w w' [⟨3, 1, v, (List.length (numsT t W n)), (ivals .i64 (numsT t W n))⟩]) := ⟨_, rfl⟩
  rw [← hR]
  refine GoS.enter (n := 46) Try.func40 (by kernel_rfl) rfl [(0, .string (sb t)), (1, .int .i64 ((W : Nat) : Int)), (2, .int .i64 ((n : Nat) : Int))] (by kernel_rfl) (by kernel_rfl) ?_
  have hM0 := Mem.start w
  obtain ⟨v1, w2, hr3, hM4⟩ := m_make (x := ((n : Nat) : Int)) (y := ((n : Nat) : Int)) sT38 rfl hM0 n (by omega) (by omega) (by omega) (by omega) .i64 .i64
  have hM5 : Mem [] w w2 [⟨3, 1, v1, n, (ivals .i64 (List.replicate n 0))⟩] := hM4.cast (by simp [ivals, svals, bvals])
  have o6 : (Instr.makeSlice 38 (.int .i64 ((n : Nat) : Int)) (.int .i64 ((n : Nat) : Int))).run Try.prog w = .ok v1 w2 := hr3
  refine GoS.run [0, 1, 7, 13, 14] [.n, .n, .n, .n, .n, .n, .n, .u (v1) (w2), .n, .n, .n, .n, .n, .n, .n, .n, .n, .n] _ [.code (csub (cd Try.f40) [1,1,0,1,0,0]), .inLoop (csub (cd Try.f40) [1,1,0,1,0,0]), .inBlock 0, .code (csub (cd Try.f40) [1,1,1])] [(0, .string (sb t)), (1, .int .i64 ((W : Nat) : Int)), (7, v1), (13, .int .i64 ((n : Nat) : Int)), (14, .int .i64 0)] w2 (by kernel_rfl) (.cons o6 .nil) ?_
  exact numbers_L1 t W n hW hn hlen ht v1 R hR (n + 1) 0 w2 (by omega) (hM5.cast (by rw [numsU_zero, List.length_replicate])) (by omega)


end Go.Proofs.Ythimiheeheaaaaa
