/-
  The walk of Nums: the bytes of a list of numbers.
-/
import Derived.Test.YtmjkbmlcclmdkaaDoorNumB
namespace Go.Proofs.YtmjkbmlcclmdkaaDoor
open Go Go.Gw Go.NumP Go.CrcP Go.SealP Go.RowKit
set_option linter.unusedVariables false
set_option linter.unusedSimpArgs false

theorem sT28 : SliceT Tryd.prog 28 3 1 8 (.int .i64 0) := ⟨by kernel_rfl, ⟨_, rfl, by kernel_rfl, by kernel_rfl, by kernel_rfl⟩, rfl, by decide⟩
theorem pE3 : Plain Tryd.prog 3 := ⟨.int .i64, by kernel_rfl, (fun _ h => by cases h), (fun _ _ h => by cases h)⟩

set_option maxHeartbeats 400000 in
theorem nums_L (u : Value) (q : List Int) (hq : ∀ j, -9223372036854775808 ≤ q.getD j 0 ∧ q.getD j 0 ≤ 9223372036854775807) (hlen : q.length * 9 ≤ 200000000000000) {w0 : World} (hu : Rd w0 1 u q.length (ivals .i64 q)) (R : Ending → World → Prop) (hR : R = (fun e w' => e = .returned (.string (sb (bytesOf (numsB q)))) ∧ Mem [] w0 w' [])) : ∀ (N : Nat) (k : Nat) (b : Value) (w : World) (hk : k ≤ q.length) (hM : Mem [] w0 w [⟨5, 1, b, (List.length (numsB (List.take k q))), (ivals .u8 (numsB (List.take k q)))⟩]) (hN : q.length - k < N), GoS Tryd.prog 10 R 18 [.code (csub (cd Tryd.f10) [1,1,0,1,0,0]), .inLoop (csub (cd Tryd.f10) [1,1,0,1,0,0]), .inBlock 0, .code (csub (cd Tryd.f10) [1,1,1])] [(3, b), (6, u), (7, .int .i64 ((q.length : Nat) : Int)), (8, .int .i64 ((k : Nat) : Int))] w := by
  intro N
  induction N with
  | zero => intro k b w hk hM hN; exact absurd hN (Nat.not_lt_zero _)
  | succ N ih =>
    intro k b w hk hM hN
    refine GoS.run [3, 6, 7, 8, 9] [.n, .n, .n, .n, .n] _ [.code (csub (cd Tryd.f10) [1,1,0,1,0,0,1,0]), .code (csub (cd Tryd.f10) [1,1,0,1,0,0,1,1]), .inLoop (csub (cd Tryd.f10) [1,1,0,1,0,0]), .inBlock 0, .code (csub (cd Tryd.f10) [1,1,1])] [(3, b), (6, u), (7, .int .i64 ((q.length : Nat) : Int)), (8, .int .i64 ((k : Nat) : Int)), (9, .bool (decide (((k : Nat) : Int) < ((q.length : Nat) : Int))))] w (by kernel_rfl) .nil ?_
    refine GoS.cond (decide (((k : Nat) : Int) < ((q.length : Nat) : Int))) [.code (csub (cd Tryd.f10) [1,1,0,1,0,0,1,0,0]), .code (csub (cd Tryd.f10) [1,1,0,1,0,0,1,1]), .inLoop (csub (cd Tryd.f10) [1,1,0,1,0,0]), .inBlock 0, .code (csub (cd Tryd.f10) [1,1,1])] [.code (csub (cd Tryd.f10) [1,1,0,1,0,0,1,0,1]), .code (csub (cd Tryd.f10) [1,1,0,1,0,0,1,1]), .inLoop (csub (cd Tryd.f10) [1,1,0,1,0,0]), .inBlock 0, .code (csub (cd Tryd.f10) [1,1,1])] (by kernel_rfl) (fun h1 => ?_) (fun h1 => ?_)
    ·
      have h1p : ((k : Nat) : Int) < ((q.length : Nat) : Int) := of_decide_eq_true h1
      refine GoS.run [3, 6, 7, 8] [.n] _ [.code (csub (cd Tryd.f10) [1,1,0,1,0,0,1,1]), .inLoop (csub (cd Tryd.f10) [1,1,0,1,0,0]), .inBlock 0, .code (csub (cd Tryd.f10) [1,1,1])] [(3, b), (6, u), (7, .int .i64 ((q.length : Nat) : Int)), (8, .int .i64 ((k : Nat) : Int))] w (by kernel_rfl) .nil ?_
      obtain ⟨p4, hp5, hq6⟩ := rd_at (i := ((k : Nat) : Int)) sT28 (hu.kept0 hM.kept) k (by omega) (by first | omega | (dsimp only; omega))
      have o8 : (Instr.indexAt 28 (u) (.int .i64 ((k : Nat) : Int))).run Tryd.prog w = .ok (.pointer (some p4)) w := hq6 _ _
      have hb7 := hq k
      have o9 : (Instr.loadAt 3 (.pointer (some p4))).run Tryd.prog w = .ok (.int .i64 (List.getD q k 0)) w := at_load pE3 (hu.kept0 hM.kept) hp5 (ivals_at (by first | omega | (dsimp only; omega)))
      refine GoS.run [6, 7, 8, 12, 13] [.n, .n, .n, .n, .h (.pointer (some p4)), .h (.int .i64 (List.getD q k 0)), .n, .n, .n, .n, .n] _ [.inRegion (cops (csub (cd Tryd.f10) [1,1,0,1,0,0,1,1,0,0,1])) [2,3], .inBlock 1, .code (csub (cd Tryd.f10) [1,1,0,1,0,0,1,1,1]), .inLoop (csub (cd Tryd.f10) [1,1,0,1,0,0]), .inBlock 0, .code (csub (cd Tryd.f10) [1,1,1])] [(6, u), (7, .int .i64 ((q.length : Nat) : Int)), (8, .int .i64 ((k : Nat) : Int)), (12, b), (13, .int .i64 (List.getD q k 0))] w (by kernel_rfl) (.cons o8 (.cons o9 .nil)) ?_
      refine GoS.call [6, 7, 8] 24 #[b, .int .i64 (List.getD q k 0)] (some 14) [.inRegion (cops (csub (cd Tryd.f10) [1,1,0,1,0,0,1,1,0,0,1])) [3], .inBlock 1, .code (csub (cd Tryd.f10) [1,1,0,1,0,0,1,1,1]), .inLoop (csub (cd Tryd.f10) [1,1,0,1,0,0]), .inBlock 0, .code (csub (cd Tryd.f10) [1,1,1])] [(6, u), (7, .int .i64 ((q.length : Nat) : Int)), (8, .int .i64 ((k : Nat) : Int))] (by kernel_rfl) (put_c (numsB (List.take k q)) (List.getD q k 0) (by omega) (by have h1 := numsB_len (List.take k q); have h2 : (List.take k q).length = k := (by rw [List.length_take]; omega); omega) b w (Mem.lend (R := [⟨5, 1, b, (List.length (numsB (List.take k q))), (ivals .u8 (numsB (List.take k q)))⟩]) (L := []) hM)) ?_
      rintro _ w10 ⟨v12, rfl, m11⟩
      refine ⟨_, rfl, ?_⟩
      have hM13 : Mem [] w0 w10 [⟨5, 1, v12, (List.length ((numsB (List.take k q)) ++ numB (List.getD q k 0))), (ivals .u8 ((numsB (List.take k q)) ++ numB (List.getD q k 0)))⟩] := Mem.back (R := [⟨5, 1, b, (List.length (numsB (List.take k q))), (ivals .u8 (numsB (List.take k q)))⟩]) (L := []) hM m11
      have o14 : (binOp .add 3 (.int .i64 ((k : Nat) : Int)) (.int .i64 1)).run Tryd.prog w10 = .ok (.int .i64 (((k + 1) : Nat) : Int)) w10 := f_add (by rw [show ((k : Nat) : Int) + 1 = (((k + 1) : Nat) : Int) by omega]; exact IntWalk.i64_in _ (by omega))
      refine GoS.run [3, 6, 7, 8] [.n, .n, .n, .n, .h (.int .i64 (((k + 1) : Nat) : Int)), .n, .n, .n] _ [.code (csub (cd Tryd.f10) [1,1,0,1,0,0]), .inLoop (csub (cd Tryd.f10) [1,1,0,1,0,0]), .inBlock 0, .code (csub (cd Tryd.f10) [1,1,1])] [(3, v12), (6, u), (7, .int .i64 ((q.length : Nat) : Int)), (8, .int .i64 (((k + 1) : Nat) : Int))] w10 (by kernel_rfl) (.cons o14 .nil) ?_
      have e : ((numsB (List.take k q)) ++ numB (List.getD q k 0)) = numsB (List.take (k + 1) q) := by rw [take_snoc q (by omega), numsB_snoc]
      rw [e] at hM13
      exact ih (k + 1) _ _ (by omega) hM13 (by omega)
    ·
      have h1p : ¬ (((k : Nat) : Int) < ((q.length : Nat) : Int)) := of_decide_eq_false h1
      have o2 : (convert 45 9 (b)).run Tryd.prog w = .ok (.string (sb (bytesOf (numsB (List.take k q))))) w := f_string_i sT45 (by kernel_rfl) (by kernel_rfl) (hM.rd 0 rfl) (by exact numsB_bd _)
      have hM3 : Mem [] w0 w [] := hM.sub (List.Sublist.cons _ (List.Sublist.refl _))
      refine GoS.run [2] [.n, .n, .n, .n, .h (.string (sb (bytesOf (numsB (List.take k q))))), .n, .n] _ [.code (csub (cd Tryd.f10) [1,1,1,1])] [(2, .string (sb (bytesOf (numsB (List.take k q)))))] w (by kernel_rfl) (.cons o2 .nil) ?_
      refine GoS.ret (fn := Tryd.f10) (v := (.string (sb (bytesOf (numsB (List.take k q)))))) Tryd.func10 (by kernel_rfl) ?_
      rw [hR]
      have e : k = q.length := by omega
      subst e
      exact ⟨ret_str (by rw [List.take_length]), hM3⟩

set_option maxHeartbeats 400000 in
theorem nums_c (u : Value) (q : List Int) (hq : ∀ j, -9223372036854775808 ≤ q.getD j 0 ∧ q.getD j 0 ≤ 9223372036854775807) (hlen : q.length * 9 ≤ 200000000000000) (w : World) (hu : Rd w 1 u q.length (ivals .i64 q)) :
    Calls Tryd.prog 10 #[u] w (fun e w' => e = .returned (.string (sb (bytesOf (numsB q)))) ∧ Mem [] w w' []) := by
  obtain ⟨R, hR⟩ : ∃ R : Ending → World → Prop, R = (fun e w' => e = .returned (.string (sb (bytesOf (numsB q)))) ∧ Mem [] w w' []) := ⟨_, rfl⟩
  rw [← hR]
  refine GoS.enter (n := 18) Tryd.func10 (by kernel_rfl) rfl [(0, u)] (by kernel_rfl) (by kernel_rfl) ?_
  have hM0 := Mem.start w
  have o1 : (Builtin.len_ #[28] 3 #[u]).run Tryd.prog w = .ok (.int .i64 (((List.length q) : Nat) : Int)) w := f_slen sT28 (hu.kept0 hM0.kept) 3 _
  refine GoS.run [3, 6, 7, 8] [.n, .n, .n, .n, .n, .n, .n, .n, .n, .n, .n, .n, .h (.int .i64 (((List.length q) : Nat) : Int)), .n, .n, .n, .n] _ [.code (csub (cd Tryd.f10) [1,1,0,1,0,0]), .inLoop (csub (cd Tryd.f10) [1,1,0,1,0,0]), .inBlock 0, .code (csub (cd Tryd.f10) [1,1,1])] [(3, .slice none 0 0), (6, u), (7, .int .i64 (((List.length q) : Nat) : Int)), (8, .int .i64 0)] w (by kernel_rfl) (.cons o1 .nil) ?_
  exact nums_L u q hq hlen hu R hR (q.length + 1) 0 (.slice none 0 0) w (by omega) ((hM0.nilrow 5 1).cast (by simp [numsB, ivals])) (by omega)

set_option maxHeartbeats 400000 in
theorem number_L (s : List UInt8) (w : World) (hne : ¬ (s = [])) (ha1 : ¬ (16 ≤ bl s 0 ∧ bl s 0 < 240)) (ha2 : ¬ (bl s 0 < 8 ∨ 247 < bl s 0)) (k : Nat) (f : Int) (hk : k = headK (bl s 0)) (hf : f = headF (bl s 0)) (hl : k < s.length) (R : Ending → World → Prop) (hR : R = (fun e w' => e = .returned (.tuple #[.int .i64 (numP s).1, .int .i64 (numP s).2.1, .int .i64 (numP s).2.2]) ∧ w = w')) : ∀ (N : Nat) (i : Nat) (hi : 1 ≤ i) (hik : i ≤ k + 1) (hN : k + 1 - i < N), GoS Tryd.prog 27 R 84 [.code (csub (cd Tryd.f27) [1,1,1,1,1,1,1,1,1,0,1,0,0]), .inLoop (csub (cd Tryd.f27) [1,1,1,1,1,1,1,1,1,0,1,0,0]), .inBlock 0, .code (csub (cd Tryd.f27) [1,1,1,1,1,1,1,1,1,1])] [(0, .string (sb s)), (6, .int .i64 ((k : Nat) : Int)), (7, .int .u8 f), (8, .int .u64 (((rdx f s (i - 1)) : Nat) : Int)), (9, .int .i64 ((i : Nat) : Int))] w := by
  intro N
  induction N with
  | zero => intro i hi hik hN; exact absurd hN (Nat.not_lt_zero _)
  | succ N ih =>
    intro i hi hik hN
    have hk0 := headK_bd ha1 ha2
    have hfb : (f = 0 ∧ 16 ≤ bl s 0) ∨ (f = 255 ∧ bl s 0 < 16) := by (rw [hf]; unfold headF; split <;> omega)
    have hF : f = 0 ∨ f = 255 := by omega
    have hx7 : i ≤ 8 → rdx f s (i - 1) < 72057594037927936 := fun h => rdx_lt7 f s (i - 1) (by omega)
    have hx8 := rdx_lt8 f s (i - 1) (by omega)
    have hfl := flip_bd (f := f) (bl_bd s i)
    have hfl1 := flip_bd (f := f) (bl_bd s 1)
    refine GoS.run [0, 6, 7, 8, 9, 41] [.n, .n, .n, .n, .n, .n, .n] _ [.code (csub (cd Tryd.f27) [1,1,1,1,1,1,1,1,1,0,1,0,0,0,1]), .code (csub (cd Tryd.f27) [1,1,1,1,1,1,1,1,1,0,1,0,0,1]), .inLoop (csub (cd Tryd.f27) [1,1,1,1,1,1,1,1,1,0,1,0,0]), .inBlock 0, .code (csub (cd Tryd.f27) [1,1,1,1,1,1,1,1,1,1])] [(0, .string (sb s)), (6, .int .i64 ((k : Nat) : Int)), (7, .int .u8 f), (8, .int .u64 (((rdx f s (i - 1)) : Nat) : Int)), (9, .int .i64 ((i : Nat) : Int)), (41, .bool (decide (((i : Nat) : Int) ≤ ((k : Nat) : Int))))] w (by kernel_rfl) .nil ?_
    refine GoS.cond (decide (((i : Nat) : Int) ≤ ((k : Nat) : Int))) [.code (csub (cd Tryd.f27) [1,1,1,1,1,1,1,1,1,0,1,0,0,0,1,0]), .code (csub (cd Tryd.f27) [1,1,1,1,1,1,1,1,1,0,1,0,0,1]), .inLoop (csub (cd Tryd.f27) [1,1,1,1,1,1,1,1,1,0,1,0,0]), .inBlock 0, .code (csub (cd Tryd.f27) [1,1,1,1,1,1,1,1,1,1])] [.code (csub (cd Tryd.f27) [1,1,1,1,1,1,1,1,1,0,1,0,0,0,1,1]), .code (csub (cd Tryd.f27) [1,1,1,1,1,1,1,1,1,0,1,0,0,1]), .inLoop (csub (cd Tryd.f27) [1,1,1,1,1,1,1,1,1,0,1,0,0]), .inBlock 0, .code (csub (cd Tryd.f27) [1,1,1,1,1,1,1,1,1,1])] (by kernel_rfl) (fun h1 => ?_) (fun h1 => ?_)
    ·
      have h1p : ((i : Nat) : Int) ≤ ((k : Nat) : Int) := of_decide_eq_true h1
      refine GoS.run [0, 6, 7, 8, 9] [.n] _ [.code (csub (cd Tryd.f27) [1,1,1,1,1,1,1,1,1,0,1,0,0,1]), .inLoop (csub (cd Tryd.f27) [1,1,1,1,1,1,1,1,1,0,1,0,0]), .inBlock 0, .code (csub (cd Tryd.f27) [1,1,1,1,1,1,1,1,1,1])] [(0, .string (sb s)), (6, .int .i64 ((k : Nat) : Int)), (7, .int .u8 f), (8, .int .u64 (((rdx f s (i - 1)) : Nat) : Int)), (9, .int .i64 ((i : Nat) : Int))] w (by kernel_rfl) .nil ?_
      have o32 : (binOp .shl 62 (.int .u64 (((rdx f s (i - 1)) : Nat) : Int)) (.int .u64 8)).run Tryd.prog w = .ok (.int .u64 ((((rdx f s (i - 1)) * 256) : Nat) : Int)) w := f_shl (by decide) (by rw [show min (Int.toNat 8) _ = 8 by decide, show (2 : Int) ^ 8 = 256 by decide]; exact (IntWalk.u64_in _ (by omega)).trans (by omega))
      have hb31 := bl_bd s i
      have o33 : (Instr.index 9 (.string (sb s)) (.int .i64 ((i : Nat) : Int))).run Tryd.prog w = .ok (.int .u8 (bl s i)) w := f_index i (by kernel_rfl) (by omega) (by omega)
      have o34 : (binOp .xor 5 (.int .u8 (bl s i)) (.int .u8 f)).run Tryd.prog w = .ok (.int .u8 (flipI f (bl s i))) w := f_xor (xor_flip hF (by omega))
      have o35 : (convert 5 62 (.int .u8 (flipI f (bl s i)))).run Tryd.prog w = .ok (.int .u64 (((Int.toNat (flipI f (bl s i))) : Nat) : Int)) w := f_conv (u := .int .u8) (by kernel_rfl) (by kernel_rfl) ((IntWalk.u64_in _ (by omega)).trans (by omega))
      have o36 : (binOp .or 62 (.int .u64 ((((rdx f s (i - 1)) * 256) : Nat) : Int)) (.int .u64 (((Int.toNat (flipI f (bl s i))) : Nat) : Int))).run Tryd.prog w = .ok (.int .u64 (((((rdx f s (i - 1)) * 256) + (Int.toNat (flipI f (bl s i)))) : Nat) : Int)) w := f_or ((or_u64 8 256 (by decide) (by omega) (by omega) (by omega) (by omega) (by omega)).trans (by omega))
      have o37 : (binOp .add 3 (.int .i64 ((i : Nat) : Int)) (.int .i64 1)).run Tryd.prog w = .ok (.int .i64 (((i + 1) : Nat) : Int)) w := f_add (by rw [show ((i : Nat) : Int) + 1 = (((i + 1) : Nat) : Int) by omega]; exact IntWalk.i64_in _ (by omega))
      refine GoS.run [0, 6, 7, 8, 9] [.n, .n, .n, .n, .h (.int .u64 ((((rdx f s (i - 1)) * 256) : Nat) : Int)), .n, .n, .h (.int .u8 (bl s i)), .n, .h (.int .u8 (flipI f (bl s i))), .h (.int .u64 (((Int.toNat (flipI f (bl s i))) : Nat) : Int)), .h (.int .u64 (((((rdx f s (i - 1)) * 256) + (Int.toNat (flipI f (bl s i)))) : Nat) : Int)), .n, .n, .n, .n, .n, .h (.int .i64 (((i + 1) : Nat) : Int)), .n, .n, .n] _ [.code (csub (cd Tryd.f27) [1,1,1,1,1,1,1,1,1,0,1,0,0]), .inLoop (csub (cd Tryd.f27) [1,1,1,1,1,1,1,1,1,0,1,0,0]), .inBlock 0, .code (csub (cd Tryd.f27) [1,1,1,1,1,1,1,1,1,1])] [(0, .string (sb s)), (6, .int .i64 ((k : Nat) : Int)), (7, .int .u8 f), (8, .int .u64 (((((rdx f s (i - 1)) * 256) + (Int.toNat (flipI f (bl s i)))) : Nat) : Int)), (9, .int .i64 (((i + 1) : Nat) : Int))] w (by kernel_rfl) (.cons o32 (.cons o33 (.cons o34 (.cons o35 (.cons o36 (.cons o37 .nil)))))) ?_
      exact GoS.cast (by rw [← rdx_step (f := f) (s := s) hi]) (ih (i + 1) (by omega) (by omega) (by omega))
    ·
      have h1p : ¬ (((i : Nat) : Int) ≤ ((k : Nat) : Int)) := of_decide_eq_false h1
      refine GoS.run [0, 6, 7, 8, 55] [.n, .n, .n, .n, .n, .n, .n] _ [.inRegion (cops (csub (cd Tryd.f27) [1,1,1,1,1,1,1,1,1,1,0,0])) [3,4,5,6,7,8], .code (csub (cd Tryd.f27) [1,1,1,1,1,1,1,1,1,1,0,1]), .code (csub (cd Tryd.f27) [1,1,1,1,1,1,1,1,1,1,1])] [(0, .string (sb s)), (6, .int .i64 ((k : Nat) : Int)), (7, .int .u8 f), (8, .int .u64 (((rdx f s (i - 1)) : Nat) : Int)), (55, .bool (decide (((k : Nat) : Int) > 1)))] w (by kernel_rfl) .nil ?_
      refine GoS.fork 55 (decide (((k : Nat) : Int) > 1)) (by kernel_rfl) (fun h2 => ?_) (fun h2 => ?_)
      ·
        have h2p : ((k : Nat) : Int) > 1 := of_decide_eq_true h2
        have hb3 := bl_bd s 1
        have o4 : (Instr.index 9 (.string (sb s)) (.int .i64 1)).run Tryd.prog w = .ok (.int .u8 (bl s 1)) w := f_index 1 (by kernel_rfl) (by omega) (by omega)
        have o5 : (binOp .xor 5 (.int .u8 (bl s 1)) (.int .u8 f)).run Tryd.prog w = .ok (.int .u8 (flipI f (bl s 1))) w := f_xor (xor_flip hF (by omega))
        refine GoS.run [6, 7, 8, 61] [.n, .h (.int .u8 (bl s 1)), .n, .h (.int .u8 (flipI f (bl s 1))), .n, .n] _ [.inRegion (cops (csub (cd Tryd.f27) [1,1,1,1,1,1,1,1,1,1,0,0])) [], .code (csub (cd Tryd.f27) [1,1,1,1,1,1,1,1,1,1,0,1]), .code (csub (cd Tryd.f27) [1,1,1,1,1,1,1,1,1,1,1])] [(6, .int .i64 ((k : Nat) : Int)), (7, .int .u8 f), (8, .int .u64 (((rdx f s (i - 1)) : Nat) : Int)), (61, .bool ((flipI f (bl s 1)) == 0))] w (by kernel_rfl) (.cons o4 (.cons o5 .nil)) ?_
        refine GoS.run [6, 7, 8, 61] [.n] _ [.code (csub (cd Tryd.f27) [1,1,1,1,1,1,1,1,1,1,0,1]), .code (csub (cd Tryd.f27) [1,1,1,1,1,1,1,1,1,1,1])] [(6, .int .i64 ((k : Nat) : Int)), (7, .int .u8 f), (8, .int .u64 (((rdx f s (i - 1)) : Nat) : Int)), (61, .bool ((flipI f (bl s 1)) == 0))] w (by kernel_rfl) .nil ?_
        refine GoS.cond ((flipI f (bl s 1)) == 0) [.code (csub (cd Tryd.f27) [1,1,1,1,1,1,1,1,1,1,0,1,0]), .code (csub (cd Tryd.f27) [1,1,1,1,1,1,1,1,1,1,1])] [.code (csub (cd Tryd.f27) [1,1,1,1,1,1,1,1,1,1,0,1,1]), .code (csub (cd Tryd.f27) [1,1,1,1,1,1,1,1,1,1,1])] (by kernel_rfl) (fun h6 => ?_) (fun h6 => ?_)
        ·
          have h6p : (flipI f (bl s 1)) = 0 := eq_of_beq h6
          refine GoS.run [2, 3, 4] [.n, .n, .n, .n, .n, .n] _ [.code (csub (cd Tryd.f27) [1,1,1,1,1,1,1,1,1,1,0,1,0,1]), .code (csub (cd Tryd.f27) [1,1,1,1,1,1,1,1,1,1,1])] [(2, .int .i64 0), (3, .int .i64 0), (4, .int .i64 3)] w (by kernel_rfl) .nil ?_
          refine GoS.ret (fn := Tryd.f27) (v := (.tuple #[.int .i64 0, .int .i64 0, .int .i64 3])) Tryd.func27 (by kernel_rfl) ?_
          rw [hR]
          obtain rfl : i = k + 1 := by omega
          simp only [Nat.add_sub_cancel] at *
          exact ⟨ret_num (by rw [numP_tail hne ha1 ha2 hk hf hl]; (repeat' split) <;> first | rfl | (exfalso; omega)), by trivial⟩
        ·
          have h6p : ¬ ((flipI f (bl s 1)) = 0) := p_ne h6
          refine GoS.run [6, 7, 8] [.n] _ [.code (csub (cd Tryd.f27) [1,1,1,1,1,1,1,1,1,1,1])] [(6, .int .i64 ((k : Nat) : Int)), (7, .int .u8 f), (8, .int .u64 (((rdx f s (i - 1)) : Nat) : Int))] w (by kernel_rfl) .nil ?_
          refine GoS.run [6, 7, 8, 64] [.n, .n, .n, .n, .n, .n] _ [.inRegion (cops (csub (cd Tryd.f27) [1,1,1,1,1,1,1,1,1,1,1,0,0])) [3,4,5], .code (csub (cd Tryd.f27) [1,1,1,1,1,1,1,1,1,1,1,0,1]), .code (csub (cd Tryd.f27) [1,1,1,1,1,1,1,1,1,1,1,1])] [(6, .int .i64 ((k : Nat) : Int)), (7, .int .u8 f), (8, .int .u64 (((rdx f s (i - 1)) : Nat) : Int)), (64, .bool (f == 0))] w (by kernel_rfl) .nil ?_
          refine GoS.fork 64 (f == 0) (by kernel_rfl) (fun h7 => ?_) (fun h7 => ?_)
          ·
            have h7p : f = 0 := eq_of_beq h7
            refine GoS.run [6, 7, 8, 67] [.n, .n, .n] _ [.inRegion (cops (csub (cd Tryd.f27) [1,1,1,1,1,1,1,1,1,1,1,0,0])) [], .code (csub (cd Tryd.f27) [1,1,1,1,1,1,1,1,1,1,1,0,1]), .code (csub (cd Tryd.f27) [1,1,1,1,1,1,1,1,1,1,1,1])] [(6, .int .i64 ((k : Nat) : Int)), (7, .int .u8 f), (8, .int .u64 (((rdx f s (i - 1)) : Nat) : Int)), (67, .bool (decide ((((rdx f s (i - 1)) : Nat) : Int) ≤ 9223372036854775695)))] w (by kernel_rfl) .nil ?_
            refine GoS.run [6, 7, 8, 67] [.n] _ [.code (csub (cd Tryd.f27) [1,1,1,1,1,1,1,1,1,1,1,0,1]), .code (csub (cd Tryd.f27) [1,1,1,1,1,1,1,1,1,1,1,1])] [(6, .int .i64 ((k : Nat) : Int)), (7, .int .u8 f), (8, .int .u64 (((rdx f s (i - 1)) : Nat) : Int)), (67, .bool (decide ((((rdx f s (i - 1)) : Nat) : Int) ≤ 9223372036854775695)))] w (by kernel_rfl) .nil ?_
            refine GoS.cond (decide ((((rdx f s (i - 1)) : Nat) : Int) ≤ 9223372036854775695)) [.code (csub (cd Tryd.f27) [1,1,1,1,1,1,1,1,1,1,1,0,1,0]), .code (csub (cd Tryd.f27) [1,1,1,1,1,1,1,1,1,1,1,1])] [.code (csub (cd Tryd.f27) [1,1,1,1,1,1,1,1,1,1,1,0,1,1]), .code (csub (cd Tryd.f27) [1,1,1,1,1,1,1,1,1,1,1,1])] (by kernel_rfl) (fun h8 => ?_) (fun h8 => ?_)
            ·
              have h8p : (((rdx f s (i - 1)) : Nat) : Int) ≤ 9223372036854775695 := of_decide_eq_true h8
              have o9 : (convert 62 3 (.int .u64 (((rdx f s (i - 1)) : Nat) : Int))).run Tryd.prog w = .ok (.int .i64 (((rdx f s (i - 1)) : Nat) : Int)) w := f_conv (u := .int .u64) (by kernel_rfl) (by kernel_rfl) (IntWalk.i64_in _ (by omega))
              have o10 : (binOp .add 3 (.int .i64 (((rdx f s (i - 1)) : Nat) : Int)) (.int .i64 112)).run Tryd.prog w = .ok (.int .i64 ((((rdx f s (i - 1)) + 112) : Nat) : Int)) w := f_add (by rw [show (((rdx f s (i - 1)) : Nat) : Int) + 112 = ((((rdx f s (i - 1)) + 112) : Nat) : Int) by omega]; exact IntWalk.i64_in _ (by omega))
              have o11 : (binOp .add 3 (.int .i64 ((k : Nat) : Int)) (.int .i64 1)).run Tryd.prog w = .ok (.int .i64 (((k + 1) : Nat) : Int)) w := f_add (by rw [show ((k : Nat) : Int) + 1 = (((k + 1) : Nat) : Int) by omega]; exact IntWalk.i64_in _ (by omega))
              refine GoS.run [2, 3, 4] [.n, .n, .n, .h (.int .i64 (((rdx f s (i - 1)) : Nat) : Int)), .h (.int .i64 ((((rdx f s (i - 1)) + 112) : Nat) : Int)), .n, .h (.int .i64 (((k + 1) : Nat) : Int)), .n, .n, .n, .n] _ [.code (csub (cd Tryd.f27) [1,1,1,1,1,1,1,1,1,1,1,0,1,0,1]), .code (csub (cd Tryd.f27) [1,1,1,1,1,1,1,1,1,1,1,1])] [(2, .int .i64 ((((rdx f s (i - 1)) + 112) : Nat) : Int)), (3, .int .i64 (((k + 1) : Nat) : Int)), (4, .int .i64 0)] w (by kernel_rfl) (.cons o9 (.cons o10 (.cons o11 .nil))) ?_
              refine GoS.ret (fn := Tryd.f27) (v := (.tuple #[.int .i64 ((((rdx f s (i - 1)) + 112) : Nat) : Int), .int .i64 (((k + 1) : Nat) : Int), .int .i64 0])) Tryd.func27 (by kernel_rfl) ?_
              rw [hR]
              obtain rfl : i = k + 1 := by omega
              simp only [Nat.add_sub_cancel] at *
              exact ⟨ret_num (by rw [numP_tail hne ha1 ha2 hk hf hl, if_neg (by omega), if_neg (by omega)]; split <;> first | (congr 1; done) | (exfalso; omega) | (congr 1; omega)), by trivial⟩
            ·
              have h8p : ¬ ((((rdx f s (i - 1)) : Nat) : Int) ≤ 9223372036854775695) := of_decide_eq_false h8
              refine GoS.run [6, 7, 8] [.n] _ [.code (csub (cd Tryd.f27) [1,1,1,1,1,1,1,1,1,1,1,1])] [(6, .int .i64 ((k : Nat) : Int)), (7, .int .u8 f), (8, .int .u64 (((rdx f s (i - 1)) : Nat) : Int))] w (by kernel_rfl) .nil ?_
              refine GoS.run [6, 8, 75] [.n, .n, .n, .n, .n, .n] _ [.inRegion (cops (csub (cd Tryd.f27) [1,1,1,1,1,1,1,1,1,1,1,1,0,0])) [3,4,5], .code (csub (cd Tryd.f27) [1,1,1,1,1,1,1,1,1,1,1,1,0,1]), .code (csub (cd Tryd.f27) [1,1,1,1,1,1,1,1,1,1,1,1,1])] [(6, .int .i64 ((k : Nat) : Int)), (8, .int .u64 (((rdx f s (i - 1)) : Nat) : Int)), (75, .bool (decide (f > 0)))] w (by kernel_rfl) .nil ?_
              refine GoS.fork 75 (decide (f > 0)) (by kernel_rfl) (fun h12 => ?_) (fun h12 => ?_)
              ·
                have h12p : f > 0 := of_decide_eq_true h12
                refine GoS.run [6, 8, 78] [.n, .n, .n] _ [.inRegion (cops (csub (cd Tryd.f27) [1,1,1,1,1,1,1,1,1,1,1,1,0,0])) [], .code (csub (cd Tryd.f27) [1,1,1,1,1,1,1,1,1,1,1,1,0,1]), .code (csub (cd Tryd.f27) [1,1,1,1,1,1,1,1,1,1,1,1,1])] [(6, .int .i64 ((k : Nat) : Int)), (8, .int .u64 (((rdx f s (i - 1)) : Nat) : Int)), (78, .bool (decide ((((rdx f s (i - 1)) : Nat) : Int) ≤ 9223372036854775695)))] w (by kernel_rfl) .nil ?_
                refine GoS.run [6, 8, 78] [.n] _ [.code (csub (cd Tryd.f27) [1,1,1,1,1,1,1,1,1,1,1,1,0,1]), .code (csub (cd Tryd.f27) [1,1,1,1,1,1,1,1,1,1,1,1,1])] [(6, .int .i64 ((k : Nat) : Int)), (8, .int .u64 (((rdx f s (i - 1)) : Nat) : Int)), (78, .bool (decide ((((rdx f s (i - 1)) : Nat) : Int) ≤ 9223372036854775695)))] w (by kernel_rfl) .nil ?_
                refine GoS.cond (decide ((((rdx f s (i - 1)) : Nat) : Int) ≤ 9223372036854775695)) [.code (csub (cd Tryd.f27) [1,1,1,1,1,1,1,1,1,1,1,1,0,1,0]), .code (csub (cd Tryd.f27) [1,1,1,1,1,1,1,1,1,1,1,1,1])] [.code (csub (cd Tryd.f27) [1,1,1,1,1,1,1,1,1,1,1,1,0,1,1]), .code (csub (cd Tryd.f27) [1,1,1,1,1,1,1,1,1,1,1,1,1])] (by kernel_rfl) (fun h13 => ?_) (fun h13 => ?_)
                ·
                  rw [h8] at h13; cases h13
                ·
                  have h13p : ¬ ((((rdx f s (i - 1)) : Nat) : Int) ≤ 9223372036854775695) := of_decide_eq_false h13
                  refine GoS.run [] [.n] _ [.code (csub (cd Tryd.f27) [1,1,1,1,1,1,1,1,1,1,1,1,1])] [] w (by kernel_rfl) .nil ?_
                  refine GoS.run [2, 3, 4] [.n, .n, .n, .n, .n, .n] _ [.code (csub (cd Tryd.f27) [1,1,1,1,1,1,1,1,1,1,1,1,1,1])] [(2, .int .i64 0), (3, .int .i64 0), (4, .int .i64 3)] w (by kernel_rfl) .nil ?_
                  refine GoS.ret (fn := Tryd.f27) (v := (.tuple #[.int .i64 0, .int .i64 0, .int .i64 3])) Tryd.func27 (by kernel_rfl) ?_
                  rw [hR]
                  obtain rfl : i = k + 1 := by omega
                  simp only [Nat.add_sub_cancel] at *
                  exact ⟨ret_num (by rw [numP_tail hne ha1 ha2 hk hf hl]; (repeat' split) <;> first | rfl | (exfalso; omega)), by trivial⟩
              ·
                have h12p : ¬ (f > 0) := of_decide_eq_false h12
                refine GoS.run [6, 8, 78] [.n, .n, .n] _ [.inRegion (cops (csub (cd Tryd.f27) [1,1,1,1,1,1,1,1,1,1,1,1,0,0])) [], .code (csub (cd Tryd.f27) [1,1,1,1,1,1,1,1,1,1,1,1,0,1]), .code (csub (cd Tryd.f27) [1,1,1,1,1,1,1,1,1,1,1,1,1])] [(6, .int .i64 ((k : Nat) : Int)), (8, .int .u64 (((rdx f s (i - 1)) : Nat) : Int)), (78, .bool false)] w (by kernel_rfl) .nil ?_
                refine GoS.run [2, 3, 4] [.n, .n, .n, .n, .n, .n, .n, .n, .n] _ [.code (csub (cd Tryd.f27) [1,1,1,1,1,1,1,1,1,1,1,1,1,1])] [(2, .int .i64 0), (3, .int .i64 0), (4, .int .i64 3)] w (by kernel_rfl) .nil ?_
                refine GoS.ret (fn := Tryd.f27) (v := (.tuple #[.int .i64 0, .int .i64 0, .int .i64 3])) Tryd.func27 (by kernel_rfl) ?_
                rw [hR]
                obtain rfl : i = k + 1 := by omega
                simp only [Nat.add_sub_cancel] at *
                exact ⟨ret_num (by rw [numP_tail hne ha1 ha2 hk hf hl]; (repeat' split) <;> first | rfl | (exfalso; omega)), by trivial⟩
          ·
            have h7p : ¬ (f = 0) := p_ne h7
            refine GoS.run [6, 7, 8, 67] [.n, .n, .n] _ [.inRegion (cops (csub (cd Tryd.f27) [1,1,1,1,1,1,1,1,1,1,1,0,0])) [], .code (csub (cd Tryd.f27) [1,1,1,1,1,1,1,1,1,1,1,0,1]), .code (csub (cd Tryd.f27) [1,1,1,1,1,1,1,1,1,1,1,1])] [(6, .int .i64 ((k : Nat) : Int)), (7, .int .u8 f), (8, .int .u64 (((rdx f s (i - 1)) : Nat) : Int)), (67, .bool false)] w (by kernel_rfl) .nil ?_
            refine GoS.run [6, 8, 75] [.n, .n, .n, .n, .n, .n, .n, .n, .n] _ [.inRegion (cops (csub (cd Tryd.f27) [1,1,1,1,1,1,1,1,1,1,1,1,0,0])) [3,4,5], .code (csub (cd Tryd.f27) [1,1,1,1,1,1,1,1,1,1,1,1,0,1]), .code (csub (cd Tryd.f27) [1,1,1,1,1,1,1,1,1,1,1,1,1])] [(6, .int .i64 ((k : Nat) : Int)), (8, .int .u64 (((rdx f s (i - 1)) : Nat) : Int)), (75, .bool (decide (f > 0)))] w (by kernel_rfl) .nil ?_
            refine GoS.fork 75 (decide (f > 0)) (by kernel_rfl) (fun h14 => ?_) (fun h14 => ?_)
            ·
              have h14p : f > 0 := of_decide_eq_true h14
              refine GoS.run [6, 8, 78] [.n, .n, .n] _ [.inRegion (cops (csub (cd Tryd.f27) [1,1,1,1,1,1,1,1,1,1,1,1,0,0])) [], .code (csub (cd Tryd.f27) [1,1,1,1,1,1,1,1,1,1,1,1,0,1]), .code (csub (cd Tryd.f27) [1,1,1,1,1,1,1,1,1,1,1,1,1])] [(6, .int .i64 ((k : Nat) : Int)), (8, .int .u64 (((rdx f s (i - 1)) : Nat) : Int)), (78, .bool (decide ((((rdx f s (i - 1)) : Nat) : Int) ≤ 9223372036854775695)))] w (by kernel_rfl) .nil ?_
              refine GoS.run [6, 8, 78] [.n] _ [.code (csub (cd Tryd.f27) [1,1,1,1,1,1,1,1,1,1,1,1,0,1]), .code (csub (cd Tryd.f27) [1,1,1,1,1,1,1,1,1,1,1,1,1])] [(6, .int .i64 ((k : Nat) : Int)), (8, .int .u64 (((rdx f s (i - 1)) : Nat) : Int)), (78, .bool (decide ((((rdx f s (i - 1)) : Nat) : Int) ≤ 9223372036854775695)))] w (by kernel_rfl) .nil ?_
              refine GoS.cond (decide ((((rdx f s (i - 1)) : Nat) : Int) ≤ 9223372036854775695)) [.code (csub (cd Tryd.f27) [1,1,1,1,1,1,1,1,1,1,1,1,0,1,0]), .code (csub (cd Tryd.f27) [1,1,1,1,1,1,1,1,1,1,1,1,1])] [.code (csub (cd Tryd.f27) [1,1,1,1,1,1,1,1,1,1,1,1,0,1,1]), .code (csub (cd Tryd.f27) [1,1,1,1,1,1,1,1,1,1,1,1,1])] (by kernel_rfl) (fun h15 => ?_) (fun h15 => ?_)
              ·
                have h15p : (((rdx f s (i - 1)) : Nat) : Int) ≤ 9223372036854775695 := of_decide_eq_true h15
                have o16 : (convert 62 3 (.int .u64 (((rdx f s (i - 1)) : Nat) : Int))).run Tryd.prog w = .ok (.int .i64 (((rdx f s (i - 1)) : Nat) : Int)) w := f_conv (u := .int .u64) (by kernel_rfl) (by kernel_rfl) (IntWalk.i64_in _ (by omega))
                have o17 : (binOp .sub 3 (.int .i64 (-113)) (.int .i64 (((rdx f s (i - 1)) : Nat) : Int))).run Tryd.prog w = .ok (.int .i64 ((-113) - (((rdx f s (i - 1)) : Nat) : Int))) w := f_sub (IntWalk.i64_in _ (by omega))
                have o18 : (binOp .add 3 (.int .i64 ((k : Nat) : Int)) (.int .i64 1)).run Tryd.prog w = .ok (.int .i64 (((k + 1) : Nat) : Int)) w := f_add (by rw [show ((k : Nat) : Int) + 1 = (((k + 1) : Nat) : Int) by omega]; exact IntWalk.i64_in _ (by omega))
                refine GoS.run [2, 3, 4] [.n, .n, .n, .h (.int .i64 (((rdx f s (i - 1)) : Nat) : Int)), .h (.int .i64 ((-113) - (((rdx f s (i - 1)) : Nat) : Int))), .n, .h (.int .i64 (((k + 1) : Nat) : Int)), .n, .n, .n, .n] _ [.code (csub (cd Tryd.f27) [1,1,1,1,1,1,1,1,1,1,1,1,0,1,0,1]), .code (csub (cd Tryd.f27) [1,1,1,1,1,1,1,1,1,1,1,1,1])] [(2, .int .i64 ((-113) - (((rdx f s (i - 1)) : Nat) : Int))), (3, .int .i64 (((k + 1) : Nat) : Int)), (4, .int .i64 0)] w (by kernel_rfl) (.cons o16 (.cons o17 (.cons o18 .nil))) ?_
                refine GoS.ret (fn := Tryd.f27) (v := (.tuple #[.int .i64 ((-113) - (((rdx f s (i - 1)) : Nat) : Int)), .int .i64 (((k + 1) : Nat) : Int), .int .i64 0])) Tryd.func27 (by kernel_rfl) ?_
                rw [hR]
                obtain rfl : i = k + 1 := by omega
                simp only [Nat.add_sub_cancel] at *
                exact ⟨ret_num (by rw [numP_tail hne ha1 ha2 hk hf hl, if_neg (by omega), if_neg (by omega)]; split <;> first | (congr 1; done) | (exfalso; omega) | (congr 1; omega)), by trivial⟩
              ·
                have h15p : ¬ ((((rdx f s (i - 1)) : Nat) : Int) ≤ 9223372036854775695) := of_decide_eq_false h15
                refine GoS.run [] [.n] _ [.code (csub (cd Tryd.f27) [1,1,1,1,1,1,1,1,1,1,1,1,1])] [] w (by kernel_rfl) .nil ?_
                refine GoS.run [2, 3, 4] [.n, .n, .n, .n, .n, .n] _ [.code (csub (cd Tryd.f27) [1,1,1,1,1,1,1,1,1,1,1,1,1,1])] [(2, .int .i64 0), (3, .int .i64 0), (4, .int .i64 3)] w (by kernel_rfl) .nil ?_
                refine GoS.ret (fn := Tryd.f27) (v := (.tuple #[.int .i64 0, .int .i64 0, .int .i64 3])) Tryd.func27 (by kernel_rfl) ?_
                rw [hR]
                obtain rfl : i = k + 1 := by omega
                simp only [Nat.add_sub_cancel] at *
                exact ⟨ret_num (by rw [numP_tail hne ha1 ha2 hk hf hl]; (repeat' split) <;> first | rfl | (exfalso; omega)), by trivial⟩
            ·
              have h14p : ¬ (f > 0) := of_decide_eq_false h14
              refine GoS.run [6, 8, 78] [.n, .n, .n] _ [.inRegion (cops (csub (cd Tryd.f27) [1,1,1,1,1,1,1,1,1,1,1,1,0,0])) [], .code (csub (cd Tryd.f27) [1,1,1,1,1,1,1,1,1,1,1,1,0,1]), .code (csub (cd Tryd.f27) [1,1,1,1,1,1,1,1,1,1,1,1,1])] [(6, .int .i64 ((k : Nat) : Int)), (8, .int .u64 (((rdx f s (i - 1)) : Nat) : Int)), (78, .bool false)] w (by kernel_rfl) .nil ?_
              refine GoS.run [2, 3, 4] [.n, .n, .n, .n, .n, .n, .n, .n, .n] _ [.code (csub (cd Tryd.f27) [1,1,1,1,1,1,1,1,1,1,1,1,1,1])] [(2, .int .i64 0), (3, .int .i64 0), (4, .int .i64 3)] w (by kernel_rfl) .nil ?_
              refine GoS.ret (fn := Tryd.f27) (v := (.tuple #[.int .i64 0, .int .i64 0, .int .i64 3])) Tryd.func27 (by kernel_rfl) ?_
              rw [hR]
              obtain rfl : i = k + 1 := by omega
              simp only [Nat.add_sub_cancel] at *
              exact ⟨ret_num (by rw [numP_tail hne ha1 ha2 hk hf hl]; (repeat' split) <;> first | rfl | (exfalso; omega)), by trivial⟩
      ·
        have h2p : ¬ (((k : Nat) : Int) > 1) := of_decide_eq_false h2
        refine GoS.run [6, 7, 8, 61] [.n, .n, .n, .n, .n, .n] _ [.inRegion (cops (csub (cd Tryd.f27) [1,1,1,1,1,1,1,1,1,1,0,0])) [], .code (csub (cd Tryd.f27) [1,1,1,1,1,1,1,1,1,1,0,1]), .code (csub (cd Tryd.f27) [1,1,1,1,1,1,1,1,1,1,1])] [(6, .int .i64 ((k : Nat) : Int)), (7, .int .u8 f), (8, .int .u64 (((rdx f s (i - 1)) : Nat) : Int)), (61, .bool false)] w (by kernel_rfl) .nil ?_
        refine GoS.run [6, 7, 8, 64] [.n, .n, .n, .n, .n, .n, .n, .n, .n] _ [.inRegion (cops (csub (cd Tryd.f27) [1,1,1,1,1,1,1,1,1,1,1,0,0])) [3,4,5], .code (csub (cd Tryd.f27) [1,1,1,1,1,1,1,1,1,1,1,0,1]), .code (csub (cd Tryd.f27) [1,1,1,1,1,1,1,1,1,1,1,1])] [(6, .int .i64 ((k : Nat) : Int)), (7, .int .u8 f), (8, .int .u64 (((rdx f s (i - 1)) : Nat) : Int)), (64, .bool (f == 0))] w (by kernel_rfl) .nil ?_
        refine GoS.fork 64 (f == 0) (by kernel_rfl) (fun h19 => ?_) (fun h19 => ?_)
        ·
          have h19p : f = 0 := eq_of_beq h19
          refine GoS.run [6, 7, 8, 67] [.n, .n, .n] _ [.inRegion (cops (csub (cd Tryd.f27) [1,1,1,1,1,1,1,1,1,1,1,0,0])) [], .code (csub (cd Tryd.f27) [1,1,1,1,1,1,1,1,1,1,1,0,1]), .code (csub (cd Tryd.f27) [1,1,1,1,1,1,1,1,1,1,1,1])] [(6, .int .i64 ((k : Nat) : Int)), (7, .int .u8 f), (8, .int .u64 (((rdx f s (i - 1)) : Nat) : Int)), (67, .bool (decide ((((rdx f s (i - 1)) : Nat) : Int) ≤ 9223372036854775695)))] w (by kernel_rfl) .nil ?_
          refine GoS.run [6, 7, 8, 67] [.n] _ [.code (csub (cd Tryd.f27) [1,1,1,1,1,1,1,1,1,1,1,0,1]), .code (csub (cd Tryd.f27) [1,1,1,1,1,1,1,1,1,1,1,1])] [(6, .int .i64 ((k : Nat) : Int)), (7, .int .u8 f), (8, .int .u64 (((rdx f s (i - 1)) : Nat) : Int)), (67, .bool (decide ((((rdx f s (i - 1)) : Nat) : Int) ≤ 9223372036854775695)))] w (by kernel_rfl) .nil ?_
          refine GoS.cond (decide ((((rdx f s (i - 1)) : Nat) : Int) ≤ 9223372036854775695)) [.code (csub (cd Tryd.f27) [1,1,1,1,1,1,1,1,1,1,1,0,1,0]), .code (csub (cd Tryd.f27) [1,1,1,1,1,1,1,1,1,1,1,1])] [.code (csub (cd Tryd.f27) [1,1,1,1,1,1,1,1,1,1,1,0,1,1]), .code (csub (cd Tryd.f27) [1,1,1,1,1,1,1,1,1,1,1,1])] (by kernel_rfl) (fun h20 => ?_) (fun h20 => ?_)
          ·
            have h20p : (((rdx f s (i - 1)) : Nat) : Int) ≤ 9223372036854775695 := of_decide_eq_true h20
            have o21 : (convert 62 3 (.int .u64 (((rdx f s (i - 1)) : Nat) : Int))).run Tryd.prog w = .ok (.int .i64 (((rdx f s (i - 1)) : Nat) : Int)) w := f_conv (u := .int .u64) (by kernel_rfl) (by kernel_rfl) (IntWalk.i64_in _ (by omega))
            have o22 : (binOp .add 3 (.int .i64 (((rdx f s (i - 1)) : Nat) : Int)) (.int .i64 112)).run Tryd.prog w = .ok (.int .i64 ((((rdx f s (i - 1)) + 112) : Nat) : Int)) w := f_add (by rw [show (((rdx f s (i - 1)) : Nat) : Int) + 112 = ((((rdx f s (i - 1)) + 112) : Nat) : Int) by omega]; exact IntWalk.i64_in _ (by omega))
            have o23 : (binOp .add 3 (.int .i64 ((k : Nat) : Int)) (.int .i64 1)).run Tryd.prog w = .ok (.int .i64 (((k + 1) : Nat) : Int)) w := f_add (by rw [show ((k : Nat) : Int) + 1 = (((k + 1) : Nat) : Int) by omega]; exact IntWalk.i64_in _ (by omega))
            refine GoS.run [2, 3, 4] [.n, .n, .n, .h (.int .i64 (((rdx f s (i - 1)) : Nat) : Int)), .h (.int .i64 ((((rdx f s (i - 1)) + 112) : Nat) : Int)), .n, .h (.int .i64 (((k + 1) : Nat) : Int)), .n, .n, .n, .n] _ [.code (csub (cd Tryd.f27) [1,1,1,1,1,1,1,1,1,1,1,0,1,0,1]), .code (csub (cd Tryd.f27) [1,1,1,1,1,1,1,1,1,1,1,1])] [(2, .int .i64 ((((rdx f s (i - 1)) + 112) : Nat) : Int)), (3, .int .i64 (((k + 1) : Nat) : Int)), (4, .int .i64 0)] w (by kernel_rfl) (.cons o21 (.cons o22 (.cons o23 .nil))) ?_
            refine GoS.ret (fn := Tryd.f27) (v := (.tuple #[.int .i64 ((((rdx f s (i - 1)) + 112) : Nat) : Int), .int .i64 (((k + 1) : Nat) : Int), .int .i64 0])) Tryd.func27 (by kernel_rfl) ?_
            rw [hR]
            obtain rfl : i = k + 1 := by omega
            simp only [Nat.add_sub_cancel] at *
            exact ⟨ret_num (by rw [numP_tail hne ha1 ha2 hk hf hl, if_neg (by omega), if_neg (by omega)]; split <;> first | (congr 1; done) | (exfalso; omega) | (congr 1; omega)), by trivial⟩
          ·
            have h20p : ¬ ((((rdx f s (i - 1)) : Nat) : Int) ≤ 9223372036854775695) := of_decide_eq_false h20
            refine GoS.run [6, 7, 8] [.n] _ [.code (csub (cd Tryd.f27) [1,1,1,1,1,1,1,1,1,1,1,1])] [(6, .int .i64 ((k : Nat) : Int)), (7, .int .u8 f), (8, .int .u64 (((rdx f s (i - 1)) : Nat) : Int))] w (by kernel_rfl) .nil ?_
            refine GoS.run [6, 8, 75] [.n, .n, .n, .n, .n, .n] _ [.inRegion (cops (csub (cd Tryd.f27) [1,1,1,1,1,1,1,1,1,1,1,1,0,0])) [3,4,5], .code (csub (cd Tryd.f27) [1,1,1,1,1,1,1,1,1,1,1,1,0,1]), .code (csub (cd Tryd.f27) [1,1,1,1,1,1,1,1,1,1,1,1,1])] [(6, .int .i64 ((k : Nat) : Int)), (8, .int .u64 (((rdx f s (i - 1)) : Nat) : Int)), (75, .bool (decide (f > 0)))] w (by kernel_rfl) .nil ?_
            refine GoS.fork 75 (decide (f > 0)) (by kernel_rfl) (fun h24 => ?_) (fun h24 => ?_)
            ·
              have h24p : f > 0 := of_decide_eq_true h24
              refine GoS.run [6, 8, 78] [.n, .n, .n] _ [.inRegion (cops (csub (cd Tryd.f27) [1,1,1,1,1,1,1,1,1,1,1,1,0,0])) [], .code (csub (cd Tryd.f27) [1,1,1,1,1,1,1,1,1,1,1,1,0,1]), .code (csub (cd Tryd.f27) [1,1,1,1,1,1,1,1,1,1,1,1,1])] [(6, .int .i64 ((k : Nat) : Int)), (8, .int .u64 (((rdx f s (i - 1)) : Nat) : Int)), (78, .bool (decide ((((rdx f s (i - 1)) : Nat) : Int) ≤ 9223372036854775695)))] w (by kernel_rfl) .nil ?_
              refine GoS.run [6, 8, 78] [.n] _ [.code (csub (cd Tryd.f27) [1,1,1,1,1,1,1,1,1,1,1,1,0,1]), .code (csub (cd Tryd.f27) [1,1,1,1,1,1,1,1,1,1,1,1,1])] [(6, .int .i64 ((k : Nat) : Int)), (8, .int .u64 (((rdx f s (i - 1)) : Nat) : Int)), (78, .bool (decide ((((rdx f s (i - 1)) : Nat) : Int) ≤ 9223372036854775695)))] w (by kernel_rfl) .nil ?_
              refine GoS.cond (decide ((((rdx f s (i - 1)) : Nat) : Int) ≤ 9223372036854775695)) [.code (csub (cd Tryd.f27) [1,1,1,1,1,1,1,1,1,1,1,1,0,1,0]), .code (csub (cd Tryd.f27) [1,1,1,1,1,1,1,1,1,1,1,1,1])] [.code (csub (cd Tryd.f27) [1,1,1,1,1,1,1,1,1,1,1,1,0,1,1]), .code (csub (cd Tryd.f27) [1,1,1,1,1,1,1,1,1,1,1,1,1])] (by kernel_rfl) (fun h25 => ?_) (fun h25 => ?_)
              ·
                rw [h20] at h25; cases h25
              ·
                have h25p : ¬ ((((rdx f s (i - 1)) : Nat) : Int) ≤ 9223372036854775695) := of_decide_eq_false h25
                refine GoS.run [] [.n] _ [.code (csub (cd Tryd.f27) [1,1,1,1,1,1,1,1,1,1,1,1,1])] [] w (by kernel_rfl) .nil ?_
                refine GoS.run [2, 3, 4] [.n, .n, .n, .n, .n, .n] _ [.code (csub (cd Tryd.f27) [1,1,1,1,1,1,1,1,1,1,1,1,1,1])] [(2, .int .i64 0), (3, .int .i64 0), (4, .int .i64 3)] w (by kernel_rfl) .nil ?_
                refine GoS.ret (fn := Tryd.f27) (v := (.tuple #[.int .i64 0, .int .i64 0, .int .i64 3])) Tryd.func27 (by kernel_rfl) ?_
                rw [hR]
                obtain rfl : i = k + 1 := by omega
                simp only [Nat.add_sub_cancel] at *
                exact ⟨ret_num (by rw [numP_tail hne ha1 ha2 hk hf hl]; (repeat' split) <;> first | rfl | (exfalso; omega)), by trivial⟩
            ·
              have h24p : ¬ (f > 0) := of_decide_eq_false h24
              refine GoS.run [6, 8, 78] [.n, .n, .n] _ [.inRegion (cops (csub (cd Tryd.f27) [1,1,1,1,1,1,1,1,1,1,1,1,0,0])) [], .code (csub (cd Tryd.f27) [1,1,1,1,1,1,1,1,1,1,1,1,0,1]), .code (csub (cd Tryd.f27) [1,1,1,1,1,1,1,1,1,1,1,1,1])] [(6, .int .i64 ((k : Nat) : Int)), (8, .int .u64 (((rdx f s (i - 1)) : Nat) : Int)), (78, .bool false)] w (by kernel_rfl) .nil ?_
              refine GoS.run [2, 3, 4] [.n, .n, .n, .n, .n, .n, .n, .n, .n] _ [.code (csub (cd Tryd.f27) [1,1,1,1,1,1,1,1,1,1,1,1,1,1])] [(2, .int .i64 0), (3, .int .i64 0), (4, .int .i64 3)] w (by kernel_rfl) .nil ?_
              refine GoS.ret (fn := Tryd.f27) (v := (.tuple #[.int .i64 0, .int .i64 0, .int .i64 3])) Tryd.func27 (by kernel_rfl) ?_
              rw [hR]
              obtain rfl : i = k + 1 := by omega
              simp only [Nat.add_sub_cancel] at *
              exact ⟨ret_num (by rw [numP_tail hne ha1 ha2 hk hf hl]; (repeat' split) <;> first | rfl | (exfalso; omega)), by trivial⟩
        ·
          have h19p : ¬ (f = 0) := p_ne h19
          refine GoS.run [6, 7, 8, 67] [.n, .n, .n] _ [.inRegion (cops (csub (cd Tryd.f27) [1,1,1,1,1,1,1,1,1,1,1,0,0])) [], .code (csub (cd Tryd.f27) [1,1,1,1,1,1,1,1,1,1,1,0,1]), .code (csub (cd Tryd.f27) [1,1,1,1,1,1,1,1,1,1,1,1])] [(6, .int .i64 ((k : Nat) : Int)), (7, .int .u8 f), (8, .int .u64 (((rdx f s (i - 1)) : Nat) : Int)), (67, .bool false)] w (by kernel_rfl) .nil ?_
          refine GoS.run [6, 8, 75] [.n, .n, .n, .n, .n, .n, .n, .n, .n] _ [.inRegion (cops (csub (cd Tryd.f27) [1,1,1,1,1,1,1,1,1,1,1,1,0,0])) [3,4,5], .code (csub (cd Tryd.f27) [1,1,1,1,1,1,1,1,1,1,1,1,0,1]), .code (csub (cd Tryd.f27) [1,1,1,1,1,1,1,1,1,1,1,1,1])] [(6, .int .i64 ((k : Nat) : Int)), (8, .int .u64 (((rdx f s (i - 1)) : Nat) : Int)), (75, .bool (decide (f > 0)))] w (by kernel_rfl) .nil ?_
          refine GoS.fork 75 (decide (f > 0)) (by kernel_rfl) (fun h26 => ?_) (fun h26 => ?_)
          ·
            have h26p : f > 0 := of_decide_eq_true h26
            refine GoS.run [6, 8, 78] [.n, .n, .n] _ [.inRegion (cops (csub (cd Tryd.f27) [1,1,1,1,1,1,1,1,1,1,1,1,0,0])) [], .code (csub (cd Tryd.f27) [1,1,1,1,1,1,1,1,1,1,1,1,0,1]), .code (csub (cd Tryd.f27) [1,1,1,1,1,1,1,1,1,1,1,1,1])] [(6, .int .i64 ((k : Nat) : Int)), (8, .int .u64 (((rdx f s (i - 1)) : Nat) : Int)), (78, .bool (decide ((((rdx f s (i - 1)) : Nat) : Int) ≤ 9223372036854775695)))] w (by kernel_rfl) .nil ?_
            refine GoS.run [6, 8, 78] [.n] _ [.code (csub (cd Tryd.f27) [1,1,1,1,1,1,1,1,1,1,1,1,0,1]), .code (csub (cd Tryd.f27) [1,1,1,1,1,1,1,1,1,1,1,1,1])] [(6, .int .i64 ((k : Nat) : Int)), (8, .int .u64 (((rdx f s (i - 1)) : Nat) : Int)), (78, .bool (decide ((((rdx f s (i - 1)) : Nat) : Int) ≤ 9223372036854775695)))] w (by kernel_rfl) .nil ?_
            refine GoS.cond (decide ((((rdx f s (i - 1)) : Nat) : Int) ≤ 9223372036854775695)) [.code (csub (cd Tryd.f27) [1,1,1,1,1,1,1,1,1,1,1,1,0,1,0]), .code (csub (cd Tryd.f27) [1,1,1,1,1,1,1,1,1,1,1,1,1])] [.code (csub (cd Tryd.f27) [1,1,1,1,1,1,1,1,1,1,1,1,0,1,1]), .code (csub (cd Tryd.f27) [1,1,1,1,1,1,1,1,1,1,1,1,1])] (by kernel_rfl) (fun h27 => ?_) (fun h27 => ?_)
            ·
              have h27p : (((rdx f s (i - 1)) : Nat) : Int) ≤ 9223372036854775695 := of_decide_eq_true h27
              have o28 : (convert 62 3 (.int .u64 (((rdx f s (i - 1)) : Nat) : Int))).run Tryd.prog w = .ok (.int .i64 (((rdx f s (i - 1)) : Nat) : Int)) w := f_conv (u := .int .u64) (by kernel_rfl) (by kernel_rfl) (IntWalk.i64_in _ (by omega))
              have o29 : (binOp .sub 3 (.int .i64 (-113)) (.int .i64 (((rdx f s (i - 1)) : Nat) : Int))).run Tryd.prog w = .ok (.int .i64 ((-113) - (((rdx f s (i - 1)) : Nat) : Int))) w := f_sub (IntWalk.i64_in _ (by omega))
              have o30 : (binOp .add 3 (.int .i64 ((k : Nat) : Int)) (.int .i64 1)).run Tryd.prog w = .ok (.int .i64 (((k + 1) : Nat) : Int)) w := f_add (by rw [show ((k : Nat) : Int) + 1 = (((k + 1) : Nat) : Int) by omega]; exact IntWalk.i64_in _ (by omega))
              refine GoS.run [2, 3, 4] [.n, .n, .n, .h (.int .i64 (((rdx f s (i - 1)) : Nat) : Int)), .h (.int .i64 ((-113) - (((rdx f s (i - 1)) : Nat) : Int))), .n, .h (.int .i64 (((k + 1) : Nat) : Int)), .n, .n, .n, .n] _ [.code (csub (cd Tryd.f27) [1,1,1,1,1,1,1,1,1,1,1,1,0,1,0,1]), .code (csub (cd Tryd.f27) [1,1,1,1,1,1,1,1,1,1,1,1,1])] [(2, .int .i64 ((-113) - (((rdx f s (i - 1)) : Nat) : Int))), (3, .int .i64 (((k + 1) : Nat) : Int)), (4, .int .i64 0)] w (by kernel_rfl) (.cons o28 (.cons o29 (.cons o30 .nil))) ?_
              refine GoS.ret (fn := Tryd.f27) (v := (.tuple #[.int .i64 ((-113) - (((rdx f s (i - 1)) : Nat) : Int)), .int .i64 (((k + 1) : Nat) : Int), .int .i64 0])) Tryd.func27 (by kernel_rfl) ?_
              rw [hR]
              obtain rfl : i = k + 1 := by omega
              simp only [Nat.add_sub_cancel] at *
              exact ⟨ret_num (by rw [numP_tail hne ha1 ha2 hk hf hl, if_neg (by omega), if_neg (by omega)]; split <;> first | (congr 1; done) | (exfalso; omega) | (congr 1; omega)), by trivial⟩
            ·
              have h27p : ¬ ((((rdx f s (i - 1)) : Nat) : Int) ≤ 9223372036854775695) := of_decide_eq_false h27
              refine GoS.run [] [.n] _ [.code (csub (cd Tryd.f27) [1,1,1,1,1,1,1,1,1,1,1,1,1])] [] w (by kernel_rfl) .nil ?_
              refine GoS.run [2, 3, 4] [.n, .n, .n, .n, .n, .n] _ [.code (csub (cd Tryd.f27) [1,1,1,1,1,1,1,1,1,1,1,1,1,1])] [(2, .int .i64 0), (3, .int .i64 0), (4, .int .i64 3)] w (by kernel_rfl) .nil ?_
              refine GoS.ret (fn := Tryd.f27) (v := (.tuple #[.int .i64 0, .int .i64 0, .int .i64 3])) Tryd.func27 (by kernel_rfl) ?_
              rw [hR]
              obtain rfl : i = k + 1 := by omega
              simp only [Nat.add_sub_cancel] at *
              exact ⟨ret_num (by rw [numP_tail hne ha1 ha2 hk hf hl]; (repeat' split) <;> first | rfl | (exfalso; omega)), by trivial⟩
          ·
            have h26p : ¬ (f > 0) := of_decide_eq_false h26
            refine GoS.run [6, 8, 78] [.n, .n, .n] _ [.inRegion (cops (csub (cd Tryd.f27) [1,1,1,1,1,1,1,1,1,1,1,1,0,0])) [], .code (csub (cd Tryd.f27) [1,1,1,1,1,1,1,1,1,1,1,1,0,1]), .code (csub (cd Tryd.f27) [1,1,1,1,1,1,1,1,1,1,1,1,1])] [(6, .int .i64 ((k : Nat) : Int)), (8, .int .u64 (((rdx f s (i - 1)) : Nat) : Int)), (78, .bool false)] w (by kernel_rfl) .nil ?_
            refine GoS.run [2, 3, 4] [.n, .n, .n, .n, .n, .n, .n, .n, .n] _ [.code (csub (cd Tryd.f27) [1,1,1,1,1,1,1,1,1,1,1,1,1,1])] [(2, .int .i64 0), (3, .int .i64 0), (4, .int .i64 3)] w (by kernel_rfl) .nil ?_
            refine GoS.ret (fn := Tryd.f27) (v := (.tuple #[.int .i64 0, .int .i64 0, .int .i64 3])) Tryd.func27 (by kernel_rfl) ?_
            rw [hR]
            obtain rfl : i = k + 1 := by omega
            simp only [Nat.add_sub_cancel] at *
            exact ⟨ret_num (by rw [numP_tail hne ha1 ha2 hk hf hl]; (repeat' split) <;> first | rfl | (exfalso; omega)), by trivial⟩

set_option maxHeartbeats 400000 in
theorem number_c (s : List UInt8) (w : World) :
    Calls Tryd.prog 27 #[.string (sb s)] w (fun e w' => e = .returned (.tuple #[.int .i64 (numP s).1, .int .i64 (numP s).2.1, .int .i64 (numP s).2.2]) ∧ w = w') := by
  obtain ⟨R, hR⟩ : ∃ R : Ending → World → Prop, R = (fun e w' => e = .returned (.tuple #[.int .i64 (numP s).1, .int .i64 (numP s).2.1, .int .i64 (numP s).2.2]) ∧ w = w') := ⟨_, rfl⟩
  rw [← hR]
  refine GoS.enter (n := 84) Tryd.func27 (by kernel_rfl) rfl [(0, .string (sb s))] (by kernel_rfl) (by kernel_rfl) ?_
  have o1 : (binOp .eql 9 (.string (sb s)) (.string (sb ([])))).run Tryd.prog w = .ok (.bool (decide (s = []))) w := f_streq
  refine GoS.run [0, 11] [.n, .n, .n, .n, .n, .n, .n, .n, .n, .n, .h (.bool (decide (s = []))), .n] _ [.code (csub (cd Tryd.f27) [1,0,1]), .code (csub (cd Tryd.f27) [1,1])] [(0, .string (sb s)), (11, .bool (decide (s = [])))] w (by kernel_rfl) (.cons o1 .nil) ?_
  refine GoS.cond (decide (s = [])) [.code (csub (cd Tryd.f27) [1,0,1,0]), .code (csub (cd Tryd.f27) [1,1])] [.code (csub (cd Tryd.f27) [1,0,1,1]), .code (csub (cd Tryd.f27) [1,1])] (by kernel_rfl) (fun h2 => ?_) (fun h2 => ?_)
  ·
    have h2p : s = [] := of_decide_eq_true h2
    refine GoS.run [2, 3, 4] [.n, .n, .n, .n, .n, .n] _ [.code (csub (cd Tryd.f27) [1,0,1,0,1]), .code (csub (cd Tryd.f27) [1,1])] [(2, .int .i64 0), (3, .int .i64 0), (4, .int .i64 2)] w (by kernel_rfl) .nil ?_
    refine GoS.ret (fn := Tryd.f27) (v := (.tuple #[.int .i64 0, .int .i64 0, .int .i64 2])) Tryd.func27 (by kernel_rfl) ?_
    rw [hR]
    have e : numP s = (0, 0, 2) := by rw [numP, if_pos h2p]
    exact ⟨ret_num e, rfl⟩
  ·
    have h2p : ¬ (s = []) := of_decide_eq_false h2
    refine GoS.run [0] [.n] _ [.code (csub (cd Tryd.f27) [1,1])] [(0, .string (sb s))] w (by kernel_rfl) .nil ?_
    have hb3 := bl_bd s 0
    have o4 : (Instr.index 9 (.string (sb s)) (.int .i64 0)).run Tryd.prog w = .ok (.int .u8 (bl s 0)) w := f_index 0 (by kernel_rfl) (by omega) (by first | omega | exact List.length_pos_iff.2 h2p)
    have o5 : (convert 5 3 (.int .u8 (bl s 0))).run Tryd.prog w = .ok (.int .i64 (bl s 0)) w := f_conv (u := .int .u8) (by kernel_rfl) (by kernel_rfl) (IntWalk.i64_in _ (by omega))
    refine GoS.run [0, 5, 17] [.n, .n, .n, .h (.int .u8 (bl s 0)), .h (.int .i64 (bl s 0)), .n, .n, .n, .n, .n, .n, .n, .n] _ [.inRegion (cops (csub (cd Tryd.f27) [1,1,1,0,0])) [3,4,5], .code (csub (cd Tryd.f27) [1,1,1,0,1]), .code (csub (cd Tryd.f27) [1,1,1,1])] [(0, .string (sb s)), (5, .int .i64 (bl s 0)), (17, .bool (decide ((bl s 0) ≥ 16)))] w (by kernel_rfl) (.cons o4 (.cons o5 .nil)) ?_
    refine GoS.fork 17 (decide ((bl s 0) ≥ 16)) (by kernel_rfl) (fun h6 => ?_) (fun h6 => ?_)
    ·
      have h6p : (bl s 0) ≥ 16 := of_decide_eq_true h6
      refine GoS.run [0, 5, 20] [.n, .n, .n] _ [.inRegion (cops (csub (cd Tryd.f27) [1,1,1,0,0])) [], .code (csub (cd Tryd.f27) [1,1,1,0,1]), .code (csub (cd Tryd.f27) [1,1,1,1])] [(0, .string (sb s)), (5, .int .i64 (bl s 0)), (20, .bool (decide ((bl s 0) < 240)))] w (by kernel_rfl) .nil ?_
      refine GoS.run [0, 5, 20] [.n] _ [.code (csub (cd Tryd.f27) [1,1,1,0,1]), .code (csub (cd Tryd.f27) [1,1,1,1])] [(0, .string (sb s)), (5, .int .i64 (bl s 0)), (20, .bool (decide ((bl s 0) < 240)))] w (by kernel_rfl) .nil ?_
      refine GoS.cond (decide ((bl s 0) < 240)) [.code (csub (cd Tryd.f27) [1,1,1,0,1,0]), .code (csub (cd Tryd.f27) [1,1,1,1])] [.code (csub (cd Tryd.f27) [1,1,1,0,1,1]), .code (csub (cd Tryd.f27) [1,1,1,1])] (by kernel_rfl) (fun h7 => ?_) (fun h7 => ?_)
      ·
        have h7p : (bl s 0) < 240 := of_decide_eq_true h7
        have o8 : (binOp .sub 3 (.int .i64 (bl s 0)) (.int .i64 128)).run Tryd.prog w = .ok (.int .i64 ((bl s 0) - 128)) w := f_sub (IntWalk.i64_in _ (by omega))
        refine GoS.run [2, 3, 4] [.n, .n, .n, .h (.int .i64 ((bl s 0) - 128)), .n, .n, .n, .n] _ [.code (csub (cd Tryd.f27) [1,1,1,0,1,0,1]), .code (csub (cd Tryd.f27) [1,1,1,1])] [(2, .int .i64 ((bl s 0) - 128)), (3, .int .i64 1), (4, .int .i64 0)] w (by kernel_rfl) (.cons o8 .nil) ?_
        refine GoS.ret (fn := Tryd.f27) (v := (.tuple #[.int .i64 ((bl s 0) - 128), .int .i64 1, .int .i64 0])) Tryd.func27 (by kernel_rfl) ?_
        rw [hR]
        have e : numP s = (((bl s 0) - 128), 1, 0) := by rw [numP, if_neg h2p, if_pos (by omega)]
        exact ⟨ret_num e, rfl⟩
      ·
        have h7p : ¬ ((bl s 0) < 240) := of_decide_eq_false h7
        refine GoS.run [0, 5] [.n] _ [.code (csub (cd Tryd.f27) [1,1,1,1])] [(0, .string (sb s)), (5, .int .i64 (bl s 0))] w (by kernel_rfl) .nil ?_
        refine GoS.run [0, 5, 25] [.n, .n, .n, .n, .n, .n] _ [.inRegion (cops (csub (cd Tryd.f27) [1,1,1,1,0,0])) [3,4,5], .code (csub (cd Tryd.f27) [1,1,1,1,0,1]), .code (csub (cd Tryd.f27) [1,1,1,1,1])] [(0, .string (sb s)), (5, .int .i64 (bl s 0)), (25, .bool (decide ((bl s 0) < 8)))] w (by kernel_rfl) .nil ?_
        refine GoS.fork 25 (decide ((bl s 0) < 8)) (by kernel_rfl) (fun h9 => ?_) (fun h9 => ?_)
        ·
          have h9p : (bl s 0) < 8 := of_decide_eq_true h9
          refine GoS.run [0, 5, 28] [.n, .n, .n] _ [.inRegion (cops (csub (cd Tryd.f27) [1,1,1,1,0,0])) [], .code (csub (cd Tryd.f27) [1,1,1,1,0,1]), .code (csub (cd Tryd.f27) [1,1,1,1,1])] [(0, .string (sb s)), (5, .int .i64 (bl s 0)), (28, .bool true)] w (by kernel_rfl) .nil ?_
          refine GoS.run [2, 3, 4] [.n, .n, .n, .n, .n, .n, .n, .n] _ [.code (csub (cd Tryd.f27) [1,1,1,1,0,1,0,1]), .code (csub (cd Tryd.f27) [1,1,1,1,1])] [(2, .int .i64 0), (3, .int .i64 0), (4, .int .i64 3)] w (by kernel_rfl) .nil ?_
          refine GoS.ret (fn := Tryd.f27) (v := (.tuple #[.int .i64 0, .int .i64 0, .int .i64 3])) Tryd.func27 (by kernel_rfl) ?_
          rw [hR]
          have e : numP s = (0, 0, 3) := by rw [numP, if_neg h2p, if_neg (by omega), if_pos (by omega)]
          exact ⟨ret_num e, rfl⟩
        ·
          have h9p : ¬ ((bl s 0) < 8) := of_decide_eq_false h9
          refine GoS.run [0, 5, 28] [.n, .n, .n] _ [.inRegion (cops (csub (cd Tryd.f27) [1,1,1,1,0,0])) [], .code (csub (cd Tryd.f27) [1,1,1,1,0,1]), .code (csub (cd Tryd.f27) [1,1,1,1,1])] [(0, .string (sb s)), (5, .int .i64 (bl s 0)), (28, .bool (decide ((bl s 0) > 247)))] w (by kernel_rfl) .nil ?_
          refine GoS.run [0, 5, 28] [.n] _ [.code (csub (cd Tryd.f27) [1,1,1,1,0,1]), .code (csub (cd Tryd.f27) [1,1,1,1,1])] [(0, .string (sb s)), (5, .int .i64 (bl s 0)), (28, .bool (decide ((bl s 0) > 247)))] w (by kernel_rfl) .nil ?_
          refine GoS.cond (decide ((bl s 0) > 247)) [.code (csub (cd Tryd.f27) [1,1,1,1,0,1,0]), .code (csub (cd Tryd.f27) [1,1,1,1,1])] [.code (csub (cd Tryd.f27) [1,1,1,1,0,1,1]), .code (csub (cd Tryd.f27) [1,1,1,1,1])] (by kernel_rfl) (fun h10 => ?_) (fun h10 => ?_)
          ·
            have h10p : (bl s 0) > 247 := of_decide_eq_true h10
            refine GoS.run [2, 3, 4] [.n, .n, .n, .n, .n, .n] _ [.code (csub (cd Tryd.f27) [1,1,1,1,0,1,0,1]), .code (csub (cd Tryd.f27) [1,1,1,1,1])] [(2, .int .i64 0), (3, .int .i64 0), (4, .int .i64 3)] w (by kernel_rfl) .nil ?_
            refine GoS.ret (fn := Tryd.f27) (v := (.tuple #[.int .i64 0, .int .i64 0, .int .i64 3])) Tryd.func27 (by kernel_rfl) ?_
            rw [hR]
            have e : numP s = (0, 0, 3) := by rw [numP, if_neg h2p, if_neg (by omega), if_pos (by omega)]
            exact ⟨ret_num e, rfl⟩
          ·
            have h10p : ¬ ((bl s 0) > 247) := of_decide_eq_false h10
            refine GoS.run [0, 5] [.n] _ [.code (csub (cd Tryd.f27) [1,1,1,1,1])] [(0, .string (sb s)), (5, .int .i64 (bl s 0))] w (by kernel_rfl) .nil ?_
            have o11 : (binOp .sub 3 (.int .i64 (bl s 0)) (.int .i64 239)).run Tryd.prog w = .ok (.int .i64 ((bl s 0) - 239)) w := f_sub (IntWalk.i64_in _ (by omega))
            refine GoS.run [0, 5, 6, 7, 32] [.n, .n, .n, .h (.int .i64 ((bl s 0) - 239)), .n, .n, .n, .n, .n, .n, .n, .n, .n] _ [.code (csub (cd Tryd.f27) [1,1,1,1,1,1,0,1]), .code (csub (cd Tryd.f27) [1,1,1,1,1,1,1])] [(0, .string (sb s)), (5, .int .i64 (bl s 0)), (6, .int .i64 ((bl s 0) - 239)), (7, .int .u8 0), (32, .bool (decide ((bl s 0) < 16)))] w (by kernel_rfl) (.cons o11 .nil) ?_
            refine GoS.cond (decide ((bl s 0) < 16)) [.code (csub (cd Tryd.f27) [1,1,1,1,1,1,0,1,0]), .code (csub (cd Tryd.f27) [1,1,1,1,1,1,1])] [.code (csub (cd Tryd.f27) [1,1,1,1,1,1,0,1,1]), .code (csub (cd Tryd.f27) [1,1,1,1,1,1,1])] (by kernel_rfl) (fun h12 => ?_) (fun h12 => ?_)
            ·
              have hz : (bl s 0) < 16 := of_decide_eq_true h12
              omega
            ·
              have h12p : ¬ ((bl s 0) < 16) := of_decide_eq_false h12
              refine GoS.run [0, 6, 7] [.n] _ [.code (csub (cd Tryd.f27) [1,1,1,1,1,1,1])] [(0, .string (sb s)), (6, .int .i64 ((bl s 0) - 239)), (7, .int .u8 0)] w (by kernel_rfl) .nil ?_
              have o13 : (Builtin.len_ #[9] 3 #[.string (sb s)]).run Tryd.prog w = .ok (.int .i64 ((s.length : Nat) : Int)) w := f_len (by kernel_rfl)
              refine GoS.run [0, 6, 7, 38] [.n, .n, .n, .n, .n, .h (.int .i64 ((s.length : Nat) : Int)), .n, .n] _ [.code (csub (cd Tryd.f27) [1,1,1,1,1,1,1,0,1]), .code (csub (cd Tryd.f27) [1,1,1,1,1,1,1,1])] [(0, .string (sb s)), (6, .int .i64 ((bl s 0) - 239)), (7, .int .u8 0), (38, .bool (decide (((bl s 0) - 239) ≥ ((s.length : Nat) : Int))))] w (by kernel_rfl) (.cons o13 .nil) ?_
              refine GoS.cond (decide (((bl s 0) - 239) ≥ ((s.length : Nat) : Int))) [.code (csub (cd Tryd.f27) [1,1,1,1,1,1,1,0,1,0]), .code (csub (cd Tryd.f27) [1,1,1,1,1,1,1,1])] [.code (csub (cd Tryd.f27) [1,1,1,1,1,1,1,0,1,1]), .code (csub (cd Tryd.f27) [1,1,1,1,1,1,1,1])] (by kernel_rfl) (fun h14 => ?_) (fun h14 => ?_)
              ·
                have h14p : ((bl s 0) - 239) ≥ ((s.length : Nat) : Int) := of_decide_eq_true h14
                refine GoS.run [2, 3, 4] [.n, .n, .n, .n, .n, .n] _ [.code (csub (cd Tryd.f27) [1,1,1,1,1,1,1,0,1,0,1]), .code (csub (cd Tryd.f27) [1,1,1,1,1,1,1,1])] [(2, .int .i64 0), (3, .int .i64 0), (4, .int .i64 2)] w (by kernel_rfl) .nil ?_
                refine GoS.ret (fn := Tryd.f27) (v := (.tuple #[.int .i64 0, .int .i64 0, .int .i64 2])) Tryd.func27 (by kernel_rfl) ?_
                rw [hR]
                have e : numP s = (0, 0, 2) := by rw [numP, if_neg h2p, if_neg (by omega), if_neg (by omega), if_pos (by unfold headK; split <;> omega)]
                exact ⟨ret_num e, rfl⟩
              ·
                have h14p : ¬ (((bl s 0) - 239) ≥ ((s.length : Nat) : Int)) := of_decide_eq_false h14
                refine GoS.run [0, 6, 7] [.n] _ [.code (csub (cd Tryd.f27) [1,1,1,1,1,1,1,1])] [(0, .string (sb s)), (6, .int .i64 ((bl s 0) - 239)), (7, .int .u8 0)] w (by kernel_rfl) .nil ?_
                refine GoS.run [0, 6, 7, 8, 9] [.n, .n, .n, .n, .n, .n, .n, .n, .n, .n, .n] _ [.code (csub (cd Tryd.f27) [1,1,1,1,1,1,1,1,1,0,1,0,0]), .inLoop (csub (cd Tryd.f27) [1,1,1,1,1,1,1,1,1,0,1,0,0]), .inBlock 0, .code (csub (cd Tryd.f27) [1,1,1,1,1,1,1,1,1,1])] [(0, .string (sb s)), (6, .int .i64 ((bl s 0) - 239)), (7, .int .u8 0), (8, .int .u64 0), (9, .int .i64 1)] w (by kernel_rfl) .nil ?_
                have hk0 := headK_bd (b := bl s 0) (by omega) (by omega)
                have ek : ((headK (bl s 0) : Nat) : Int) = ((bl s 0) - 239) := by unfold headK; split <;> omega
                have ef : headF (bl s 0) = 0 := by unfold headF; split <;> omega
                exact GoS.cast (by rw [ek, ef]; rfl) (number_L s w h2p (by omega) (by omega) (headK (bl s 0)) (headF (bl s 0)) rfl rfl (by omega) R hR (headK (bl s 0) + 1) 1 (by omega) (by omega) (by omega))
    ·
      have h6p : ¬ ((bl s 0) ≥ 16) := of_decide_eq_false h6
      refine GoS.run [0, 5, 20] [.n, .n, .n] _ [.inRegion (cops (csub (cd Tryd.f27) [1,1,1,0,0])) [], .code (csub (cd Tryd.f27) [1,1,1,0,1]), .code (csub (cd Tryd.f27) [1,1,1,1])] [(0, .string (sb s)), (5, .int .i64 (bl s 0)), (20, .bool false)] w (by kernel_rfl) .nil ?_
      refine GoS.run [0, 5, 25] [.n, .n, .n, .n, .n, .n, .n, .n, .n] _ [.inRegion (cops (csub (cd Tryd.f27) [1,1,1,1,0,0])) [3,4,5], .code (csub (cd Tryd.f27) [1,1,1,1,0,1]), .code (csub (cd Tryd.f27) [1,1,1,1,1])] [(0, .string (sb s)), (5, .int .i64 (bl s 0)), (25, .bool (decide ((bl s 0) < 8)))] w (by kernel_rfl) .nil ?_
      refine GoS.fork 25 (decide ((bl s 0) < 8)) (by kernel_rfl) (fun h15 => ?_) (fun h15 => ?_)
      ·
        have h15p : (bl s 0) < 8 := of_decide_eq_true h15
        refine GoS.run [0, 5, 28] [.n, .n, .n] _ [.inRegion (cops (csub (cd Tryd.f27) [1,1,1,1,0,0])) [], .code (csub (cd Tryd.f27) [1,1,1,1,0,1]), .code (csub (cd Tryd.f27) [1,1,1,1,1])] [(0, .string (sb s)), (5, .int .i64 (bl s 0)), (28, .bool true)] w (by kernel_rfl) .nil ?_
        refine GoS.run [2, 3, 4] [.n, .n, .n, .n, .n, .n, .n, .n] _ [.code (csub (cd Tryd.f27) [1,1,1,1,0,1,0,1]), .code (csub (cd Tryd.f27) [1,1,1,1,1])] [(2, .int .i64 0), (3, .int .i64 0), (4, .int .i64 3)] w (by kernel_rfl) .nil ?_
        refine GoS.ret (fn := Tryd.f27) (v := (.tuple #[.int .i64 0, .int .i64 0, .int .i64 3])) Tryd.func27 (by kernel_rfl) ?_
        rw [hR]
        have e : numP s = (0, 0, 3) := by rw [numP, if_neg h2p, if_neg (by omega), if_pos (by omega)]
        exact ⟨ret_num e, rfl⟩
      ·
        have h15p : ¬ ((bl s 0) < 8) := of_decide_eq_false h15
        refine GoS.run [0, 5, 28] [.n, .n, .n] _ [.inRegion (cops (csub (cd Tryd.f27) [1,1,1,1,0,0])) [], .code (csub (cd Tryd.f27) [1,1,1,1,0,1]), .code (csub (cd Tryd.f27) [1,1,1,1,1])] [(0, .string (sb s)), (5, .int .i64 (bl s 0)), (28, .bool (decide ((bl s 0) > 247)))] w (by kernel_rfl) .nil ?_
        refine GoS.run [0, 5, 28] [.n] _ [.code (csub (cd Tryd.f27) [1,1,1,1,0,1]), .code (csub (cd Tryd.f27) [1,1,1,1,1])] [(0, .string (sb s)), (5, .int .i64 (bl s 0)), (28, .bool (decide ((bl s 0) > 247)))] w (by kernel_rfl) .nil ?_
        refine GoS.cond (decide ((bl s 0) > 247)) [.code (csub (cd Tryd.f27) [1,1,1,1,0,1,0]), .code (csub (cd Tryd.f27) [1,1,1,1,1])] [.code (csub (cd Tryd.f27) [1,1,1,1,0,1,1]), .code (csub (cd Tryd.f27) [1,1,1,1,1])] (by kernel_rfl) (fun h16 => ?_) (fun h16 => ?_)
        ·
          have h16p : (bl s 0) > 247 := of_decide_eq_true h16
          refine GoS.run [2, 3, 4] [.n, .n, .n, .n, .n, .n] _ [.code (csub (cd Tryd.f27) [1,1,1,1,0,1,0,1]), .code (csub (cd Tryd.f27) [1,1,1,1,1])] [(2, .int .i64 0), (3, .int .i64 0), (4, .int .i64 3)] w (by kernel_rfl) .nil ?_
          refine GoS.ret (fn := Tryd.f27) (v := (.tuple #[.int .i64 0, .int .i64 0, .int .i64 3])) Tryd.func27 (by kernel_rfl) ?_
          rw [hR]
          have e : numP s = (0, 0, 3) := by rw [numP, if_neg h2p, if_neg (by omega), if_pos (by omega)]
          exact ⟨ret_num e, rfl⟩
        ·
          have h16p : ¬ ((bl s 0) > 247) := of_decide_eq_false h16
          refine GoS.run [0, 5] [.n] _ [.code (csub (cd Tryd.f27) [1,1,1,1,1])] [(0, .string (sb s)), (5, .int .i64 (bl s 0))] w (by kernel_rfl) .nil ?_
          have o17 : (binOp .sub 3 (.int .i64 (bl s 0)) (.int .i64 239)).run Tryd.prog w = .ok (.int .i64 ((bl s 0) - 239)) w := f_sub (IntWalk.i64_in _ (by omega))
          refine GoS.run [0, 5, 6, 7, 32] [.n, .n, .n, .h (.int .i64 ((bl s 0) - 239)), .n, .n, .n, .n, .n, .n, .n, .n, .n] _ [.code (csub (cd Tryd.f27) [1,1,1,1,1,1,0,1]), .code (csub (cd Tryd.f27) [1,1,1,1,1,1,1])] [(0, .string (sb s)), (5, .int .i64 (bl s 0)), (6, .int .i64 ((bl s 0) - 239)), (7, .int .u8 0), (32, .bool (decide ((bl s 0) < 16)))] w (by kernel_rfl) (.cons o17 .nil) ?_
          refine GoS.cond (decide ((bl s 0) < 16)) [.code (csub (cd Tryd.f27) [1,1,1,1,1,1,0,1,0]), .code (csub (cd Tryd.f27) [1,1,1,1,1,1,1])] [.code (csub (cd Tryd.f27) [1,1,1,1,1,1,0,1,1]), .code (csub (cd Tryd.f27) [1,1,1,1,1,1,1])] (by kernel_rfl) (fun h18 => ?_) (fun h18 => ?_)
          ·
            have h18p : (bl s 0) < 16 := of_decide_eq_true h18
            have o19 : (binOp .sub 3 (.int .i64 16) (.int .i64 (bl s 0))).run Tryd.prog w = .ok (.int .i64 (16 - (bl s 0))) w := f_sub (IntWalk.i64_in _ (by omega))
            refine GoS.run [0, 6, 7] [.n, .n, .h (.int .i64 (16 - (bl s 0))), .n, .n, .n] _ [.code (csub (cd Tryd.f27) [1,1,1,1,1,1,1])] [(0, .string (sb s)), (6, .int .i64 (16 - (bl s 0))), (7, .int .u8 255)] w (by kernel_rfl) (.cons o19 .nil) ?_
            have o20 : (Builtin.len_ #[9] 3 #[.string (sb s)]).run Tryd.prog w = .ok (.int .i64 ((s.length : Nat) : Int)) w := f_len (by kernel_rfl)
            refine GoS.run [0, 6, 7, 38] [.n, .n, .n, .n, .n, .h (.int .i64 ((s.length : Nat) : Int)), .n, .n] _ [.code (csub (cd Tryd.f27) [1,1,1,1,1,1,1,0,1]), .code (csub (cd Tryd.f27) [1,1,1,1,1,1,1,1])] [(0, .string (sb s)), (6, .int .i64 (16 - (bl s 0))), (7, .int .u8 255), (38, .bool (decide ((16 - (bl s 0)) ≥ ((s.length : Nat) : Int))))] w (by kernel_rfl) (.cons o20 .nil) ?_
            refine GoS.cond (decide ((16 - (bl s 0)) ≥ ((s.length : Nat) : Int))) [.code (csub (cd Tryd.f27) [1,1,1,1,1,1,1,0,1,0]), .code (csub (cd Tryd.f27) [1,1,1,1,1,1,1,1])] [.code (csub (cd Tryd.f27) [1,1,1,1,1,1,1,0,1,1]), .code (csub (cd Tryd.f27) [1,1,1,1,1,1,1,1])] (by kernel_rfl) (fun h21 => ?_) (fun h21 => ?_)
            ·
              have h21p : (16 - (bl s 0)) ≥ ((s.length : Nat) : Int) := of_decide_eq_true h21
              refine GoS.run [2, 3, 4] [.n, .n, .n, .n, .n, .n] _ [.code (csub (cd Tryd.f27) [1,1,1,1,1,1,1,0,1,0,1]), .code (csub (cd Tryd.f27) [1,1,1,1,1,1,1,1])] [(2, .int .i64 0), (3, .int .i64 0), (4, .int .i64 2)] w (by kernel_rfl) .nil ?_
              refine GoS.ret (fn := Tryd.f27) (v := (.tuple #[.int .i64 0, .int .i64 0, .int .i64 2])) Tryd.func27 (by kernel_rfl) ?_
              rw [hR]
              have e : numP s = (0, 0, 2) := by rw [numP, if_neg h2p, if_neg (by omega), if_neg (by omega), if_pos (by unfold headK; split <;> omega)]
              exact ⟨ret_num e, rfl⟩
            ·
              have h21p : ¬ ((16 - (bl s 0)) ≥ ((s.length : Nat) : Int)) := of_decide_eq_false h21
              refine GoS.run [0, 6, 7] [.n] _ [.code (csub (cd Tryd.f27) [1,1,1,1,1,1,1,1])] [(0, .string (sb s)), (6, .int .i64 (16 - (bl s 0))), (7, .int .u8 255)] w (by kernel_rfl) .nil ?_
              refine GoS.run [0, 6, 7, 8, 9] [.n, .n, .n, .n, .n, .n, .n, .n, .n, .n, .n] _ [.code (csub (cd Tryd.f27) [1,1,1,1,1,1,1,1,1,0,1,0,0]), .inLoop (csub (cd Tryd.f27) [1,1,1,1,1,1,1,1,1,0,1,0,0]), .inBlock 0, .code (csub (cd Tryd.f27) [1,1,1,1,1,1,1,1,1,1])] [(0, .string (sb s)), (6, .int .i64 (16 - (bl s 0))), (7, .int .u8 255), (8, .int .u64 0), (9, .int .i64 1)] w (by kernel_rfl) .nil ?_
              have hk0 := headK_bd (b := bl s 0) (by omega) (by omega)
              have ek : ((headK (bl s 0) : Nat) : Int) = (16 - (bl s 0)) := by unfold headK; split <;> omega
              have ef : headF (bl s 0) = 255 := by unfold headF; split <;> omega
              exact GoS.cast (by rw [ek, ef]; rfl) (number_L s w h2p (by omega) (by omega) (headK (bl s 0)) (headF (bl s 0)) rfl rfl (by omega) R hR (headK (bl s 0) + 1) 1 (by omega) (by omega) (by omega))
          ·
            have hz : ¬ ((bl s 0) < 16) := of_decide_eq_false h18
            omega


end Go.Proofs.YtmjkbmlcclmdkaaDoor
