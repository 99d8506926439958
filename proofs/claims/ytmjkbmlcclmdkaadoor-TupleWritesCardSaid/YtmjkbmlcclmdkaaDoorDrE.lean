/-
  The walk of TupleWrites.
-/
import Derived.Test.YtmjkbmlcclmdkaaDoorAwk
namespace Go.Proofs.YtmjkbmlcclmdkaaDoor
open Go Go.Gw Go.NumP Go.CrcP Go.SealP Go.TupP Go.DoorP Go.RowKit
set_option linter.unusedVariables false
set_option linter.unusedSimpArgs false


set_option maxHeartbeats 400000 in
theorem rnums_L {w0 : World} (u : Value) (q : List Int) (hq : ∀ j, -9223372036854775808 ≤ q.getD j 0 ∧ q.getD j 0 ≤ 9223372036854775807) (hlen : q.length * 9 ≤ 200000000000000) (hu : Rd w0 1 u q.length (ivals .i64 q)) (R : Ending → World → Prop) (hR : R = (fun e w' => e = .returned (.string (sb (bytesOf (numsB q)))) ∧ Mem [] w0 w' [])) : ∀ (N : Nat) (i : Nat) (w : World) (hi : i ≤ q.length) (hM : Mem [] w0 w []) (hN : q.length - i < N), GoS Tryd.prog 12 R 19 [.code (csub (cd Tryd.f12) [1,1,0,1,0,0]), .inLoop (csub (cd Tryd.f12) [1,1,0,1,0,0]), .inBlock 0, .code (csub (cd Tryd.f12) [1,1,1])] [(0, u), (3, .string (sb (bytesOf (numsB (List.take i q))))), (4, .int .i64 ((i : Nat) : Int))] w := by
  intro N
  induction N with
  | zero => intro i w hi hM hN; exact absurd hN (Nat.not_lt_zero _)
  | succ N ih =>
    intro i w hi hM hN
    have o1 : (Builtin.len_ #[28] 3 #[u]).run Tryd.prog w = .ok (.int .i64 (((List.length q) : Nat) : Int)) w := f_slen sT28 (hu.kept0 hM.kept) 3 _
    refine GoS.run [0, 3, 4, 8] [.n, .n, .n, .n, .n, .h (.int .i64 (((List.length q) : Nat) : Int)), .n, .n] _ [.code (csub (cd Tryd.f12) [1,1,0,1,0,0,0,1]), .code (csub (cd Tryd.f12) [1,1,0,1,0,0,1]), .inLoop (csub (cd Tryd.f12) [1,1,0,1,0,0]), .inBlock 0, .code (csub (cd Tryd.f12) [1,1,1])] [(0, u), (3, .string (sb (bytesOf (numsB (List.take i q))))), (4, .int .i64 ((i : Nat) : Int)), (8, .bool (decide (((i : Nat) : Int) < (((List.length q) : Nat) : Int))))] w (by kernel_rfl) (.cons o1 .nil) ?_
    refine GoS.cond (decide (((i : Nat) : Int) < (((List.length q) : Nat) : Int))) [.code (csub (cd Tryd.f12) [1,1,0,1,0,0,0,1,0]), .code (csub (cd Tryd.f12) [1,1,0,1,0,0,1]), .inLoop (csub (cd Tryd.f12) [1,1,0,1,0,0]), .inBlock 0, .code (csub (cd Tryd.f12) [1,1,1])] [.code (csub (cd Tryd.f12) [1,1,0,1,0,0,0,1,1]), .code (csub (cd Tryd.f12) [1,1,0,1,0,0,1]), .inLoop (csub (cd Tryd.f12) [1,1,0,1,0,0]), .inBlock 0, .code (csub (cd Tryd.f12) [1,1,1])] (by kernel_rfl) (fun h2 => ?_) (fun h2 => ?_)
    ·
      have h2p : ((i : Nat) : Int) < (((List.length q) : Nat) : Int) := of_decide_eq_true h2
      refine GoS.run [0, 3, 4] [.n] _ [.code (csub (cd Tryd.f12) [1,1,0,1,0,0,1]), .inLoop (csub (cd Tryd.f12) [1,1,0,1,0,0]), .inBlock 0, .code (csub (cd Tryd.f12) [1,1,1])] [(0, u), (3, .string (sb (bytesOf (numsB (List.take i q))))), (4, .int .i64 ((i : Nat) : Int))] w (by kernel_rfl) .nil ?_
      obtain ⟨p3, hp4, hq5⟩ := rd_at (i := ((i : Nat) : Int)) sT28 (hu.kept0 hM.kept) i (by omega) (by first | omega | (dsimp only; omega))
      have o7 : (Instr.indexAt 28 (u) (.int .i64 ((i : Nat) : Int))).run Tryd.prog w = .ok (.pointer (some p3)) w := hq5 _ _
      have hb6 := hq i
      have o8 : (Instr.loadAt 3 (.pointer (some p3))).run Tryd.prog w = .ok (.int .i64 (List.getD q i 0)) w := at_load pE3 (hu.kept0 hM.kept) hp4 (ivals_at (by first | omega | (dsimp only; omega)))
      refine GoS.run [0, 4, 11, 15] [.n, .n, .n, .n, .n, .n, .h (.pointer (some p3)), .h (.int .i64 (List.getD q i 0))] _ [.inRegion (cops (csub (cd Tryd.f12) [1,1,0,1,0,0,1,0,0])) [5,6,7], .inBlock 1, .code (csub (cd Tryd.f12) [1,1,0,1,0,0,1,1]), .inLoop (csub (cd Tryd.f12) [1,1,0,1,0,0]), .inBlock 0, .code (csub (cd Tryd.f12) [1,1,1])] [(0, u), (4, .int .i64 ((i : Nat) : Int)), (11, .string (sb (bytesOf (numsB (List.take i q))))), (15, .int .i64 (List.getD q i 0))] w (by kernel_rfl) (.cons o7 (.cons o8 .nil)) ?_
      refine GoS.call [0, 4, 11] 26 #[.int .i64 (List.getD q i 0)] (some 16) [.inRegion (cops (csub (cd Tryd.f12) [1,1,0,1,0,0,1,0,0])) [6,7], .inBlock 1, .code (csub (cd Tryd.f12) [1,1,0,1,0,0,1,1]), .inLoop (csub (cd Tryd.f12) [1,1,0,1,0,0]), .inBlock 0, .code (csub (cd Tryd.f12) [1,1,1])] [(0, u), (4, .int .i64 ((i : Nat) : Int)), (11, .string (sb (bytesOf (numsB (List.take i q)))))] (by kernel_rfl) (rnum_c (List.getD q i 0) (by exact hq i) w) ?_
      rintro _ w9 ⟨rfl, m10⟩
      refine ⟨_, rfl, ?_⟩
      have hM11 := Mem.join hM m10
      have o12 : (binOp .add 9 (.string (sb (bytesOf (numsB (List.take i q))))) (.string (sb (bytesOf (numB (List.getD q i 0)))))).run Tryd.prog w9 = .ok (.string (sb ((bytesOf (numsB (List.take i q))) ++ (bytesOf (numB (List.getD q i 0)))))) w9 := f_stradd (by have q1 := numsB_len (List.take i q); have q2 : (List.take i q).length = i := (by rw [List.length_take]; omega); have q3 := numB_len (List.getD q i 0); rw [bytesOf_len, bytesOf_len]; omega)
      have o13 : (binOp .add 3 (.int .i64 ((i : Nat) : Int)) (.int .i64 1)).run Tryd.prog w9 = .ok (.int .i64 (((i + 1) : Nat) : Int)) w9 := f_add (by rw [show ((i : Nat) : Int) + 1 = (((i + 1) : Nat) : Int) by omega]; exact IntWalk.i64_in _ (by omega))
      refine GoS.run [0, 3, 4] [.h (.string (sb ((bytesOf (numsB (List.take i q))) ++ (bytesOf (numB (List.getD q i 0)))))), .n, .n, .n, .n, .n, .h (.int .i64 (((i + 1) : Nat) : Int)), .n, .n, .n] _ [.code (csub (cd Tryd.f12) [1,1,0,1,0,0]), .inLoop (csub (cd Tryd.f12) [1,1,0,1,0,0]), .inBlock 0, .code (csub (cd Tryd.f12) [1,1,1])] [(0, u), (3, .string (sb ((bytesOf (numsB (List.take i q))) ++ (bytesOf (numB (List.getD q i 0)))))), (4, .int .i64 (((i + 1) : Nat) : Int))] w9 (by kernel_rfl) (.cons o12 (.cons o13 .nil)) ?_
      exact GoS.cast (by rw [take_snocI q (by omega), numsB_snoc, bytesOf_app]) (ih (i + 1) _ (by omega) hM11 (by omega))
    ·
      have h2p : ¬ (((i : Nat) : Int) < (((List.length q) : Nat) : Int)) := of_decide_eq_false h2
      refine GoS.run [2] [.n, .n, .n, .n, .n, .n] _ [.code (csub (cd Tryd.f12) [1,1,1,1])] [(2, .string (sb (bytesOf (numsB (List.take i q)))))] w (by kernel_rfl) .nil ?_
      refine GoS.ret (fn := Tryd.f12) (v := (.string (sb (bytesOf (numsB (List.take i q)))))) Tryd.func12 (by kernel_rfl) ?_
      rw [hR]
      exact ⟨ret_str (by rw [List.take_of_length_le (by omega)]), hM⟩

set_option maxHeartbeats 400000 in
theorem rnums_c {w : World} (u : Value) (q : List Int) (hq : ∀ j, -9223372036854775808 ≤ q.getD j 0 ∧ q.getD j 0 ≤ 9223372036854775807) (hlen : q.length * 9 ≤ 200000000000000) (hu : Rd w 1 u q.length (ivals .i64 q)) :
    Calls Tryd.prog 12 #[u] w (fun e w' => e = .returned (.string (sb (bytesOf (numsB q)))) ∧ Mem [] w w' []) := by
  obtain ⟨R, hR⟩ : ∃ R : Ending → World → Prop, R = (fun e w' => e = .returned (.string (sb (bytesOf (numsB q)))) ∧ Mem [] w w' []) := ⟨_, rfl⟩
  rw [← hR]
  refine GoS.enter (n := 19) Tryd.func12 (by kernel_rfl) rfl [(0, u)] (by kernel_rfl) (by kernel_rfl) ?_
  have hM0 := Mem.start w
  refine GoS.run [0, 3, 4] [.n, .n, .n, .n, .n, .n, .n, .n, .n, .n, .n, .n, .n, .n, .n] _ [.code (csub (cd Tryd.f12) [1,1,0,1,0,0]), .inLoop (csub (cd Tryd.f12) [1,1,0,1,0,0]), .inBlock 0, .code (csub (cd Tryd.f12) [1,1,1])] [(0, u), (3, .string (sb ([]))), (4, .int .i64 0)] w (by kernel_rfl) .nil ?_
  exact rnums_L u q hq hlen hu R hR (q.length + 1) 0 w (Nat.zero_le _) hM0 (by omega)

set_option maxHeartbeats 400000 in
theorem lwrites_c (w : World) (u : Value) (q : List Int) (hq : ∀ j, -9223372036854775808 ≤ q.getD j 0 ∧ q.getD j 0 ≤ 9223372036854775807) (hlen : q.length * 9 ≤ 200000000000000) (hu : Rd w 1 u q.length (ivals .i64 q)) (s : List UInt8) (hs : s.length ≤ 140737488355328) :
    Calls Tryd.prog 5 #[u, .string (sb s)] w (fun e w' => e = .returned (.bool true) ∧ Below w.heap.size w w') := by
  obtain ⟨R, hR⟩ : ∃ R : Ending → World → Prop, R = (fun e w' => e = .returned (.bool true) ∧ Below w.heap.size w w') := ⟨_, rfl⟩
  rw [← hR]
  refine GoS.enter (n := 27) Tryd.func5 (by kernel_rfl) rfl [(0, u), (1, .string (sb s))] (by kernel_rfl) (by kernel_rfl) ?_
  have hM0 := Mem.start w
  refine GoS.run [0, 1] [.n, .n, .n, .n, .n, .n] _ [.inRegion (cops (csub (cd Tryd.f5) [1,0])) [0,1,2,3,4,5,6,7,8,9,10,11,12,13,14,15,16,17,18,19,20,21,22], .code (csub (cd Tryd.f5) [1,1])] [(0, u), (1, .string (sb s))] w (by kernel_rfl) .nil ?_
  refine GoS.call [0, 1] 8 #[] (some 5) [.inRegion (cops (csub (cd Tryd.f5) [1,0])) [1,2,3,4,5,6,7,8,9,10,11,12,13,14,15,16,17,18,19,20,21,22], .code (csub (cd Tryd.f5) [1,1])] [(0, u), (1, .string (sb s))] (by kernel_rfl) (awake_c w) ?_
  rintro _ w1 ⟨rfl, m2⟩
  refine ⟨_, rfl, ?_⟩
  have hM3 := Mem.join hM0 m2
  refine GoS.run [0, 1, 6, 7] [.n, .n] _ [.inRegion (cops (csub (cd Tryd.f5) [1,0])) [3,4,5,6,7,8,9,10,11,12,13,14,15,16,17,18,19,20,21,22], .code (csub (cd Tryd.f5) [1,1])] [(0, u), (1, .string (sb s)), (6, .bool true), (7, u)] w1 (by kernel_rfl) .nil ?_
  refine GoS.call [0, 1, 6] 10 #[u] (some 8) [.inRegion (cops (csub (cd Tryd.f5) [1,0])) [4,5,6,7,8,9,10,11,12,13,14,15,16,17,18,19,20,21,22], .code (csub (cd Tryd.f5) [1,1])] [(0, u), (1, .string (sb s)), (6, .bool true)] (by kernel_rfl) (nums_c u q (by exact hq) (by exact hlen) w1 (hu.kept0 hM3.kept)) ?_
  rintro _ w4 ⟨rfl, m5⟩
  refine ⟨_, rfl, ?_⟩
  have hM6 := Mem.join hM3 m5
  refine GoS.run [1, 6, 8, 9] [.n] _ [.inRegion (cops (csub (cd Tryd.f5) [1,0])) [5,6,7,8,9,10,11,12,13,14,15,16,17,18,19,20,21,22], .code (csub (cd Tryd.f5) [1,1])] [(1, .string (sb s)), (6, .bool true), (8, .string (sb (bytesOf (numsB q)))), (9, u)] w4 (by kernel_rfl) .nil ?_
  refine GoS.call [1, 6, 8] 12 #[u] (some 10) [.inRegion (cops (csub (cd Tryd.f5) [1,0])) [6,7,8,9,10,11,12,13,14,15,16,17,18,19,20,21,22], .code (csub (cd Tryd.f5) [1,1])] [(1, .string (sb s)), (6, .bool true), (8, .string (sb (bytesOf (numsB q))))] (by kernel_rfl) (rnums_c u q (by exact hq) (by exact hlen) (hu.kept0 hM6.kept)) ?_
  rintro _ w7 ⟨rfl, m8⟩
  refine ⟨_, rfl, ?_⟩
  have hM9 := Mem.join hM6 m8
  have o10 : (binOp .eql 9 (.string (sb (bytesOf (numsB q)))) (.string (sb (bytesOf (numsB q))))).run Tryd.prog w7 = .ok (.bool true) w7 := f_streq_yes (rfl)
  refine GoS.run [1, 13, 14] [.h (.bool true), .n, .n, .n] _ [.inRegion (cops (csub (cd Tryd.f5) [1,0])) [10,11,12,13,14,15,16,17,18,19,20,21,22], .code (csub (cd Tryd.f5) [1,1])] [(1, .string (sb s)), (13, .bool true), (14, .string (sb s))] w7 (by kernel_rfl) (.cons o10 .nil) ?_
  refine GoS.call [1, 13] 11 #[.string (sb s)] (some 15) [.inRegion (cops (csub (cd Tryd.f5) [1,0])) [11,12,13,14,15,16,17,18,19,20,21,22], .code (csub (cd Tryd.f5) [1,1])] [(1, .string (sb s)), (13, .bool true)] (by kernel_rfl) (text_c s (by omega) w7) ?_
  rintro _ w11 ⟨rfl, m12⟩
  refine ⟨_, rfl, ?_⟩
  have hM13 := Mem.join hM9 m12
  refine GoS.run [1, 13, 15, 16] [.n] _ [.inRegion (cops (csub (cd Tryd.f5) [1,0])) [12,13,14,15,16,17,18,19,20,21,22], .code (csub (cd Tryd.f5) [1,1])] [(1, .string (sb s)), (13, .bool true), (15, .string (sb (textB s))), (16, .string (sb s))] w11 (by kernel_rfl) .nil ?_
  refine GoS.call [1, 13, 15] 13 #[.string (sb s)] (some 17) [.inRegion (cops (csub (cd Tryd.f5) [1,0])) [13,14,15,16,17,18,19,20,21,22], .code (csub (cd Tryd.f5) [1,1])] [(1, .string (sb s)), (13, .bool true), (15, .string (sb (textB s)))] (by kernel_rfl) (rtxt_c s (by omega) w11) ?_
  rintro _ _ ⟨rfl, rfl⟩
  refine ⟨_, rfl, ?_⟩
  have o14 : (binOp .eql 9 (.string (sb (textB s))) (.string (sb (textB s)))).run Tryd.prog w11 = .ok (.bool true) w11 := f_streq_yes (rfl)
  refine GoS.run [1, 20, 21] [.h (.bool true), .n, .n, .n] _ [.inRegion (cops (csub (cd Tryd.f5) [1,0])) [17,18,19,20,21,22], .code (csub (cd Tryd.f5) [1,1])] [(1, .string (sb s)), (20, .bool true), (21, .string (sb s))] w11 (by kernel_rfl) (.cons o14 .nil) ?_
  refine GoS.call [1, 20] 14 #[.string (sb s)] (some 22) [.inRegion (cops (csub (cd Tryd.f5) [1,0])) [18,19,20,21,22], .code (csub (cd Tryd.f5) [1,1])] [(1, .string (sb s)), (20, .bool true)] (by kernel_rfl) (block_c s (by omega) w11) ?_
  rintro _ w15 ⟨rfl, m16⟩
  refine ⟨_, rfl, ?_⟩
  have hM17 := Mem.join hM13 m16
  have hl18 := blk_len s
  refine GoS.run [20, 22, 23] [.n] _ [.inRegion (cops (csub (cd Tryd.f5) [1,0])) [19,20,21,22], .code (csub (cd Tryd.f5) [1,1])] [(20, .bool true), (22, .string (sb (blk s))), (23, .string (sb s))] w15 (by kernel_rfl) .nil ?_
  refine GoS.call [20, 22] 15 #[.string (sb s)] (some 24) [.inRegion (cops (csub (cd Tryd.f5) [1,0])) [20,21,22], .code (csub (cd Tryd.f5) [1,1])] [(20, .bool true), (22, .string (sb (blk s)))] (by kernel_rfl) (rblock_c s (by omega) w15) ?_
  rintro _ w19 ⟨rfl, m20⟩
  refine ⟨_, rfl, ?_⟩
  have hM21 := Mem.join hM17 m20
  have hl22 := blk_len s
  have o23 : (binOp .eql 9 (.string (sb (blk s))) (.string (sb (blk s)))).run Tryd.prog w19 = .ok (.bool true) w19 := f_streq_yes (rfl)
  refine GoS.run [4] [.h (.bool true), .n, .n, .n] _ [.code (csub (cd Tryd.f5) [1,1])] [(4, .bool true)] w19 (by kernel_rfl) (.cons o23 .nil) ?_
  refine GoS.ret (fn := Tryd.f5) (v := (.bool true)) Tryd.func5 (by kernel_rfl) ?_
  rw [hR]
  exact ⟨rfl, (hM21.sub (List.nil_sublist _)).below⟩


end Go.Proofs.YtmjkbmlcclmdkaaDoor
