/-
  The walk of UtfDecodes: true for every text of at most 2^44 bytes.
-/
import Derived.Test.YteddiaonklkdiaaUtfG
import Derived.Test.YteddiaonklkdiaaUtfL
namespace Go.Proofs.Yteddiaonklkdiaa
open Go Go.Gw Go.UtfP Go.RowKit
set_option linter.unusedVariables false
set_option linter.unusedSimpArgs false


set_option maxHeartbeats 400000 in
theorem ldecodes_L (s : List UInt8) {w0 : World} (hs : s.length * 8 ≤ 140737488355328) (R : Ending → World → Prop) (hR : R = (fun e w' => e = .returned (.bool true) ∧ Below w0.heap.size w0 w')) : ∀ (N : Nat) (vc vb va : Value) (m : List Int) (k : Nat) (w : World) (hk : k ≤ m.length) (hm : m.length = (decL s).length) (hM : Mem [] w0 w [⟨3, 1, vc, (List.length (decL s)), (ivals .i64 (decL s))⟩, ⟨3, 1, vb, (List.length (decL s)), (ivals .i64 (decL s))⟩, ⟨3, 1, va, (List.length m), (ivals .i64 m)⟩]) (hN : m.length - k < N), GoS Try.prog 4 R 50 [.code (csub (cd Try.f4) [1,1,1,1,1,0,1,0,0]), .inLoop (csub (cd Try.f4) [1,1,1,1,1,0,1,0,0]), .inBlock 0, .code (csub (cd Try.f4) [1,1,1,1,1,1])] [(3, va), (5, vb), (7, vc), (9, .int .i64 ((k : Nat) : Int))] w := by
  intro N
  induction N with
  | zero => intro vc vb va m k w hk hm hM hN; exact absurd hN (Nat.not_lt_zero _)
  | succ N ih =>
    intro vc vb va m k w hk hm hM hN
    have hq := @decL_len s
    have o1 : (Builtin.len_ #[22] 3 #[va]).run Try.prog w = .ok (.int .i64 (((List.length m) : Nat) : Int)) w := f_slen sT22 (hM.rd 2 rfl) 3 _
    refine GoS.run [3, 5, 7, 9, 41] [.n, .n, .n, .n, .n, .h (.int .i64 (((List.length m) : Nat) : Int)), .n, .n] _ [.code (csub (cd Try.f4) [1,1,1,1,1,0,1,0,0,0,1]), .code (csub (cd Try.f4) [1,1,1,1,1,0,1,0,0,1]), .inLoop (csub (cd Try.f4) [1,1,1,1,1,0,1,0,0]), .inBlock 0, .code (csub (cd Try.f4) [1,1,1,1,1,1])] [(3, va), (5, vb), (7, vc), (9, .int .i64 ((k : Nat) : Int)), (41, .bool (decide (((k : Nat) : Int) < (((List.length m) : Nat) : Int))))] w (by kernel_rfl) (.cons o1 .nil) ?_
    refine GoS.cond (decide (((k : Nat) : Int) < (((List.length m) : Nat) : Int))) [.code (csub (cd Try.f4) [1,1,1,1,1,0,1,0,0,0,1,0]), .code (csub (cd Try.f4) [1,1,1,1,1,0,1,0,0,1]), .inLoop (csub (cd Try.f4) [1,1,1,1,1,0,1,0,0]), .inBlock 0, .code (csub (cd Try.f4) [1,1,1,1,1,1])] [.code (csub (cd Try.f4) [1,1,1,1,1,0,1,0,0,0,1,1]), .code (csub (cd Try.f4) [1,1,1,1,1,0,1,0,0,1]), .inLoop (csub (cd Try.f4) [1,1,1,1,1,0,1,0,0]), .inBlock 0, .code (csub (cd Try.f4) [1,1,1,1,1,1])] (by kernel_rfl) (fun h2 => ?_) (fun h2 => ?_)
    ·
      have h2p : ((k : Nat) : Int) < (((List.length m) : Nat) : Int) := of_decide_eq_true h2
      refine GoS.run [3, 5, 7, 9] [.n] _ [.code (csub (cd Try.f4) [1,1,1,1,1,0,1,0,0,1]), .inLoop (csub (cd Try.f4) [1,1,1,1,1,0,1,0,0]), .inBlock 0, .code (csub (cd Try.f4) [1,1,1,1,1,1])] [(3, va), (5, vb), (7, vc), (9, .int .i64 ((k : Nat) : Int))] w (by kernel_rfl) .nil ?_
      obtain ⟨p8, hp9, hq10⟩ := rd_at (i := ((k : Nat) : Int)) sT22 (hM.rd 2 rfl) k (by omega) (by (first | omega | ((try dsimp only); omega)))
      have o15 : (Instr.indexAt 22 (va) (.int .i64 ((k : Nat) : Int))).run Try.prog w = .ok (.pointer (some p8)) w := hq10 _ _
      obtain ⟨w11, hr12, hM13⟩ := at_store (u := .int .i64 (-1)) (by kernel_rfl) hM 2 rfl hp9 (by (first | omega | ((try dsimp only); omega))) rfl rfl
      have hM14 : Mem [] w0 w11 [⟨3, 1, vc, (List.length (decL s)), (ivals .i64 (decL s))⟩, ⟨3, 1, vb, (List.length (decL s)), (ivals .i64 (decL s))⟩, ⟨3, 1, va, (List.length m), (ivals .i64 (List.set m k (-1)))⟩] := hM13.cast (by simp [ivals, svals, bvals, nvals, u8s, List.map_set])
      have o16 : (Instr.storeAt 3 (.pointer (some p8)) (.int .i64 (-1))).run Try.prog w = .ok () w11 ∧ undef = undef := ⟨hr12, rfl⟩
      have o17 : (binOp .add 3 (.int .i64 ((k : Nat) : Int)) (.int .i64 1)).run Try.prog w11 = .ok (.int .i64 (((k + 1) : Nat) : Int)) w11 := f_add (by rw [show ((k : Nat) : Int) + 1 = (((k + 1) : Nat) : Int) by omega]; exact IntWalk.i64_in _ (by omega))
      refine GoS.run [3, 5, 7, 9] [.n, .n, .n, .n, .n, .h (.pointer (some p8)), .u (undef) (w11), .n, .n, .n, .n, .h (.int .i64 (((k + 1) : Nat) : Int)), .n, .n, .n] _ [.code (csub (cd Try.f4) [1,1,1,1,1,0,1,0,0]), .inLoop (csub (cd Try.f4) [1,1,1,1,1,0,1,0,0]), .inBlock 0, .code (csub (cd Try.f4) [1,1,1,1,1,1])] [(3, va), (5, vb), (7, vc), (9, .int .i64 (((k + 1) : Nat) : Int))] w11 (by kernel_rfl) (.cons o15 (.cons o16 (.cons o17 .nil))) ?_
      exact ih vc vb va (List.set m k (-1)) (k + 1) _ (by rw [List.length_set]; omega) (by rw [List.length_set]; exact hm) (hM14.cast (by rw [List.length_set])) (by rw [List.length_set]; omega)
    ·
      have h2p : ¬ (((k : Nat) : Int) < (((List.length m) : Nat) : Int)) := of_decide_eq_false h2
      have hM3 : Mem [] w0 w [⟨3, 1, vc, (List.length (decL s)), (ivals .i64 (decL s))⟩, ⟨3, 1, vb, (List.length (decL s)), (ivals .i64 (decL s))⟩] := hM.sub (List.Sublist.cons_cons _ (List.Sublist.cons_cons _ (List.Sublist.cons _ (List.Sublist.refl _))))
      refine GoS.run [47, 48] [.n, .n, .n, .n, .n] _ [.inRegion (cops (csub (cd Try.f4) [1,1,1,1,1,1,0])) [2,3], .code (csub (cd Try.f4) [1,1,1,1,1,1,1])] [(47, vc), (48, vb)] w (by kernel_rfl) .nil ?_
      refine GoS.call [] 12 #[vc, vb] (some 49) [.inRegion (cops (csub (cd Try.f4) [1,1,1,1,1,1,0])) [3], .code (csub (cd Try.f4) [1,1,1,1,1,1,1])] [] (by kernel_rfl) (numbers_yes vc vb (decL s) (decL s) w (hM3.rd 0 rfl) (hM3.rd 1 rfl) (rfl)) ?_
      rintro _ w4 ⟨rfl, d5⟩
      refine ⟨_, rfl, ?_⟩
      have hM6 := hM3.dr d5
      have hM7 : Mem [] w0 w4 [] := hM6.sub (List.Sublist.cons _ (List.Sublist.cons _ (List.Sublist.refl _)))
      refine GoS.run [2] [.n, .n] _ [.code (csub (cd Try.f4) [1,1,1,1,1,1,1])] [(2, .bool true)] w4 (by kernel_rfl) .nil ?_
      refine GoS.ret (fn := Try.f4) (v := (.bool true)) Try.func4 (by kernel_rfl) ?_
      rw [hR]
      exact ⟨rfl, hM7.below⟩

set_option maxHeartbeats 400000 in
theorem ldecodes_c (s : List UInt8) (hs : s.length * 8 ≤ 140737488355328) (w : World) :
    Calls Try.prog 4 #[.string (sb s)] w (fun e w' => e = .returned (.bool true) ∧ Below w.heap.size w w') := by
  obtain ⟨R, hR⟩ : ∃ R : Ending → World → Prop, R = (fun e w' => e = .returned (.bool true) ∧ Below w.heap.size w w') := ⟨_, rfl⟩
  rw [← hR]
  refine GoS.enter (n := 50) Try.func4 (by kernel_rfl) rfl [(0, .string (sb s))] (by kernel_rfl) (by kernel_rfl) ?_
  have hM0 := Mem.start w
  refine GoS.run [0, 11] [.n, .n, .n, .n, .n, .n, .n] _ [.inRegion (cops (csub (cd Try.f4) [1,0])) [1,2,3,4,5,6], .code (csub (cd Try.f4) [1,1])] [(0, .string (sb s)), (11, .string (sb s))] w (by kernel_rfl) .nil ?_
  refine GoS.call [0] 13 #[.string (sb s)] (some 12) [.inRegion (cops (csub (cd Try.f4) [1,0])) [2,3,4,5,6], .code (csub (cd Try.f4) [1,1])] [(0, .string (sb s))] (by kernel_rfl) (decode_c s (by omega) w) ?_
  rintro _ w1 ⟨v4, rfl, m2⟩
  refine ⟨_, rfl, ?_⟩
  have hM3 := Mem.join hM0 m2
  refine GoS.run [0, 3, 4, 16] [.n, .n, .n, .n, .n, .n, .n, .n, .n] _ [.inRegion (cops (csub (cd Try.f4) [1,1,0])) [1,2,3,4,5,6], .code (csub (cd Try.f4) [1,1,1])] [(0, .string (sb s)), (3, v4), (4, .int .i64 (decE s)), (16, .string (sb s))] w1 (by kernel_rfl) .nil ?_
  refine GoS.call [0, 3, 4] 14 #[.string (sb s)] (some 17) [.inRegion (cops (csub (cd Try.f4) [1,1,0])) [2,3,4,5,6], .code (csub (cd Try.f4) [1,1,1])] [(0, .string (sb s)), (3, v4), (4, .int .i64 (decE s))] (by kernel_rfl) (rdecode_c s (by omega) w1) ?_
  rintro _ w5 ⟨v8, rfl, m6⟩
  refine ⟨_, rfl, ?_⟩
  have hM7 := Mem.join hM3 m6
  refine GoS.run [3, 4, 5, 6, 21] [.n, .n, .n, .n, .n, .n, .n, .n, .n] _ [.inRegion (cops (csub (cd Try.f4) [1,1,1,0])) [1,2,3,4,5,6], .code (csub (cd Try.f4) [1,1,1,1])] [(3, v4), (4, .int .i64 (decE s)), (5, v8), (6, .int .i64 (decE s)), (21, .string (sb s))] w5 (by kernel_rfl) .nil ?_
  refine GoS.call [3, 4, 5, 6] 13 #[.string (sb s)] (some 22) [.inRegion (cops (csub (cd Try.f4) [1,1,1,0])) [2,3,4,5,6], .code (csub (cd Try.f4) [1,1,1,1])] [(3, v4), (4, .int .i64 (decE s)), (5, v8), (6, .int .i64 (decE s))] (by kernel_rfl) (decode_c s (by omega) w5) ?_
  rintro _ w9 ⟨v12, rfl, m10⟩
  refine ⟨_, rfl, ?_⟩
  have hM11 := Mem.join hM7 m10
  refine GoS.run [3, 4, 5, 6, 7] [.n, .n, .n, .n, .n, .n, .n, .n, .n] _ [.inRegion (cops (csub (cd Try.f4) [1,1,1,1,0,0])) [0,1,2,3,4,5,6,7,8,9,10,11,12], .code (csub (cd Try.f4) [1,1,1,1,0,1]), .code (csub (cd Try.f4) [1,1,1,1,1])] [(3, v4), (4, .int .i64 (decE s)), (5, v8), (6, .int .i64 (decE s)), (7, v12)] w9 (by kernel_rfl) .nil ?_
  refine GoS.call [3, 4, 5, 6, 7] 11 #[] (some 25) [.inRegion (cops (csub (cd Try.f4) [1,1,1,1,0,0])) [1,2,3,4,5,6,7,8,9,10,11,12], .code (csub (cd Try.f4) [1,1,1,1,0,1]), .code (csub (cd Try.f4) [1,1,1,1,1])] [(3, v4), (4, .int .i64 (decE s)), (5, v8), (6, .int .i64 (decE s)), (7, v12)] (by kernel_rfl) (awake_c w9) ?_
  rintro _ w13 ⟨rfl, m14⟩
  refine ⟨_, rfl, ?_⟩
  have hM15 := Mem.join hM11 m14
  have o16 : (IntKind.i64 = IntKind.i64) ∧ w13 = w13 ∧ Value.bool false = .bool ((decE s) != (decE s)) := ⟨rfl, rfl, congrArg Value.bool (Eq.symm (bne_self_eq_false _))⟩
  refine GoS.run [3, 5, 7, 32, 33, 34] [.n, .n, .n, .n, .h (.bool false), .n, .n, .n, .n] _ [.inRegion (cops (csub (cd Try.f4) [1,1,1,1,0,0])) [10,11,12], .code (csub (cd Try.f4) [1,1,1,1,0,1]), .code (csub (cd Try.f4) [1,1,1,1,1])] [(3, v4), (5, v8), (7, v12), (32, .bool false), (33, v4), (34, v8)] w13 (by kernel_rfl) (.cons o16 .nil) ?_
  refine GoS.call [3, 5, 7, 32] 12 #[v4, v8] (some 35) [.inRegion (cops (csub (cd Try.f4) [1,1,1,1,0,0])) [11,12], .code (csub (cd Try.f4) [1,1,1,1,0,1]), .code (csub (cd Try.f4) [1,1,1,1,1])] [(3, v4), (5, v8), (7, v12), (32, .bool false)] (by kernel_rfl) (numbers_yes v4 v8 (decL s) (decL s) w13 (hM15.rd 2 rfl) (hM15.rd 1 rfl) (rfl)) ?_
  rintro _ w17 ⟨rfl, d18⟩
  refine ⟨_, rfl, ?_⟩
  have hM19 := hM15.dr d18
  refine GoS.run [3, 5, 7, 9] [.n, .n, .n, .n, .n, .n, .n, .n, .n, .n, .n, .n] _ [.code (csub (cd Try.f4) [1,1,1,1,1,0,1,0,0]), .inLoop (csub (cd Try.f4) [1,1,1,1,1,0,1,0,0]), .inBlock 0, .code (csub (cd Try.f4) [1,1,1,1,1,1])] [(3, v4), (5, v8), (7, v12), (9, .int .i64 0)] w17 (by kernel_rfl) .nil ?_
  exact ldecodes_L s hs R hR ((decL s).length + 1) v12 v8 v4 (decL s) 0 w17 (by omega) rfl hM19 (by omega)


end Go.Proofs.Yteddiaonklkdiaa
