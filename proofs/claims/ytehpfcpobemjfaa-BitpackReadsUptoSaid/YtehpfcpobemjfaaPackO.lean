/-
  The walk of BitpackReads.
-/
import Derived.Test.YtehpfcpobemjfaaPackK
namespace Go.Proofs.Ytehpfcpobemjfaa
open Go Go.Gw Go.NumP Go.LiveP Go.PackP Go.RowKit
set_option linter.unusedVariables false
set_option linter.unusedSimpArgs false


set_option maxHeartbeats 400000 in
theorem lreads_L (s : List UInt8) {w0 : World} (hs : s.length ≤ 1048576) (R : Ending → World → Prop) (hR : R = (fun e w' => e = .returned (.bool true) ∧ Below w0.heap.size w0 w')) : ∀ (N : Nat) (vc vb va : Value) (m : List Int) (k : Nat) (w : World) (hk : k ≤ m.length) (hm : m.length = (readP s).1.length) (hM : Mem [] w0 w [⟨3, 1, vc, (List.length ((readP s).1)), (ivals .i64 ((readP s).1))⟩, ⟨3, 1, vb, (List.length ((readP s).1)), (ivals .i64 ((readP s).1))⟩, ⟨3, 1, va, (List.length m), (ivals .i64 m)⟩]) (hN : m.length - k < N), GoS Try.prog 4 R 61 [.code (csub (cd Try.f4) [1,1,1,1,1,0,1,0,0]), .inLoop (csub (cd Try.f4) [1,1,1,1,1,0,1,0,0]), .inBlock 0, .code (csub (cd Try.f4) [1,1,1,1,1,1])] [(3, va), (6, vb), (9, vc), (12, .int .i64 ((k : Nat) : Int))] w := by
  intro N
  induction N with
  | zero => intro vc vb va m k w hk hm hM hN; exact absurd hN (Nat.not_lt_zero _)
  | succ N ih =>
    intro vc vb va m k w hk hm hM hN
    have hrl := read_len s
    have hml : m.length ≤ 9223372036854775806 := by omega
    have o1 : (Builtin.len_ #[22] 3 #[va]).run Try.prog w = .ok (.int .i64 (((List.length m) : Nat) : Int)) w := f_slen sT22 (hM.rd 2 rfl) 3 _
    refine GoS.run [3, 6, 9, 12, 52] [.n, .n, .n, .n, .n, .h (.int .i64 (((List.length m) : Nat) : Int)), .n, .n] _ [.code (csub (cd Try.f4) [1,1,1,1,1,0,1,0,0,0,1]), .code (csub (cd Try.f4) [1,1,1,1,1,0,1,0,0,1]), .inLoop (csub (cd Try.f4) [1,1,1,1,1,0,1,0,0]), .inBlock 0, .code (csub (cd Try.f4) [1,1,1,1,1,1])] [(3, va), (6, vb), (9, vc), (12, .int .i64 ((k : Nat) : Int)), (52, .bool (decide (((k : Nat) : Int) < (((List.length m) : Nat) : Int))))] w (by kernel_rfl) (.cons o1 .nil) ?_
    refine GoS.cond (decide (((k : Nat) : Int) < (((List.length m) : Nat) : Int))) [.code (csub (cd Try.f4) [1,1,1,1,1,0,1,0,0,0,1,0]), .code (csub (cd Try.f4) [1,1,1,1,1,0,1,0,0,1]), .inLoop (csub (cd Try.f4) [1,1,1,1,1,0,1,0,0]), .inBlock 0, .code (csub (cd Try.f4) [1,1,1,1,1,1])] [.code (csub (cd Try.f4) [1,1,1,1,1,0,1,0,0,0,1,1]), .code (csub (cd Try.f4) [1,1,1,1,1,0,1,0,0,1]), .inLoop (csub (cd Try.f4) [1,1,1,1,1,0,1,0,0]), .inBlock 0, .code (csub (cd Try.f4) [1,1,1,1,1,1])] (by kernel_rfl) (fun h2 => ?_) (fun h2 => ?_)
    ·
      have h2p : ((k : Nat) : Int) < (((List.length m) : Nat) : Int) := of_decide_eq_true h2
      refine GoS.run [3, 6, 9, 12] [.n] _ [.code (csub (cd Try.f4) [1,1,1,1,1,0,1,0,0,1]), .inLoop (csub (cd Try.f4) [1,1,1,1,1,0,1,0,0]), .inBlock 0, .code (csub (cd Try.f4) [1,1,1,1,1,1])] [(3, va), (6, vb), (9, vc), (12, .int .i64 ((k : Nat) : Int))] w (by kernel_rfl) .nil ?_
      obtain ⟨p8, hp9, hq10⟩ := rd_at (i := ((k : Nat) : Int)) sT22 (hM.rd 2 rfl) k (by omega) (by (first | omega | ((try dsimp only); omega)))
      have o15 : (Instr.indexAt 22 (va) (.int .i64 ((k : Nat) : Int))).run Try.prog w = .ok (.pointer (some p8)) w := hq10 _ _
      obtain ⟨w11, hr12, hM13⟩ := at_store (u := .int .i64 (-1)) (by kernel_rfl) hM 2 rfl hp9 (by (first | omega | ((try dsimp only); omega))) rfl rfl
      have hM14 : Mem [] w0 w11 [⟨3, 1, vc, (List.length ((readP s).1)), (ivals .i64 ((readP s).1))⟩, ⟨3, 1, vb, (List.length ((readP s).1)), (ivals .i64 ((readP s).1))⟩, ⟨3, 1, va, (List.length m), (ivals .i64 (List.set m k (-1)))⟩] := hM13.cast (by simp [ivals, svals, bvals, nvals, u8s, List.map_set])
      have o16 : (Instr.storeAt 3 (.pointer (some p8)) (.int .i64 (-1))).run Try.prog w = .ok () w11 ∧ undef = undef := ⟨hr12, rfl⟩
      have o17 : (binOp .add 3 (.int .i64 ((k : Nat) : Int)) (.int .i64 1)).run Try.prog w11 = .ok (.int .i64 (((k + 1) : Nat) : Int)) w11 := f_add (by rw [show ((k : Nat) : Int) + 1 = (((k + 1) : Nat) : Int) by omega]; exact IntWalk.i64_in _ (by omega))
      refine GoS.run [3, 6, 9, 12] [.n, .n, .n, .n, .n, .h (.pointer (some p8)), .u (undef) (w11), .n, .n, .n, .n, .h (.int .i64 (((k + 1) : Nat) : Int)), .n, .n, .n] _ [.code (csub (cd Try.f4) [1,1,1,1,1,0,1,0,0]), .inLoop (csub (cd Try.f4) [1,1,1,1,1,0,1,0,0]), .inBlock 0, .code (csub (cd Try.f4) [1,1,1,1,1,1])] [(3, va), (6, vb), (9, vc), (12, .int .i64 (((k + 1) : Nat) : Int))] w11 (by kernel_rfl) (.cons o15 (.cons o16 (.cons o17 .nil))) ?_
      exact ih vc vb va (List.set m k (-1)) (k + 1) _ (by rw [List.length_set]; omega) (by rw [List.length_set]; exact hm) (hM14.cast (by rw [List.length_set])) (by rw [List.length_set]; omega)
    ·
      have h2p : ¬ (((k : Nat) : Int) < (((List.length m) : Nat) : Int)) := of_decide_eq_false h2
      have hM3 : Mem [] w0 w [⟨3, 1, vc, (List.length ((readP s).1)), (ivals .i64 ((readP s).1))⟩, ⟨3, 1, vb, (List.length ((readP s).1)), (ivals .i64 ((readP s).1))⟩] := hM.sub (List.Sublist.cons_cons _ (List.Sublist.cons_cons _ (List.Sublist.cons _ (List.Sublist.refl _))))
      refine GoS.run [58, 59] [.n, .n, .n, .n, .n] _ [.inRegion (cops (csub (cd Try.f4) [1,1,1,1,1,1,0])) [2,3], .code (csub (cd Try.f4) [1,1,1,1,1,1,1])] [(58, vc), (59, vb)] w (by kernel_rfl) .nil ?_
      refine GoS.call [] 11 #[vc, vb] (some 60) [.inRegion (cops (csub (cd Try.f4) [1,1,1,1,1,1,0])) [3], .code (csub (cd Try.f4) [1,1,1,1,1,1,1])] [] (by kernel_rfl) (numbers_yes vc vb ((readP s).1) ((readP s).1) w (hM3.rd 0 rfl) (hM3.rd 1 rfl) (rfl)) ?_
      rintro _ w4 ⟨rfl, d5⟩
      refine ⟨_, rfl, ?_⟩
      have hM6 := hM3.dr d5
      have hM7 : Mem [] w0 w4 [] := hM6.sub (List.Sublist.cons _ (List.Sublist.cons _ (List.Sublist.refl _)))
      refine GoS.run [2] [.n, .n] _ [.code (csub (cd Try.f4) [1,1,1,1,1,1,1])] [(2, .bool true)] w4 (by kernel_rfl) .nil ?_
      refine GoS.ret (fn := Try.f4) (v := (.bool true)) Try.func4 (by kernel_rfl) ?_
      rw [hR]
      exact ⟨rfl, hM7.below⟩

set_option maxHeartbeats 400000 in
theorem lreads_c (s : List UInt8) (hs : s.length ≤ 1048576) (w : World) :
    Calls Try.prog 4 #[.string (sb s)] w (fun e w' => e = .returned (.bool true) ∧ Below w.heap.size w w') := by
  obtain ⟨R, hR⟩ : ∃ R : Ending → World → Prop, R = (fun e w' => e = .returned (.bool true) ∧ Below w.heap.size w w') := ⟨_, rfl⟩
  rw [← hR]
  refine GoS.enter (n := 61) Try.func4 (by kernel_rfl) rfl [(0, .string (sb s))] (by kernel_rfl) (by kernel_rfl) ?_
  have hM0 := Mem.start w
  refine GoS.run [0, 14] [.n, .n, .n, .n, .n, .n, .n] _ [.inRegion (cops (csub (cd Try.f4) [1,0])) [1,2,3,4,5,6,7,8], .code (csub (cd Try.f4) [1,1])] [(0, .string (sb s)), (14, .string (sb s))] w (by kernel_rfl) .nil ?_
  refine GoS.call [0] 12 #[.string (sb s)] (some 15) [.inRegion (cops (csub (cd Try.f4) [1,0])) [2,3,4,5,6,7,8], .code (csub (cd Try.f4) [1,1])] [(0, .string (sb s))] (by kernel_rfl) (read_c s (by omega) w) ?_
  rintro _ w1 ⟨v4, rfl, m2⟩
  refine ⟨_, rfl, ?_⟩
  have hM3 := Mem.join hM0 m2
  refine GoS.run [0, 3, 4, 5, 20] [.n, .n, .n, .n, .n, .n, .n, .n, .n, .n, .n] _ [.inRegion (cops (csub (cd Try.f4) [1,1,0])) [1,2,3,4,5,6,7,8], .code (csub (cd Try.f4) [1,1,1])] [(0, .string (sb s)), (3, v4), (4, .int .i64 (((readP s).2.1 : Nat) : Int)), (5, .int .i64 ((readP s).2.2)), (20, .string (sb s))] w1 (by kernel_rfl) .nil ?_
  refine GoS.call [0, 3, 4, 5] 13 #[.string (sb s)] (some 21) [.inRegion (cops (csub (cd Try.f4) [1,1,0])) [2,3,4,5,6,7,8], .code (csub (cd Try.f4) [1,1,1])] [(0, .string (sb s)), (3, v4), (4, .int .i64 (((readP s).2.1 : Nat) : Int)), (5, .int .i64 ((readP s).2.2))] (by kernel_rfl) (rread_c s (by omega) w1) ?_
  rintro _ w5 ⟨v8, rfl, m6⟩
  refine ⟨_, rfl, ?_⟩
  have hM7 := Mem.join hM3 m6
  refine GoS.run [3, 4, 5, 6, 7, 8, 26] [.n, .n, .n, .n, .n, .n, .n, .n, .n, .n, .n] _ [.inRegion (cops (csub (cd Try.f4) [1,1,1,0])) [1,2,3,4,5,6,7,8], .code (csub (cd Try.f4) [1,1,1,1])] [(3, v4), (4, .int .i64 (((readP s).2.1 : Nat) : Int)), (5, .int .i64 ((readP s).2.2)), (6, v8), (7, .int .i64 (((readP s).2.1 : Nat) : Int)), (8, .int .i64 ((readP s).2.2)), (26, .string (sb s))] w5 (by kernel_rfl) .nil ?_
  refine GoS.call [3, 4, 5, 6, 7, 8] 12 #[.string (sb s)] (some 27) [.inRegion (cops (csub (cd Try.f4) [1,1,1,0])) [2,3,4,5,6,7,8], .code (csub (cd Try.f4) [1,1,1,1])] [(3, v4), (4, .int .i64 (((readP s).2.1 : Nat) : Int)), (5, .int .i64 ((readP s).2.2)), (6, v8), (7, .int .i64 (((readP s).2.1 : Nat) : Int)), (8, .int .i64 ((readP s).2.2))] (by kernel_rfl) (read_c s (by omega) w5) ?_
  rintro _ w9 ⟨v12, rfl, m10⟩
  refine ⟨_, rfl, ?_⟩
  have hM11 := Mem.join hM7 m10
  refine GoS.run [3, 4, 5, 6, 7, 8, 9] [.n, .n, .n, .n, .n, .n, .n, .n, .n, .n, .n] _ [.inRegion (cops (csub (cd Try.f4) [1,1,1,1,0,0])) [0,1,2,3,4,5,6,7,8,9,10,11,12,13,14,15,16,17], .code (csub (cd Try.f4) [1,1,1,1,0,1]), .code (csub (cd Try.f4) [1,1,1,1,1])] [(3, v4), (4, .int .i64 (((readP s).2.1 : Nat) : Int)), (5, .int .i64 ((readP s).2.2)), (6, v8), (7, .int .i64 (((readP s).2.1 : Nat) : Int)), (8, .int .i64 ((readP s).2.2)), (9, v12)] w9 (by kernel_rfl) .nil ?_
  refine GoS.call [3, 4, 5, 6, 7, 8, 9] 10 #[] (some 31) [.inRegion (cops (csub (cd Try.f4) [1,1,1,1,0,0])) [1,2,3,4,5,6,7,8,9,10,11,12,13,14,15,16,17], .code (csub (cd Try.f4) [1,1,1,1,0,1]), .code (csub (cd Try.f4) [1,1,1,1,1])] [(3, v4), (4, .int .i64 (((readP s).2.1 : Nat) : Int)), (5, .int .i64 ((readP s).2.2)), (6, v8), (7, .int .i64 (((readP s).2.1 : Nat) : Int)), (8, .int .i64 ((readP s).2.2)), (9, v12)] (by kernel_rfl) (awake_c w9) ?_
  rintro _ w13 ⟨rfl, m14⟩
  refine ⟨_, rfl, ?_⟩
  have hM15 := Mem.join hM11 m14
  refine GoS.run [3, 4, 5, 6, 7, 8, 9, 33, 34, 35] [.n, .n, .n, .n] _ [.inRegion (cops (csub (cd Try.f4) [1,1,1,1,0,0])) [5,6,7,8,9,10,11,12,13,14,15,16,17], .code (csub (cd Try.f4) [1,1,1,1,0,1]), .code (csub (cd Try.f4) [1,1,1,1,1])] [(3, v4), (4, .int .i64 (((readP s).2.1 : Nat) : Int)), (5, .int .i64 ((readP s).2.2)), (6, v8), (7, .int .i64 (((readP s).2.1 : Nat) : Int)), (8, .int .i64 ((readP s).2.2)), (9, v12), (33, .bool false), (34, v4), (35, v8)] w13 (by kernel_rfl) .nil ?_
  refine GoS.call [3, 4, 5, 6, 7, 8, 9, 33] 11 #[v4, v8] (some 36) [.inRegion (cops (csub (cd Try.f4) [1,1,1,1,0,0])) [6,7,8,9,10,11,12,13,14,15,16,17], .code (csub (cd Try.f4) [1,1,1,1,0,1]), .code (csub (cd Try.f4) [1,1,1,1,1])] [(3, v4), (4, .int .i64 (((readP s).2.1 : Nat) : Int)), (5, .int .i64 ((readP s).2.2)), (6, v8), (7, .int .i64 (((readP s).2.1 : Nat) : Int)), (8, .int .i64 ((readP s).2.2)), (9, v12), (33, .bool false)] (by kernel_rfl) (numbers_yes v4 v8 ((readP s).1) ((readP s).1) w13 (hM15.rd 2 rfl) (hM15.rd 1 rfl) (rfl)) ?_
  rintro _ w16 ⟨rfl, d17⟩
  refine ⟨_, rfl, ?_⟩
  have hM18 := hM15.dr d17
  have o19 : (IntKind.i64 = IntKind.i64) ∧ w16 = w16 ∧ Value.bool false = .bool ((((readP s).2.1 : Nat) : Int) != (((readP s).2.1 : Nat) : Int)) := ⟨rfl, rfl, congrArg Value.bool (Eq.symm (bne_self_eq_false _))⟩
  have o20 : (IntKind.i64 = IntKind.i64) ∧ w16 = w16 ∧ Value.bool false = .bool ((readP s).2.2 != (readP s).2.2) := ⟨rfl, rfl, congrArg Value.bool (Eq.symm (bne_self_eq_false _))⟩
  refine GoS.run [3, 6, 9, 12] [.n, .n, .n, .n, .n, .h (.bool false), .n, .n, .n, .n, .h (.bool false), .n, .n, .n, .n, .n, .n, .n, .n, .n, .n, .n] _ [.code (csub (cd Try.f4) [1,1,1,1,1,0,1,0,0]), .inLoop (csub (cd Try.f4) [1,1,1,1,1,0,1,0,0]), .inBlock 0, .code (csub (cd Try.f4) [1,1,1,1,1,1])] [(3, v4), (6, v8), (9, v12), (12, .int .i64 0)] w16 (by kernel_rfl) (.cons o19 (.cons o20 .nil)) ?_
  exact lreads_L s hs R hR ((readP s).1.length + 1) v12 v8 v4 (readP s).1 0 w16 (by omega) rfl hM18 (by omega)


end Go.Proofs.Ytehpfcpobemjfaa
