/-
  The walk of Check.
-/
import Derived.Test.YthimiheeheaaaaaPackA
import Derived.Test.YthimiheeheaaaaaPostP
namespace Go.Proofs.Ythimiheeheaaaaa
open Go Go.Gw Go.NumP Go.LiveP Go.PackP Go.PostP Go.RowKit
set_option linter.unusedVariables false
set_option linter.unusedSimpArgs false

theorem sT22 : SliceT Try.prog 22 40 2 32 (.agg #[.int .i64 0, .slice none 0 0]) := ⟨by kernel_rfl, ⟨_, rfl, by kernel_rfl, by kernel_rfl, by kernel_rfl⟩, rfl, by decide⟩
theorem pE38 : Plain Try.prog 38 := ⟨.slice 3, by kernel_rfl, (fun _ h => by cases h), (fun _ _ h => by cases h)⟩
theorem oT40 : ObjT Try.prog 40 2 (.agg #[.int .i64 0, .slice none 0 0]) := ⟨⟨_, rfl, by kernel_rfl, by kernel_rfl⟩, rfl⟩
theorem aE40 : Agged Try.prog 40 2 := ⟨⟨_, Try.underlying40, .inl ⟨_, rfl⟩⟩, _, rfl, by kernel_rfl⟩

set_option maxHeartbeats 400000 in
theorem check_L2 {w0 : World} (u : Value) (L : PS) (X : Nat → Value) (hu : Rd w0 2 u L.length (pcells L X)) (hX : ∀ j, j < L.length → Rd w0 1 (X j) (L.getD j zp).2.length (ivals .i64 (L.getD j zp).2)) (Z : Int) (k : Nat) (hk : k < L.length) (Y : Int) (hY : Y ≠ 0 → Z = Y) (R : Ending → World → Prop) (hR : R = (fun e w' => e = .returned (.int .i64 (Z)) ∧ Mem [] w0 w' [])) : ∀ (N : Nat) (at_ : Int) (j : Nat) (w : World) (out : ∀ (w : World), Y = 0 → Mem [] w0 w [] → GoS Try.prog 14 R 45 [.code (csub (cd Try.f14) [1,1,0,1,0,0]), .inLoop (csub (cd Try.f14) [1,1,0,1,0,0]), .inBlock 0, .code (csub (cd Try.f14) [1,1,1])] [(3, .int .i64 ((List.getD L k zp).1)), (9, u), (10, .int .i64 (((List.length L) : Nat) : Int)), (11, .int .i64 (((k + 1) : Nat) : Int))] w) (hG : ckA at_ (List.drop j (List.getD L k zp).2) = Y) (hj : j ≤ List.length (List.getD L k zp).2) (hM : Mem [] w0 w []) (hN : List.length (List.getD L k zp).2 - j < N), GoS Try.prog 14 R 45 [.code (csub (cd Try.f14) [1,1,0,1,0,0,1,1,0,0,1,1,1,1,1,1,0,0]), .inLoop (csub (cd Try.f14) [1,1,0,1,0,0,1,1,0,0,1,1,1,1,1,1,0,0]), .inBlock 2, .inBlock 1, .code (csub (cd Try.f14) [1,1,0,1,0,0,1,1,1]), .inLoop (csub (cd Try.f14) [1,1,0,1,0,0]), .inBlock 0, .code (csub (cd Try.f14) [1,1,1])] [(3, .int .i64 ((List.getD L k zp).1)), (6, .int .i64 at_), (9, u), (10, .int .i64 (((List.length L) : Nat) : Int)), (11, .int .i64 ((k : Nat) : Int)), (31, (X k)), (32, .int .i64 (((List.length (List.getD L k zp).2) : Nat) : Int)), (33, .int .i64 ((j : Nat) : Int))] w := by
  intro N
  induction N with
  | zero => intro at_ j w out hG hj hM hN; exact absurd hN (Nat.not_lt_zero _)
  | succ N ih =>
    intro at_ j w out hG hj hM hN
    have hLl := rd_len hu
    simp only [maxLen] at hLl
    have hxk := hX k hk
    have hxl := rd_len hxk
    simp only [maxLen] at hxl
    refine GoS.run [3, 6, 9, 10, 11, 31, 32, 33, 34] [.n, .n, .n, .n, .n] _ [.code (csub (cd Try.f14) [1,1,0,1,0,0,1,1,0,0,1,1,1,1,1,1,0,0,1,0]), .code (csub (cd Try.f14) [1,1,0,1,0,0,1,1,0,0,1,1,1,1,1,1,0,0,1,1]), .inLoop (csub (cd Try.f14) [1,1,0,1,0,0,1,1,0,0,1,1,1,1,1,1,0,0]), .inBlock 2, .inBlock 1, .code (csub (cd Try.f14) [1,1,0,1,0,0,1,1,1]), .inLoop (csub (cd Try.f14) [1,1,0,1,0,0]), .inBlock 0, .code (csub (cd Try.f14) [1,1,1])] [(3, .int .i64 ((List.getD L k zp).1)), (6, .int .i64 at_), (9, u), (10, .int .i64 (((List.length L) : Nat) : Int)), (11, .int .i64 ((k : Nat) : Int)), (31, (X k)), (32, .int .i64 (((List.length (List.getD L k zp).2) : Nat) : Int)), (33, .int .i64 ((j : Nat) : Int)), (34, .bool (decide (((j : Nat) : Int) < (((List.length (List.getD L k zp).2) : Nat) : Int))))] w (by kernel_rfl) .nil ?_
    refine GoS.cond (decide (((j : Nat) : Int) < (((List.length (List.getD L k zp).2) : Nat) : Int))) [.code (csub (cd Try.f14) [1,1,0,1,0,0,1,1,0,0,1,1,1,1,1,1,0,0,1,0,0]), .code (csub (cd Try.f14) [1,1,0,1,0,0,1,1,0,0,1,1,1,1,1,1,0,0,1,1]), .inLoop (csub (cd Try.f14) [1,1,0,1,0,0,1,1,0,0,1,1,1,1,1,1,0,0]), .inBlock 2, .inBlock 1, .code (csub (cd Try.f14) [1,1,0,1,0,0,1,1,1]), .inLoop (csub (cd Try.f14) [1,1,0,1,0,0]), .inBlock 0, .code (csub (cd Try.f14) [1,1,1])] [.code (csub (cd Try.f14) [1,1,0,1,0,0,1,1,0,0,1,1,1,1,1,1,0,0,1,0,1]), .code (csub (cd Try.f14) [1,1,0,1,0,0,1,1,0,0,1,1,1,1,1,1,0,0,1,1]), .inLoop (csub (cd Try.f14) [1,1,0,1,0,0,1,1,0,0,1,1,1,1,1,1,0,0]), .inBlock 2, .inBlock 1, .code (csub (cd Try.f14) [1,1,0,1,0,0,1,1,1]), .inLoop (csub (cd Try.f14) [1,1,0,1,0,0]), .inBlock 0, .code (csub (cd Try.f14) [1,1,1])] (by kernel_rfl) (fun h1 => ?_) (fun h1 => ?_)
    ·
      have h1p : ((j : Nat) : Int) < (((List.length (List.getD L k zp).2) : Nat) : Int) := of_decide_eq_true h1
      refine GoS.run [3, 6, 9, 10, 11, 31, 32, 33] [.n] _ [.code (csub (cd Try.f14) [1,1,0,1,0,0,1,1,0,0,1,1,1,1,1,1,0,0,1,1]), .inLoop (csub (cd Try.f14) [1,1,0,1,0,0,1,1,0,0,1,1,1,1,1,1,0,0]), .inBlock 2, .inBlock 1, .code (csub (cd Try.f14) [1,1,0,1,0,0,1,1,1]), .inLoop (csub (cd Try.f14) [1,1,0,1,0,0]), .inBlock 0, .code (csub (cd Try.f14) [1,1,1])] [(3, .int .i64 ((List.getD L k zp).1)), (6, .int .i64 at_), (9, u), (10, .int .i64 (((List.length L) : Nat) : Int)), (11, .int .i64 ((k : Nat) : Int)), (31, (X k)), (32, .int .i64 (((List.length (List.getD L k zp).2) : Nat) : Int)), (33, .int .i64 ((j : Nat) : Int))] w (by kernel_rfl) .nil ?_
      obtain ⟨p3, hp4, hq5⟩ := rd_at (i := ((j : Nat) : Int)) sT38 (hxk.kept0 hM.kept) j (by omega) (by first | omega | (dsimp only; omega))
      have o6 : (Instr.indexAt 38 ((X k)) (.int .i64 ((j : Nat) : Int))).run Try.prog w = .ok (.pointer (some p3)) w := hq5 _ _
      have o7 : (Instr.loadAt 3 (.pointer (some p3))).run Try.prog w = .ok (.int .i64 (List.getD ((List.getD L k zp).2) j 0)) w := at_load pE3 (hxk.kept0 hM.kept) hp4 (ivals_at (by first | omega | (dsimp only; omega)))
      refine GoS.run [3, 8, 9, 10, 11, 31, 32, 33, 39] [.n, .n, .n, .n, .h (.pointer (some p3)), .h (.int .i64 (List.getD ((List.getD L k zp).2) j 0)), .n, .n, .n, .n, .n, .n, .n, .n, .n] _ [.code (csub (cd Try.f14) [1,1,0,1,0,0,1,1,0,0,1,1,1,1,1,1,0,0,1,1,0,0,1,0,1]), .code (csub (cd Try.f14) [1,1,0,1,0,0,1,1,0,0,1,1,1,1,1,1,0,0,1,1,0,0,1,1]), .inBlock 3, .code (csub (cd Try.f14) [1,1,0,1,0,0,1,1,0,0,1,1,1,1,1,1,0,0,1,1,1]), .inLoop (csub (cd Try.f14) [1,1,0,1,0,0,1,1,0,0,1,1,1,1,1,1,0,0]), .inBlock 2, .inBlock 1, .code (csub (cd Try.f14) [1,1,0,1,0,0,1,1,1]), .inLoop (csub (cd Try.f14) [1,1,0,1,0,0]), .inBlock 0, .code (csub (cd Try.f14) [1,1,1])] [(3, .int .i64 ((List.getD L k zp).1)), (8, .int .i64 (List.getD ((List.getD L k zp).2) j 0)), (9, u), (10, .int .i64 (((List.length L) : Nat) : Int)), (11, .int .i64 ((k : Nat) : Int)), (31, (X k)), (32, .int .i64 (((List.length (List.getD L k zp).2) : Nat) : Int)), (33, .int .i64 ((j : Nat) : Int)), (39, .bool (decide ((List.getD ((List.getD L k zp).2) j 0) ≤ at_)))] w (by kernel_rfl) (.cons o6 (.cons o7 .nil)) ?_
      refine GoS.cond (decide ((List.getD ((List.getD L k zp).2) j 0) ≤ at_)) [.code (csub (cd Try.f14) [1,1,0,1,0,0,1,1,0,0,1,1,1,1,1,1,0,0,1,1,0,0,1,0,1,0]), .code (csub (cd Try.f14) [1,1,0,1,0,0,1,1,0,0,1,1,1,1,1,1,0,0,1,1,0,0,1,1]), .inBlock 3, .code (csub (cd Try.f14) [1,1,0,1,0,0,1,1,0,0,1,1,1,1,1,1,0,0,1,1,1]), .inLoop (csub (cd Try.f14) [1,1,0,1,0,0,1,1,0,0,1,1,1,1,1,1,0,0]), .inBlock 2, .inBlock 1, .code (csub (cd Try.f14) [1,1,0,1,0,0,1,1,1]), .inLoop (csub (cd Try.f14) [1,1,0,1,0,0]), .inBlock 0, .code (csub (cd Try.f14) [1,1,1])] [.code (csub (cd Try.f14) [1,1,0,1,0,0,1,1,0,0,1,1,1,1,1,1,0,0,1,1,0,0,1,0,1,1]), .code (csub (cd Try.f14) [1,1,0,1,0,0,1,1,0,0,1,1,1,1,1,1,0,0,1,1,0,0,1,1]), .inBlock 3, .code (csub (cd Try.f14) [1,1,0,1,0,0,1,1,0,0,1,1,1,1,1,1,0,0,1,1,1]), .inLoop (csub (cd Try.f14) [1,1,0,1,0,0,1,1,0,0,1,1,1,1,1,1,0,0]), .inBlock 2, .inBlock 1, .code (csub (cd Try.f14) [1,1,0,1,0,0,1,1,1]), .inLoop (csub (cd Try.f14) [1,1,0,1,0,0]), .inBlock 0, .code (csub (cd Try.f14) [1,1,1])] (by kernel_rfl) (fun h8 => ?_) (fun h8 => ?_)
      ·
        have h8p : (List.getD ((List.getD L k zp).2) j 0) ≤ at_ := of_decide_eq_true h8
        refine GoS.run [2] [.n, .n, .n, .n] _ [.code (csub (cd Try.f14) [1,1,0,1,0,0,1,1,0,0,1,1,1,1,1,1,0,0,1,1,0,0,1,0,1,0,1]), .code (csub (cd Try.f14) [1,1,0,1,0,0,1,1,0,0,1,1,1,1,1,1,0,0,1,1,0,0,1,1]), .inBlock 3, .code (csub (cd Try.f14) [1,1,0,1,0,0,1,1,0,0,1,1,1,1,1,1,0,0,1,1,1]), .inLoop (csub (cd Try.f14) [1,1,0,1,0,0,1,1,0,0,1,1,1,1,1,1,0,0]), .inBlock 2, .inBlock 1, .code (csub (cd Try.f14) [1,1,0,1,0,0,1,1,1]), .inLoop (csub (cd Try.f14) [1,1,0,1,0,0]), .inBlock 0, .code (csub (cd Try.f14) [1,1,1])] [(2, .int .i64 3)] w (by kernel_rfl) .nil ?_
        refine GoS.ret (fn := Try.f14) (v := (.int .i64 3)) Try.func14 (by kernel_rfl) ?_
        rw [hR]
        have e := ckA_low (l := (List.getD L k zp).2) (k := j) (a := at_) (by omega) (by omega)
        rw [hG] at e
        exact ⟨ret_int (by rw [hY (by omega), e]), hM.sub (List.nil_sublist _)⟩
      ·
        have h8p : ¬ ((List.getD ((List.getD L k zp).2) j 0) ≤ at_) := of_decide_eq_false h8
        refine GoS.run [3, 8, 9, 10, 11, 31, 32, 33] [.n] _ [.code (csub (cd Try.f14) [1,1,0,1,0,0,1,1,0,0,1,1,1,1,1,1,0,0,1,1,0,0,1,1]), .inBlock 3, .code (csub (cd Try.f14) [1,1,0,1,0,0,1,1,0,0,1,1,1,1,1,1,0,0,1,1,1]), .inLoop (csub (cd Try.f14) [1,1,0,1,0,0,1,1,0,0,1,1,1,1,1,1,0,0]), .inBlock 2, .inBlock 1, .code (csub (cd Try.f14) [1,1,0,1,0,0,1,1,1]), .inLoop (csub (cd Try.f14) [1,1,0,1,0,0]), .inBlock 0, .code (csub (cd Try.f14) [1,1,1])] [(3, .int .i64 ((List.getD L k zp).1)), (8, .int .i64 (List.getD ((List.getD L k zp).2) j 0)), (9, u), (10, .int .i64 (((List.length L) : Nat) : Int)), (11, .int .i64 ((k : Nat) : Int)), (31, (X k)), (32, .int .i64 (((List.length (List.getD L k zp).2) : Nat) : Int)), (33, .int .i64 ((j : Nat) : Int))] w (by kernel_rfl) .nil ?_
        refine GoS.run [3, 8, 9, 10, 11, 31, 32, 33, 41] [.n, .n, .n, .n, .n, .n] _ [.code (csub (cd Try.f14) [1,1,0,1,0,0,1,1,0,0,1,1,1,1,1,1,0,0,1,1,0,0,1,1,0,1]), .code (csub (cd Try.f14) [1,1,0,1,0,0,1,1,0,0,1,1,1,1,1,1,0,0,1,1,0,0,1,1,1]), .inBlock 3, .code (csub (cd Try.f14) [1,1,0,1,0,0,1,1,0,0,1,1,1,1,1,1,0,0,1,1,1]), .inLoop (csub (cd Try.f14) [1,1,0,1,0,0,1,1,0,0,1,1,1,1,1,1,0,0]), .inBlock 2, .inBlock 1, .code (csub (cd Try.f14) [1,1,0,1,0,0,1,1,1]), .inLoop (csub (cd Try.f14) [1,1,0,1,0,0]), .inBlock 0, .code (csub (cd Try.f14) [1,1,1])] [(3, .int .i64 ((List.getD L k zp).1)), (8, .int .i64 (List.getD ((List.getD L k zp).2) j 0)), (9, u), (10, .int .i64 (((List.length L) : Nat) : Int)), (11, .int .i64 ((k : Nat) : Int)), (31, (X k)), (32, .int .i64 (((List.length (List.getD L k zp).2) : Nat) : Int)), (33, .int .i64 ((j : Nat) : Int)), (41, .bool (decide ((List.getD ((List.getD L k zp).2) j 0) ≥ 4096)))] w (by kernel_rfl) .nil ?_
        refine GoS.cond (decide ((List.getD ((List.getD L k zp).2) j 0) ≥ 4096)) [.code (csub (cd Try.f14) [1,1,0,1,0,0,1,1,0,0,1,1,1,1,1,1,0,0,1,1,0,0,1,1,0,1,0]), .code (csub (cd Try.f14) [1,1,0,1,0,0,1,1,0,0,1,1,1,1,1,1,0,0,1,1,0,0,1,1,1]), .inBlock 3, .code (csub (cd Try.f14) [1,1,0,1,0,0,1,1,0,0,1,1,1,1,1,1,0,0,1,1,1]), .inLoop (csub (cd Try.f14) [1,1,0,1,0,0,1,1,0,0,1,1,1,1,1,1,0,0]), .inBlock 2, .inBlock 1, .code (csub (cd Try.f14) [1,1,0,1,0,0,1,1,1]), .inLoop (csub (cd Try.f14) [1,1,0,1,0,0]), .inBlock 0, .code (csub (cd Try.f14) [1,1,1])] [.code (csub (cd Try.f14) [1,1,0,1,0,0,1,1,0,0,1,1,1,1,1,1,0,0,1,1,0,0,1,1,0,1,1]), .code (csub (cd Try.f14) [1,1,0,1,0,0,1,1,0,0,1,1,1,1,1,1,0,0,1,1,0,0,1,1,1]), .inBlock 3, .code (csub (cd Try.f14) [1,1,0,1,0,0,1,1,0,0,1,1,1,1,1,1,0,0,1,1,1]), .inLoop (csub (cd Try.f14) [1,1,0,1,0,0,1,1,0,0,1,1,1,1,1,1,0,0]), .inBlock 2, .inBlock 1, .code (csub (cd Try.f14) [1,1,0,1,0,0,1,1,1]), .inLoop (csub (cd Try.f14) [1,1,0,1,0,0]), .inBlock 0, .code (csub (cd Try.f14) [1,1,1])] (by kernel_rfl) (fun h9 => ?_) (fun h9 => ?_)
        ·
          have h9p : (List.getD ((List.getD L k zp).2) j 0) ≥ 4096 := of_decide_eq_true h9
          refine GoS.run [2] [.n, .n, .n, .n] _ [.code (csub (cd Try.f14) [1,1,0,1,0,0,1,1,0,0,1,1,1,1,1,1,0,0,1,1,0,0,1,1,0,1,0,1]), .code (csub (cd Try.f14) [1,1,0,1,0,0,1,1,0,0,1,1,1,1,1,1,0,0,1,1,0,0,1,1,1]), .inBlock 3, .code (csub (cd Try.f14) [1,1,0,1,0,0,1,1,0,0,1,1,1,1,1,1,0,0,1,1,1]), .inLoop (csub (cd Try.f14) [1,1,0,1,0,0,1,1,0,0,1,1,1,1,1,1,0,0]), .inBlock 2, .inBlock 1, .code (csub (cd Try.f14) [1,1,0,1,0,0,1,1,1]), .inLoop (csub (cd Try.f14) [1,1,0,1,0,0]), .inBlock 0, .code (csub (cd Try.f14) [1,1,1])] [(2, .int .i64 4)] w (by kernel_rfl) .nil ?_
          refine GoS.ret (fn := Try.f14) (v := (.int .i64 4)) Try.func14 (by kernel_rfl) ?_
          rw [hR]
          have e := ckA_high (l := (List.getD L k zp).2) (k := j) (a := at_) (by omega) (by omega) (by omega)
          rw [hG] at e
          exact ⟨ret_int (by rw [hY (by omega), e]), hM.sub (List.nil_sublist _)⟩
        ·
          have h9p : ¬ ((List.getD ((List.getD L k zp).2) j 0) ≥ 4096) := of_decide_eq_false h9
          refine GoS.run [3, 8, 9, 10, 11, 31, 32, 33] [.n] _ [.code (csub (cd Try.f14) [1,1,0,1,0,0,1,1,0,0,1,1,1,1,1,1,0,0,1,1,0,0,1,1,1]), .inBlock 3, .code (csub (cd Try.f14) [1,1,0,1,0,0,1,1,0,0,1,1,1,1,1,1,0,0,1,1,1]), .inLoop (csub (cd Try.f14) [1,1,0,1,0,0,1,1,0,0,1,1,1,1,1,1,0,0]), .inBlock 2, .inBlock 1, .code (csub (cd Try.f14) [1,1,0,1,0,0,1,1,1]), .inLoop (csub (cd Try.f14) [1,1,0,1,0,0]), .inBlock 0, .code (csub (cd Try.f14) [1,1,1])] [(3, .int .i64 ((List.getD L k zp).1)), (8, .int .i64 (List.getD ((List.getD L k zp).2) j 0)), (9, u), (10, .int .i64 (((List.length L) : Nat) : Int)), (11, .int .i64 ((k : Nat) : Int)), (31, (X k)), (32, .int .i64 (((List.length (List.getD L k zp).2) : Nat) : Int)), (33, .int .i64 ((j : Nat) : Int))] w (by kernel_rfl) .nil ?_
          have o10 : (binOp .add 3 (.int .i64 ((j : Nat) : Int)) (.int .i64 1)).run Try.prog w = .ok (.int .i64 (((j + 1) : Nat) : Int)) w := f_add (by rw [show ((j : Nat) : Int) + 1 = (((j + 1) : Nat) : Int) by omega]; exact IntWalk.i64_in _ (by omega))
          refine GoS.run [3, 6, 9, 10, 11, 31, 32, 33] [.n, .n, .n, .n, .n, .n, .h (.int .i64 (((j + 1) : Nat) : Int)), .n, .n, .n] _ [.code (csub (cd Try.f14) [1,1,0,1,0,0,1,1,0,0,1,1,1,1,1,1,0,0]), .inLoop (csub (cd Try.f14) [1,1,0,1,0,0,1,1,0,0,1,1,1,1,1,1,0,0]), .inBlock 2, .inBlock 1, .code (csub (cd Try.f14) [1,1,0,1,0,0,1,1,1]), .inLoop (csub (cd Try.f14) [1,1,0,1,0,0]), .inBlock 0, .code (csub (cd Try.f14) [1,1,1])] [(3, .int .i64 ((List.getD L k zp).1)), (6, .int .i64 (List.getD ((List.getD L k zp).2) j 0)), (9, u), (10, .int .i64 (((List.length L) : Nat) : Int)), (11, .int .i64 ((k : Nat) : Int)), (31, (X k)), (32, .int .i64 (((List.length (List.getD L k zp).2) : Nat) : Int)), (33, .int .i64 (((j + 1) : Nat) : Int))] w (by kernel_rfl) (.cons o10 .nil) ?_
          exact ih (List.getD (List.getD L k zp).2 j 0) (j + 1) _ out (by rw [← hG, ckA_go (a := at_) (by omega) (by omega) (by omega)]) (by omega) hM (by omega)
    ·
      have h1p : ¬ (((j : Nat) : Int) < (((List.length (List.getD L k zp).2) : Nat) : Int)) := of_decide_eq_false h1
      have o2 : (binOp .add 3 (.int .i64 ((k : Nat) : Int)) (.int .i64 1)).run Try.prog w = .ok (.int .i64 (((k + 1) : Nat) : Int)) w := f_add (by rw [show ((k : Nat) : Int) + 1 = (((k + 1) : Nat) : Int) by omega]; exact IntWalk.i64_in _ (by omega))
      refine GoS.run [3, 9, 10, 11] [.n, .n, .n, .h (.int .i64 (((k + 1) : Nat) : Int)), .n, .n, .n] _ [.code (csub (cd Try.f14) [1,1,0,1,0,0]), .inLoop (csub (cd Try.f14) [1,1,0,1,0,0]), .inBlock 0, .code (csub (cd Try.f14) [1,1,1])] [(3, .int .i64 ((List.getD L k zp).1)), (9, u), (10, .int .i64 (((List.length L) : Nat) : Int)), (11, .int .i64 (((k + 1) : Nat) : Int))] w (by kernel_rfl) (.cons o2 .nil) ?_
      have e := ckA_end (l := (List.getD L k zp).2) (k := j) (a := at_) (by omega)
      rw [hG] at e
      exact out _ e (hM.sub (List.nil_sublist _))

set_option maxHeartbeats 400000 in
theorem check_L1 {w0 : World} (u : Value) (L : PS) (X : Nat → Value) (hu : Rd w0 2 u L.length (pcells L X)) (hX : ∀ j, j < L.length → Rd w0 1 (X j) (L.getD j zp).2.length (ivals .i64 (L.getD j zp).2)) (Z : Int) (R : Ending → World → Prop) (hR : R = (fun e w' => e = .returned (.int .i64 (Z)) ∧ Mem [] w0 w' [])) : ∀ (N : Nat) (last : Int) (k : Nat) (w : World) (hF : ckP last (L.drop k) = Z) (hk : k ≤ L.length) (hM : Mem [] w0 w []) (hN : L.length - k < N), GoS Try.prog 14 R 45 [.code (csub (cd Try.f14) [1,1,0,1,0,0]), .inLoop (csub (cd Try.f14) [1,1,0,1,0,0]), .inBlock 0, .code (csub (cd Try.f14) [1,1,1])] [(3, .int .i64 last), (9, u), (10, .int .i64 (((List.length L) : Nat) : Int)), (11, .int .i64 ((k : Nat) : Int))] w := by
  intro N
  induction N with
  | zero => intro last k w hF hk hM hN; exact absurd hN (Nat.not_lt_zero _)
  | succ N ih =>
    intro last k w hF hk hM hN
    have hLl := rd_len hu
    simp only [maxLen] at hLl
    refine GoS.run [3, 9, 10, 11, 12] [.n, .n, .n, .n, .n] _ [.code (csub (cd Try.f14) [1,1,0,1,0,0,1,0]), .code (csub (cd Try.f14) [1,1,0,1,0,0,1,1]), .inLoop (csub (cd Try.f14) [1,1,0,1,0,0]), .inBlock 0, .code (csub (cd Try.f14) [1,1,1])] [(3, .int .i64 last), (9, u), (10, .int .i64 (((List.length L) : Nat) : Int)), (11, .int .i64 ((k : Nat) : Int)), (12, .bool (decide (((k : Nat) : Int) < (((List.length L) : Nat) : Int))))] w (by kernel_rfl) .nil ?_
    refine GoS.cond (decide (((k : Nat) : Int) < (((List.length L) : Nat) : Int))) [.code (csub (cd Try.f14) [1,1,0,1,0,0,1,0,0]), .code (csub (cd Try.f14) [1,1,0,1,0,0,1,1]), .inLoop (csub (cd Try.f14) [1,1,0,1,0,0]), .inBlock 0, .code (csub (cd Try.f14) [1,1,1])] [.code (csub (cd Try.f14) [1,1,0,1,0,0,1,0,1]), .code (csub (cd Try.f14) [1,1,0,1,0,0,1,1]), .inLoop (csub (cd Try.f14) [1,1,0,1,0,0]), .inBlock 0, .code (csub (cd Try.f14) [1,1,1])] (by kernel_rfl) (fun h1 => ?_) (fun h1 => ?_)
    ·
      have h1p : ((k : Nat) : Int) < (((List.length L) : Nat) : Int) := of_decide_eq_true h1
      refine GoS.run [3, 9, 10, 11] [.n] _ [.code (csub (cd Try.f14) [1,1,0,1,0,0,1,1]), .inLoop (csub (cd Try.f14) [1,1,0,1,0,0]), .inBlock 0, .code (csub (cd Try.f14) [1,1,1])] [(3, .int .i64 last), (9, u), (10, .int .i64 (((List.length L) : Nat) : Int)), (11, .int .i64 ((k : Nat) : Int))] w (by kernel_rfl) .nil ?_
      obtain ⟨p2, hp3, hq4⟩ := rd_at (i := ((k : Nat) : Int)) sT22 (hu.kept0 hM.kept) k (by omega) (by first | omega | (dsimp only; omega))
      have o14 : (Instr.indexAt 22 (u) (.int .i64 ((k : Nat) : Int))).run Try.prog w = .ok (.pointer (some p2)) w := hq4 _ _
      have o15 : (Instr.loadAt 40 (.pointer (some p2))).run Try.prog w = .ok (.agg #[.int .i64 ((List.getD L k zp).1), (X k)]) w := p_loads aE40 (hu.kept0 hM.kept) hp3 (by first | omega | (dsimp only; omega))
      obtain ⟨b5, w6, hr7, hM8⟩ := m_alloc oT40 hM
      have hM9 : Mem [] w0 w6 [⟨40, 2, (obj b5), 1, [.int .i64 0, .slice none 0 0]⟩] := hM8
      have o16 : (Instr.alloc 40 true (.tuple #[])).run Try.prog w = .ok (.pointer (some (⟨b5, 0, none⟩))) w6 := hr7
      obtain ⟨w10, hr11, hM12⟩ := c_stores (ys := [.int .i64 ((List.getD L k zp).1), (X k)]) aE40 hM9 0 rfl (cel_obj b5 0) rfl (by decide) (by intro u hu; simp at hu; rcases hu with rfl | rfl <;> first | rfl | exact (rd_one ((hX k (by omega)).kept0 hM9.kept)))
      have hM13 : Mem [] w0 w10 [⟨40, 2, (obj b5), 1, [.int .i64 ((List.getD L k zp).1), (X k)]⟩] := hM12
      have o17 : (Instr.storeAt 40 (.pointer (some (⟨b5, 0, none⟩))) (.agg #[.int .i64 ((List.getD L k zp).1), (X k)])).run Try.prog w6 = .ok () w10 ∧ undef = undef := ⟨hr11, rfl⟩
      have o18 : (Instr.loadAt 3 (.pointer (some (⟨b5, 0, none⟩)))).run Try.prog w10 = .ok (.int .i64 ((List.getD L k zp).1)) w10 := c_load pE3 (hM13.rd 0 rfl) (cel_obj b5 0) rfl
      refine GoS.run [3, 5, 9, 10, 11, 17] [.n, .n, .n, .n, .h (.pointer (some p2)), .h (.agg #[.int .i64 ((List.getD L k zp).1), (X k)]), .u (.pointer (some (⟨b5, 0, none⟩))) (w6), .u (undef) (w10), .n, .n, .n, .n, .n, .h (.int .i64 ((List.getD L k zp).1)), .n, .n] _ [.code (csub (cd Try.f14) [1,1,0,1,0,0,1,1,0,0,1,0,1]), .code (csub (cd Try.f14) [1,1,0,1,0,0,1,1,0,0,1,1]), .inBlock 1, .code (csub (cd Try.f14) [1,1,0,1,0,0,1,1,1]), .inLoop (csub (cd Try.f14) [1,1,0,1,0,0]), .inBlock 0, .code (csub (cd Try.f14) [1,1,1])] [(3, .int .i64 last), (5, .pointer (some (⟨b5, 0, none⟩))), (9, u), (10, .int .i64 (((List.length L) : Nat) : Int)), (11, .int .i64 ((k : Nat) : Int)), (17, .bool (decide ((List.getD L k zp).1 ≥ 1048576)))] w10 (by kernel_rfl) (.cons o14 (.cons o15 (.cons o16 (.cons o17 (.cons o18 .nil))))) ?_
      refine GoS.cond (decide ((List.getD L k zp).1 ≥ 1048576)) [.code (csub (cd Try.f14) [1,1,0,1,0,0,1,1,0,0,1,0,1,0]), .code (csub (cd Try.f14) [1,1,0,1,0,0,1,1,0,0,1,1]), .inBlock 1, .code (csub (cd Try.f14) [1,1,0,1,0,0,1,1,1]), .inLoop (csub (cd Try.f14) [1,1,0,1,0,0]), .inBlock 0, .code (csub (cd Try.f14) [1,1,1])] [.code (csub (cd Try.f14) [1,1,0,1,0,0,1,1,0,0,1,0,1,1]), .code (csub (cd Try.f14) [1,1,0,1,0,0,1,1,0,0,1,1]), .inBlock 1, .code (csub (cd Try.f14) [1,1,0,1,0,0,1,1,1]), .inLoop (csub (cd Try.f14) [1,1,0,1,0,0]), .inBlock 0, .code (csub (cd Try.f14) [1,1,1])] (by kernel_rfl) (fun h19 => ?_) (fun h19 => ?_)
      ·
        have h19p : (List.getD L k zp).1 ≥ 1048576 := of_decide_eq_true h19
        have hM20 : Mem [] w0 w10 [] := hM13.sub (List.Sublist.cons _ (List.Sublist.refl _))
        refine GoS.run [2] [.n, .n, .n, .n] _ [.code (csub (cd Try.f14) [1,1,0,1,0,0,1,1,0,0,1,0,1,0,1]), .code (csub (cd Try.f14) [1,1,0,1,0,0,1,1,0,0,1,1]), .inBlock 1, .code (csub (cd Try.f14) [1,1,0,1,0,0,1,1,1]), .inLoop (csub (cd Try.f14) [1,1,0,1,0,0]), .inBlock 0, .code (csub (cd Try.f14) [1,1,1])] [(2, .int .i64 4)] w10 (by kernel_rfl) .nil ?_
        refine GoS.ret (fn := Try.f14) (v := (.int .i64 4)) Try.func14 (by kernel_rfl) ?_
        rw [hR]
        have e := ckP_high (L := L) (k := k) (last := last) (by omega) (by omega)
        rw [hF] at e
        exact ⟨ret_int e.symm, hM20.sub (List.nil_sublist _)⟩
      ·
        have h19p : ¬ ((List.getD L k zp).1 ≥ 1048576) := of_decide_eq_false h19
        refine GoS.run [3, 5, 9, 10, 11] [.n] _ [.code (csub (cd Try.f14) [1,1,0,1,0,0,1,1,0,0,1,1]), .inBlock 1, .code (csub (cd Try.f14) [1,1,0,1,0,0,1,1,1]), .inLoop (csub (cd Try.f14) [1,1,0,1,0,0]), .inBlock 0, .code (csub (cd Try.f14) [1,1,1])] [(3, .int .i64 last), (5, .pointer (some (⟨b5, 0, none⟩))), (9, u), (10, .int .i64 (((List.length L) : Nat) : Int)), (11, .int .i64 ((k : Nat) : Int))] w10 (by kernel_rfl) .nil ?_
        have o21 : (Instr.loadAt 3 (.pointer (some (⟨b5, 0, none⟩)))).run Try.prog w10 = .ok (.int .i64 ((List.getD L k zp).1)) w10 := c_load pE3 (hM13.rd 0 rfl) (cel_obj b5 0) rfl
        refine GoS.run [5, 9, 10, 11, 22] [.n, .n, .n, .n, .h (.int .i64 ((List.getD L k zp).1)), .n, .n, .n] _ [.inRegion (cops (csub (cd Try.f14) [1,1,0,1,0,0,1,1,0,0,1,1,0,0])) [5,6,7,8,9], .code (csub (cd Try.f14) [1,1,0,1,0,0,1,1,0,0,1,1,0,1]), .code (csub (cd Try.f14) [1,1,0,1,0,0,1,1,0,0,1,1,1]), .inBlock 1, .code (csub (cd Try.f14) [1,1,0,1,0,0,1,1,1]), .inLoop (csub (cd Try.f14) [1,1,0,1,0,0]), .inBlock 0, .code (csub (cd Try.f14) [1,1,1])] [(5, .pointer (some (⟨b5, 0, none⟩))), (9, u), (10, .int .i64 (((List.length L) : Nat) : Int)), (11, .int .i64 ((k : Nat) : Int)), (22, .bool (decide ((List.getD L k zp).1 ≤ last)))] w10 (by kernel_rfl) (.cons o21 .nil) ?_
        refine GoS.fork 22 (decide ((List.getD L k zp).1 ≤ last)) (by kernel_rfl) (fun h22 => ?_) (fun h22 => ?_)
        ·
          have h22p : (List.getD L k zp).1 ≤ last := of_decide_eq_true h22
          refine GoS.run [5, 9, 10, 11, 27] [.n, .n, .n, .n, .n] _ [.inRegion (cops (csub (cd Try.f14) [1,1,0,1,0,0,1,1,0,0,1,1,0,0])) [], .code (csub (cd Try.f14) [1,1,0,1,0,0,1,1,0,0,1,1,0,1]), .code (csub (cd Try.f14) [1,1,0,1,0,0,1,1,0,0,1,1,1]), .inBlock 1, .code (csub (cd Try.f14) [1,1,0,1,0,0,1,1,1]), .inLoop (csub (cd Try.f14) [1,1,0,1,0,0]), .inBlock 0, .code (csub (cd Try.f14) [1,1,1])] [(5, .pointer (some (⟨b5, 0, none⟩))), (9, u), (10, .int .i64 (((List.length L) : Nat) : Int)), (11, .int .i64 ((k : Nat) : Int)), (27, .bool true)] w10 (by kernel_rfl) .nil ?_
          have hM25 : Mem [] w0 w10 [] := hM13.sub (List.Sublist.cons _ (List.Sublist.refl _))
          refine GoS.run [2] [.n, .n, .n, .n, .n, .n] _ [.code (csub (cd Try.f14) [1,1,0,1,0,0,1,1,0,0,1,1,0,1,0,1]), .code (csub (cd Try.f14) [1,1,0,1,0,0,1,1,0,0,1,1,1]), .inBlock 1, .code (csub (cd Try.f14) [1,1,0,1,0,0,1,1,1]), .inLoop (csub (cd Try.f14) [1,1,0,1,0,0]), .inBlock 0, .code (csub (cd Try.f14) [1,1,1])] [(2, .int .i64 3)] w10 (by kernel_rfl) .nil ?_
          refine GoS.ret (fn := Try.f14) (v := (.int .i64 3)) Try.func14 (by kernel_rfl) ?_
          rw [hR]
          have e := ckP_form (L := L) (k := k) (last := last) (by omega) (by omega) (by omega)
          rw [hF] at e
          exact ⟨ret_int e.symm, hM25.sub (List.nil_sublist _)⟩
        ·
          have h22p : ¬ ((List.getD L k zp).1 ≤ last) := of_decide_eq_false h22
          have o23 : (Instr.loadAt 38 (.pointer (some (⟨b5, 1, none⟩)))).run Try.prog w10 = .ok ((X k)) w10 := c_load pE38 (hM13.rd 0 rfl) (cel_obj b5 1) rfl
          have o24 : (Builtin.len_ #[38] 3 #[(X k)]).run Try.prog w10 = .ok (.int .i64 (((List.length ((List.getD L k zp).2)) : Nat) : Int)) w10 := f_slen sT38 ((hX k (by omega)).kept0 hM13.kept) 3 _
          refine GoS.run [5, 9, 10, 11, 27] [.n, .h ((X k)), .h (.int .i64 (((List.length ((List.getD L k zp).2)) : Nat) : Int)), .n, .n] _ [.inRegion (cops (csub (cd Try.f14) [1,1,0,1,0,0,1,1,0,0,1,1,0,0])) [], .code (csub (cd Try.f14) [1,1,0,1,0,0,1,1,0,0,1,1,0,1]), .code (csub (cd Try.f14) [1,1,0,1,0,0,1,1,0,0,1,1,1]), .inBlock 1, .code (csub (cd Try.f14) [1,1,0,1,0,0,1,1,1]), .inLoop (csub (cd Try.f14) [1,1,0,1,0,0]), .inBlock 0, .code (csub (cd Try.f14) [1,1,1])] [(5, .pointer (some (⟨b5, 0, none⟩))), (9, u), (10, .int .i64 (((List.length L) : Nat) : Int)), (11, .int .i64 ((k : Nat) : Int)), (27, .bool ((((List.length ((List.getD L k zp).2)) : Nat) : Int) == 0))] w10 (by kernel_rfl) (.cons o23 (.cons o24 .nil)) ?_
          refine GoS.run [5, 9, 10, 11, 27] [.n] _ [.code (csub (cd Try.f14) [1,1,0,1,0,0,1,1,0,0,1,1,0,1]), .code (csub (cd Try.f14) [1,1,0,1,0,0,1,1,0,0,1,1,1]), .inBlock 1, .code (csub (cd Try.f14) [1,1,0,1,0,0,1,1,1]), .inLoop (csub (cd Try.f14) [1,1,0,1,0,0]), .inBlock 0, .code (csub (cd Try.f14) [1,1,1])] [(5, .pointer (some (⟨b5, 0, none⟩))), (9, u), (10, .int .i64 (((List.length L) : Nat) : Int)), (11, .int .i64 ((k : Nat) : Int)), (27, .bool ((((List.length ((List.getD L k zp).2)) : Nat) : Int) == 0))] w10 (by kernel_rfl) .nil ?_
          refine GoS.cond ((((List.length ((List.getD L k zp).2)) : Nat) : Int) == 0) [.code (csub (cd Try.f14) [1,1,0,1,0,0,1,1,0,0,1,1,0,1,0]), .code (csub (cd Try.f14) [1,1,0,1,0,0,1,1,0,0,1,1,1]), .inBlock 1, .code (csub (cd Try.f14) [1,1,0,1,0,0,1,1,1]), .inLoop (csub (cd Try.f14) [1,1,0,1,0,0]), .inBlock 0, .code (csub (cd Try.f14) [1,1,1])] [.code (csub (cd Try.f14) [1,1,0,1,0,0,1,1,0,0,1,1,0,1,1]), .code (csub (cd Try.f14) [1,1,0,1,0,0,1,1,0,0,1,1,1]), .inBlock 1, .code (csub (cd Try.f14) [1,1,0,1,0,0,1,1,1]), .inLoop (csub (cd Try.f14) [1,1,0,1,0,0]), .inBlock 0, .code (csub (cd Try.f14) [1,1,1])] (by kernel_rfl) (fun h26 => ?_) (fun h26 => ?_)
          ·
            have h26p : (((List.length ((List.getD L k zp).2)) : Nat) : Int) = 0 := eq_of_beq h26
            have hM27 : Mem [] w0 w10 [] := hM13.sub (List.Sublist.cons _ (List.Sublist.refl _))
            refine GoS.run [2] [.n, .n, .n, .n] _ [.code (csub (cd Try.f14) [1,1,0,1,0,0,1,1,0,0,1,1,0,1,0,1]), .code (csub (cd Try.f14) [1,1,0,1,0,0,1,1,0,0,1,1,1]), .inBlock 1, .code (csub (cd Try.f14) [1,1,0,1,0,0,1,1,1]), .inLoop (csub (cd Try.f14) [1,1,0,1,0,0]), .inBlock 0, .code (csub (cd Try.f14) [1,1,1])] [(2, .int .i64 3)] w10 (by kernel_rfl) .nil ?_
            refine GoS.ret (fn := Try.f14) (v := (.int .i64 3)) Try.func14 (by kernel_rfl) ?_
            rw [hR]
            have e := ckP_form (L := L) (k := k) (last := last) (by omega) (by omega) (by omega)
            rw [hF] at e
            exact ⟨ret_int e.symm, hM27.sub (List.nil_sublist _)⟩
          ·
            have h26p : ¬ ((((List.length ((List.getD L k zp).2)) : Nat) : Int) = 0) := p_ne h26
            refine GoS.run [5, 9, 10, 11] [.n] _ [.code (csub (cd Try.f14) [1,1,0,1,0,0,1,1,0,0,1,1,1]), .inBlock 1, .code (csub (cd Try.f14) [1,1,0,1,0,0,1,1,1]), .inLoop (csub (cd Try.f14) [1,1,0,1,0,0]), .inBlock 0, .code (csub (cd Try.f14) [1,1,1])] [(5, .pointer (some (⟨b5, 0, none⟩))), (9, u), (10, .int .i64 (((List.length L) : Nat) : Int)), (11, .int .i64 ((k : Nat) : Int))] w10 (by kernel_rfl) .nil ?_
            have o28 : (Instr.loadAt 3 (.pointer (some (⟨b5, 0, none⟩)))).run Try.prog w10 = .ok (.int .i64 ((List.getD L k zp).1)) w10 := c_load pE3 (hM13.rd 0 rfl) (cel_obj b5 0) rfl
            have o29 : (Instr.loadAt 38 (.pointer (some (⟨b5, 1, none⟩)))).run Try.prog w10 = .ok ((X k)) w10 := c_load pE38 (hM13.rd 0 rfl) (cel_obj b5 1) rfl
            have o30 : (Builtin.len_ #[38] 3 #[(X k)]).run Try.prog w10 = .ok (.int .i64 (((List.length ((List.getD L k zp).2)) : Nat) : Int)) w10 := f_slen sT38 ((hX k (by omega)).kept0 hM13.kept) 3 _
            have hM31 : Mem [] w0 w10 [] := hM13.sub (List.Sublist.cons _ (List.Sublist.refl _))
            refine GoS.run [3, 6, 9, 10, 11, 31, 32, 33] [.n, .n, .n, .h (.int .i64 ((List.getD L k zp).1)), .n, .n, .n, .n, .n, .n, .n, .n, .n, .h ((X k)), .h (.int .i64 (((List.length ((List.getD L k zp).2)) : Nat) : Int)), .n, .n, .n, .n] _ [.code (csub (cd Try.f14) [1,1,0,1,0,0,1,1,0,0,1,1,1,1,1,1,0,0]), .inLoop (csub (cd Try.f14) [1,1,0,1,0,0,1,1,0,0,1,1,1,1,1,1,0,0]), .inBlock 2, .inBlock 1, .code (csub (cd Try.f14) [1,1,0,1,0,0,1,1,1]), .inLoop (csub (cd Try.f14) [1,1,0,1,0,0]), .inBlock 0, .code (csub (cd Try.f14) [1,1,1])] [(3, .int .i64 ((List.getD L k zp).1)), (6, .int .i64 (-1)), (9, u), (10, .int .i64 (((List.length L) : Nat) : Int)), (11, .int .i64 ((k : Nat) : Int)), (31, (X k)), (32, .int .i64 (((List.length ((List.getD L k zp).2)) : Nat) : Int)), (33, .int .i64 0)] w10 (by kernel_rfl) (.cons o28 (.cons o29 (.cons o30 .nil))) ?_
            have e := ckP_in (L := L) (k := k) (last := last) (by omega) (by omega) (by omega)
            rw [hF] at e
            exact check_L2 u L X hu hX Z k (by omega) (ckA (-1) (List.getD L k zp).2) (fun hy => by rw [if_pos hy] at e; exact e) R hR (List.length (List.getD L k zp).2 + 1) (-1) 0 w10 (fun w hy m => ih ((List.getD L k zp).1) (k + 1) w (by rw [if_neg (by omega)] at e; exact e.symm) (by omega) m (by omega)) rfl (by omega) (hM31.sub (List.nil_sublist _)) (by omega)
    ·
      have h1p : ¬ (((k : Nat) : Int) < (((List.length L) : Nat) : Int)) := of_decide_eq_false h1
      refine GoS.run [2] [.n, .n, .n, .n, .n] _ [.code (csub (cd Try.f14) [1,1,1,1])] [(2, .int .i64 0)] w (by kernel_rfl) .nil ?_
      refine GoS.ret (fn := Try.f14) (v := (.int .i64 0)) Try.func14 (by kernel_rfl) ?_
      rw [hR]
      have e := ckP_end (L := L) (k := k) (last := last) (by omega)
      rw [hF] at e
      exact ⟨ret_int e.symm, hM.sub (List.nil_sublist _)⟩

set_option maxHeartbeats 400000 in
theorem check_c {w : World} (u : Value) (L : PS) (X : Nat → Value) (hu : Rd w 2 u L.length (pcells L X)) (hX : ∀ j, j < L.length → Rd w 1 (X j) (L.getD j zp).2.length (ivals .i64 (L.getD j zp).2)) :
    Calls Try.prog 14 #[u] w (fun e w' => e = .returned (.int .i64 (ckP (-1) L)) ∧ Mem [] w w' []) := by
  have hLl := rd_len hu
  simp only [maxLen] at hLl
  obtain ⟨R, hR⟩ : ∃ R : Ending → World → Prop, R = (fun e w' => e = .returned (.int .i64 (ckP (-1) L)) ∧ Mem [] w w' []) := ⟨_, rfl⟩
  rw [← hR]
  refine GoS.enter (n := 45) Try.func14 (by kernel_rfl) rfl [(0, u)] (by kernel_rfl) (by kernel_rfl) ?_
  have hM0 := Mem.start w
  have o1 : (Builtin.len_ #[22] 3 #[u]).run Try.prog w = .ok (.int .i64 (((List.length L) : Nat) : Int)) w := f_slen sT22 (hu.kept0 hM0.kept) 3 _
  refine GoS.run [3, 9, 10, 11] [.n, .n, .n, .n, .n, .n, .n, .n, .n, .n, .n, .n, .h (.int .i64 (((List.length L) : Nat) : Int)), .n, .n, .n, .n] _ [.code (csub (cd Try.f14) [1,1,0,1,0,0]), .inLoop (csub (cd Try.f14) [1,1,0,1,0,0]), .inBlock 0, .code (csub (cd Try.f14) [1,1,1])] [(3, .int .i64 (-1)), (9, u), (10, .int .i64 (((List.length L) : Nat) : Int)), (11, .int .i64 0)] w (by kernel_rfl) (.cons o1 .nil) ?_
  exact check_L1 u L X hu hX (ckP (-1) L) R hR (L.length + 1) (-1) 0 w rfl (by omega) hM0 (by omega)


end Go.Proofs.Ythimiheeheaaaaa
