/-
  The walk of Tokens: the terms of a text.
-/
import Derived.Test.YtnhplkkbpmijdaaUtfG
import Derived.Test.YtnhplkkbpmijdaaUtfL
namespace Go.Proofs.Ytnhplkkbpmijdaa
open Go Go.Gw Go.UtfP Go.TokP Go.RowKit
set_option linter.unusedVariables false
set_option linter.unusedSimpArgs false

theorem sT43 : SliceT Try.prog 43 56 2 24 (.agg #[.string (sb ([])), .int .i64 0]) := ⟨by kernel_rfl, ⟨_, rfl, by kernel_rfl, by kernel_rfl, by kernel_rfl⟩, rfl, by decide⟩

set_option maxHeartbeats 400000 in
theorem tokens_L (s : List UInt8) {w0 : World} (h4 : ¬ 4096 < s.length) (hd : decE s = 0) (R : Ending → World → Prop) (hR : R = (fun e w' => ∃ v, e = .returned (.tuple #[v, .int .i64 (tokE s)]) ∧ Mem [] w0 w' [⟨56, 2, v, (List.length (tokL s)), (recs tokc (tokL s))⟩])) : ∀ (N : Nat) (vw vo vm : Value) (wd : List Int) (ws : List (List Int)) (k : Nat) (w : World) (hk : k ≤ (decL s ++ [32]).length) (hwl : wd.length ≤ k) (hw : words (decL s) = ws ++ wordsG wd ((decL s ++ [32]).drop k)) (hf : fits ws = true) (hal : allW wd = true) (hM : Mem [] w0 w [⟨3, 1, vw, (List.length wd), (ivals .i64 wd)⟩, ⟨56, 2, vo, (List.length (toks ws)), (recs tokc (toks ws))⟩, ⟨3, 1, vm, (List.length (decL s ++ [32])), (ivals .i64 (decL s ++ [32]))⟩]) (hN : (decL s ++ [32]).length - k < N), GoS Try.prog 26 R 62 [.code (csub (cd Try.f26) [1,1,1,1,1,1,0,1,0,0]), .inLoop (csub (cd Try.f26) [1,1,1,1,1,1,0,1,0,0]), .inBlock 0, .code (csub (cd Try.f26) [1,1,1,1,1,1,1])] [(6, vo), (7, vw), (27, vm), (28, .int .i64 (((List.length (decL s ++ [32])) : Nat) : Int)), (29, .int .i64 ((k : Nat) : Int))] w := by
  intro N
  induction N with
  | zero => intro vw vo vm wd ws k w hk hwl hw hf hal hM hN; exact absurd hN (Nat.not_lt_zero _)
  | succ N ih =>
    intro vw vo vm wd ws k w hk hwl hw hf hal hM hN
    have hq := @decL_len s
    have hml : (decL s ++ [32]).length = (decL s).length + 1 := by simp
    have hws := words_count hw
    have htk := toks_len ws
    refine GoS.run [6, 7, 27, 28, 29, 30] [.n, .n, .n, .n, .n] _ [.code (csub (cd Try.f26) [1,1,1,1,1,1,0,1,0,0,1,0]), .code (csub (cd Try.f26) [1,1,1,1,1,1,0,1,0,0,1,1]), .inLoop (csub (cd Try.f26) [1,1,1,1,1,1,0,1,0,0]), .inBlock 0, .code (csub (cd Try.f26) [1,1,1,1,1,1,1])] [(6, vo), (7, vw), (27, vm), (28, .int .i64 (((List.length (decL s ++ [32])) : Nat) : Int)), (29, .int .i64 ((k : Nat) : Int)), (30, .bool (decide (((k : Nat) : Int) < (((List.length (decL s ++ [32])) : Nat) : Int))))] w (by kernel_rfl) .nil ?_
    refine GoS.cond (decide (((k : Nat) : Int) < (((List.length (decL s ++ [32])) : Nat) : Int))) [.code (csub (cd Try.f26) [1,1,1,1,1,1,0,1,0,0,1,0,0]), .code (csub (cd Try.f26) [1,1,1,1,1,1,0,1,0,0,1,1]), .inLoop (csub (cd Try.f26) [1,1,1,1,1,1,0,1,0,0]), .inBlock 0, .code (csub (cd Try.f26) [1,1,1,1,1,1,1])] [.code (csub (cd Try.f26) [1,1,1,1,1,1,0,1,0,0,1,0,1]), .code (csub (cd Try.f26) [1,1,1,1,1,1,0,1,0,0,1,1]), .inLoop (csub (cd Try.f26) [1,1,1,1,1,1,0,1,0,0]), .inBlock 0, .code (csub (cd Try.f26) [1,1,1,1,1,1,1])] (by kernel_rfl) (fun h1 => ?_) (fun h1 => ?_)
    ·
      have h1p : ((k : Nat) : Int) < (((List.length (decL s ++ [32])) : Nat) : Int) := of_decide_eq_true h1
      refine GoS.run [6, 7, 27, 28, 29] [.n] _ [.code (csub (cd Try.f26) [1,1,1,1,1,1,0,1,0,0,1,1]), .inLoop (csub (cd Try.f26) [1,1,1,1,1,1,0,1,0,0]), .inBlock 0, .code (csub (cd Try.f26) [1,1,1,1,1,1,1])] [(6, vo), (7, vw), (27, vm), (28, .int .i64 (((List.length (decL s ++ [32])) : Nat) : Int)), (29, .int .i64 ((k : Nat) : Int))] w (by kernel_rfl) .nil ?_
      obtain ⟨p3, hp4, hq5⟩ := rd_at (i := ((k : Nat) : Int)) sT46 (hM.rd 2 rfl) k (by omega) (by first | omega | ((try dsimp only); omega))
      have o6 : (Instr.indexAt 46 (vm) (.int .i64 ((k : Nat) : Int))).run Try.prog w = .ok (.pointer (some p3)) w := hq5 _ _
      have o7 : (Instr.loadAt 3 (.pointer (some p3))).run Try.prog w = .ok (.int .i64 (List.getD (decL s ++ [32]) k 0)) w := at_load pE3 (hM.rd 2 rfl) hp4 (ivals_at (by first | omega | ((try dsimp only); omega)))
      refine GoS.run [6, 7, 9, 27, 28, 29, 33] [.n, .n, .n, .n, .h (.pointer (some p3)), .h (.int .i64 (List.getD (decL s ++ [32]) k 0)), .n, .n, .n, .n, .n, .n] _ [.inRegion (cops (csub (cd Try.f26) [1,1,1,1,1,1,0,1,0,0,1,1,0,0,1,0,0])) [1], .code (csub (cd Try.f26) [1,1,1,1,1,1,0,1,0,0,1,1,0,0,1,0,1]), .code (csub (cd Try.f26) [1,1,1,1,1,1,0,1,0,0,1,1,0,0,1,1]), .inBlock 1, .code (csub (cd Try.f26) [1,1,1,1,1,1,0,1,0,0,1,1,1]), .inLoop (csub (cd Try.f26) [1,1,1,1,1,1,0,1,0,0]), .inBlock 0, .code (csub (cd Try.f26) [1,1,1,1,1,1,1])] [(6, vo), (7, vw), (9, .int .i64 (List.getD (decL s ++ [32]) k 0)), (27, vm), (28, .int .i64 (((List.length (decL s ++ [32])) : Nat) : Int)), (29, .int .i64 ((k : Nat) : Int)), (33, .int .i64 (List.getD (decL s ++ [32]) k 0))] w (by kernel_rfl) (.cons o6 (.cons o7 .nil)) ?_
      refine GoS.call [6, 7, 9, 27, 28, 29] 34 #[.int .i64 (List.getD (decL s ++ [32]) k 0)] (some 34) [.inRegion (cops (csub (cd Try.f26) [1,1,1,1,1,1,0,1,0,0,1,1,0,0,1,0,0])) [], .code (csub (cd Try.f26) [1,1,1,1,1,1,0,1,0,0,1,1,0,0,1,0,1]), .code (csub (cd Try.f26) [1,1,1,1,1,1,0,1,0,0,1,1,0,0,1,1]), .inBlock 1, .code (csub (cd Try.f26) [1,1,1,1,1,1,0,1,0,0,1,1,1]), .inLoop (csub (cd Try.f26) [1,1,1,1,1,1,0,1,0,0]), .inBlock 0, .code (csub (cd Try.f26) [1,1,1,1,1,1,1])] [(6, vo), (7, vw), (9, .int .i64 (List.getD (decL s ++ [32]) k 0)), (27, vm), (28, .int .i64 (((List.length (decL s ++ [32])) : Nat) : Int)), (29, .int .i64 ((k : Nat) : Int))] (by kernel_rfl) (letter_c (List.getD (decL s ++ [32]) k 0) w) ?_
      rintro _ _ ⟨rfl, rfl⟩
      refine ⟨_, rfl, ?_⟩
      refine GoS.run [6, 7, 9, 27, 28, 29, 34] [.n] _ [.code (csub (cd Try.f26) [1,1,1,1,1,1,0,1,0,0,1,1,0,0,1,0,1]), .code (csub (cd Try.f26) [1,1,1,1,1,1,0,1,0,0,1,1,0,0,1,1]), .inBlock 1, .code (csub (cd Try.f26) [1,1,1,1,1,1,0,1,0,0,1,1,1]), .inLoop (csub (cd Try.f26) [1,1,1,1,1,1,0,1,0,0]), .inBlock 0, .code (csub (cd Try.f26) [1,1,1,1,1,1,1])] [(6, vo), (7, vw), (9, .int .i64 (List.getD (decL s ++ [32]) k 0)), (27, vm), (28, .int .i64 (((List.length (decL s ++ [32])) : Nat) : Int)), (29, .int .i64 ((k : Nat) : Int)), (34, .bool (letter (List.getD (decL s ++ [32]) k 0)))] w (by kernel_rfl) .nil ?_
      refine GoS.cond (letter (List.getD (decL s ++ [32]) k 0)) [.code (csub (cd Try.f26) [1,1,1,1,1,1,0,1,0,0,1,1,0,0,1,0,1,0]), .code (csub (cd Try.f26) [1,1,1,1,1,1,0,1,0,0,1,1,0,0,1,1]), .inBlock 1, .code (csub (cd Try.f26) [1,1,1,1,1,1,0,1,0,0,1,1,1]), .inLoop (csub (cd Try.f26) [1,1,1,1,1,1,0,1,0,0]), .inBlock 0, .code (csub (cd Try.f26) [1,1,1,1,1,1,1])] [.code (csub (cd Try.f26) [1,1,1,1,1,1,0,1,0,0,1,1,0,0,1,0,1,1]), .code (csub (cd Try.f26) [1,1,1,1,1,1,0,1,0,0,1,1,0,0,1,1]), .inBlock 1, .code (csub (cd Try.f26) [1,1,1,1,1,1,0,1,0,0,1,1,1]), .inLoop (csub (cd Try.f26) [1,1,1,1,1,1,0,1,0,0]), .inBlock 0, .code (csub (cd Try.f26) [1,1,1,1,1,1,1])] (by kernel_rfl) (fun h8 => ?_) (fun h8 => ?_)
      ·
        refine GoS.run [6, 27, 28, 29, 35, 36] [.n, .n, .n, .n] _ [.inRegion (cops (csub (cd Try.f26) [1,1,1,1,1,1,0,1,0,0,1,1,0,0,1,0,1,0,0])) [2,3,4,5], .code (csub (cd Try.f26) [1,1,1,1,1,1,0,1,0,0,1,1,0,0,1,0,1,0,1]), .code (csub (cd Try.f26) [1,1,1,1,1,1,0,1,0,0,1,1,0,0,1,1]), .inBlock 1, .code (csub (cd Try.f26) [1,1,1,1,1,1,0,1,0,0,1,1,1]), .inLoop (csub (cd Try.f26) [1,1,1,1,1,1,0,1,0,0]), .inBlock 0, .code (csub (cd Try.f26) [1,1,1,1,1,1,1])] [(6, vo), (27, vm), (28, .int .i64 (((List.length (decL s ++ [32])) : Nat) : Int)), (29, .int .i64 ((k : Nat) : Int)), (35, vw), (36, .int .i64 (List.getD (decL s ++ [32]) k 0))] w (by kernel_rfl) .nil ?_
        refine GoS.call [6, 27, 28, 29, 35] 35 #[.int .i64 (List.getD (decL s ++ [32]) k 0)] (some 37) [.inRegion (cops (csub (cd Try.f26) [1,1,1,1,1,1,0,1,0,0,1,1,0,0,1,0,1,0,0])) [3,4,5], .code (csub (cd Try.f26) [1,1,1,1,1,1,0,1,0,0,1,1,0,0,1,0,1,0,1]), .code (csub (cd Try.f26) [1,1,1,1,1,1,0,1,0,0,1,1,0,0,1,1]), .inBlock 1, .code (csub (cd Try.f26) [1,1,1,1,1,1,0,1,0,0,1,1,1]), .inLoop (csub (cd Try.f26) [1,1,1,1,1,1,0,1,0,0]), .inBlock 0, .code (csub (cd Try.f26) [1,1,1,1,1,1,1])] [(6, vo), (27, vm), (28, .int .i64 (((List.length (decL s ++ [32])) : Nat) : Int)), (29, .int .i64 ((k : Nat) : Int)), (35, vw)] (by kernel_rfl) (fold_c (List.getD (decL s ++ [32]) k 0) w) ?_
        rintro _ _ ⟨rfl, rfl⟩
        refine ⟨_, rfl, ?_⟩
        obtain ⟨v9, w10, hr11, hM12⟩ := m_lit sT46 hM (n := 1) (parts := #[(0, .int .i64 (fold (List.getD (decL s ++ [32]) k 0)))]) (cs := [.int .i64 (fold (List.getD (decL s ++ [32]) k 0))]) (by decide) (by kernel_rfl) rfl
        obtain ⟨v13, w14, hr15, hM16⟩ := m_append sT46 hM12 1 rfl (hM12.rd 0 rfl) (by intro u hu; simp at hu; rcases hu with rfl <;> rfl) (by first | omega | ((try dsimp only); omega) | ((try dsimp only); rw [List.length_append] at *; simp at *; omega) | ((try dsimp only); rw [toks_len]; omega)) (by first | omega | ((try dsimp only); omega) | ((try dsimp only); rw [List.length_append] at *; simp at *; omega) | ((try dsimp only); rw [toks_len]; omega)) 46
        have hM17 : Mem [] w0 w14 [⟨3, 1, v9, 1, [.int .i64 (fold (List.getD (decL s ++ [32]) k 0))]⟩, ⟨3, 1, v13, (List.length (wd ++ ([(fold (List.getD (decL s ++ [32]) k 0))] : List Int))), (ivals .i64 (wd ++ ([(fold (List.getD (decL s ++ [32]) k 0))] : List Int)))⟩, ⟨56, 2, vo, (List.length (toks ws)), (recs tokc (toks ws))⟩, ⟨3, 1, vm, (List.length (decL s ++ [32])), (ivals .i64 (decL s ++ [32]))⟩] := hM16.cast (by simp [ivals, svals, bvals, nvals, u8s, Nat.add_assoc])
        have o18 : (binOp .add 3 (.int .i64 ((k : Nat) : Int)) (.int .i64 1)).run Try.prog w14 = .ok (.int .i64 (((k + 1) : Nat) : Int)) w14 := f_add (by rw [show ((k : Nat) : Int) + 1 = (((k + 1) : Nat) : Int) by omega]; exact IntWalk.i64_in _ (by omega))
        have hM19 : Mem [] w0 w14 [⟨3, 1, v13, (List.length (wd ++ ([(fold (List.getD (decL s ++ [32]) k 0))] : List Int))), (ivals .i64 (wd ++ ([(fold (List.getD (decL s ++ [32]) k 0))] : List Int)))⟩, ⟨56, 2, vo, (List.length (toks ws)), (recs tokc (toks ws))⟩, ⟨3, 1, vm, (List.length (decL s ++ [32])), (ivals .i64 (decL s ++ [32]))⟩] := hM17.sub (List.Sublist.cons _ (List.Sublist.cons_cons _ (List.Sublist.cons_cons _ (List.Sublist.cons_cons _ (List.Sublist.refl _)))))
        refine GoS.run [6, 7, 27, 28, 29] [.u (v9) (w10), .u (v13) (w14), .n, .n, .n, .n, .h (.int .i64 (((k + 1) : Nat) : Int)), .n, .n, .n] _ [.code (csub (cd Try.f26) [1,1,1,1,1,1,0,1,0,0]), .inLoop (csub (cd Try.f26) [1,1,1,1,1,1,0,1,0,0]), .inBlock 0, .code (csub (cd Try.f26) [1,1,1,1,1,1,1])] [(6, vo), (7, v13), (27, vm), (28, .int .i64 (((List.length (decL s ++ [32])) : Nat) : Int)), (29, .int .i64 (((k + 1) : Nat) : Int))] w14 (by kernel_rfl) (.cons hr11 (.cons hr15 (.cons o18 .nil))) ?_
        exact ih v13 vo vm (wd ++ [fold (List.getD (decL s ++ [32]) k 0)]) ws (k + 1) _ (by omega) (by rw [List.length_append, List.length_singleton]; omega) (by rw [hw, words_letter (by omega) h8]) hf (allW_snoc hal h8) (hM19.cast (by simp)) (by omega)
      ·
        refine GoS.run [6, 7, 27, 28, 29] [.n] _ [.code (csub (cd Try.f26) [1,1,1,1,1,1,0,1,0,0,1,1,0,0,1,1]), .inBlock 1, .code (csub (cd Try.f26) [1,1,1,1,1,1,0,1,0,0,1,1,1]), .inLoop (csub (cd Try.f26) [1,1,1,1,1,1,0,1,0,0]), .inBlock 0, .code (csub (cd Try.f26) [1,1,1,1,1,1,1])] [(6, vo), (7, vw), (27, vm), (28, .int .i64 (((List.length (decL s ++ [32])) : Nat) : Int)), (29, .int .i64 ((k : Nat) : Int))] w (by kernel_rfl) .nil ?_
        have o20 : (Builtin.len_ #[46] 3 #[vw]).run Try.prog w = .ok (.int .i64 (((List.length wd) : Nat) : Int)) w := f_slen sT46 (hM.rd 0 rfl) 3 _
        refine GoS.run [6, 7, 27, 28, 29, 42] [.n, .n, .n, .n, .h (.int .i64 (((List.length wd) : Nat) : Int)), .n, .n] _ [.code (csub (cd Try.f26) [1,1,1,1,1,1,0,1,0,0,1,1,0,0,1,1,0,1]), .code (csub (cd Try.f26) [1,1,1,1,1,1,0,1,0,0,1,1,0,0,1,1,1]), .inBlock 1, .code (csub (cd Try.f26) [1,1,1,1,1,1,0,1,0,0,1,1,1]), .inLoop (csub (cd Try.f26) [1,1,1,1,1,1,0,1,0,0]), .inBlock 0, .code (csub (cd Try.f26) [1,1,1,1,1,1,1])] [(6, vo), (7, vw), (27, vm), (28, .int .i64 (((List.length (decL s ++ [32])) : Nat) : Int)), (29, .int .i64 ((k : Nat) : Int)), (42, .bool ((((List.length wd) : Nat) : Int) == 0))] w (by kernel_rfl) (.cons o20 .nil) ?_
        refine GoS.cond ((((List.length wd) : Nat) : Int) == 0) [.code (csub (cd Try.f26) [1,1,1,1,1,1,0,1,0,0,1,1,0,0,1,1,0,1,0]), .code (csub (cd Try.f26) [1,1,1,1,1,1,0,1,0,0,1,1,0,0,1,1,1]), .inBlock 1, .code (csub (cd Try.f26) [1,1,1,1,1,1,0,1,0,0,1,1,1]), .inLoop (csub (cd Try.f26) [1,1,1,1,1,1,0,1,0,0]), .inBlock 0, .code (csub (cd Try.f26) [1,1,1,1,1,1,1])] [.code (csub (cd Try.f26) [1,1,1,1,1,1,0,1,0,0,1,1,0,0,1,1,0,1,1]), .code (csub (cd Try.f26) [1,1,1,1,1,1,0,1,0,0,1,1,0,0,1,1,1]), .inBlock 1, .code (csub (cd Try.f26) [1,1,1,1,1,1,0,1,0,0,1,1,1]), .inLoop (csub (cd Try.f26) [1,1,1,1,1,1,0,1,0,0]), .inBlock 0, .code (csub (cd Try.f26) [1,1,1,1,1,1,1])] (by kernel_rfl) (fun h21 => ?_) (fun h21 => ?_)
        ·
          have h21p : (((List.length wd) : Nat) : Int) = 0 := eq_of_beq h21
          have o22 : (binOp .add 3 (.int .i64 ((k : Nat) : Int)) (.int .i64 1)).run Try.prog w = .ok (.int .i64 (((k + 1) : Nat) : Int)) w := f_add (by rw [show ((k : Nat) : Int) + 1 = (((k + 1) : Nat) : Int) by omega]; exact IntWalk.i64_in _ (by omega))
          refine GoS.run [6, 7, 27, 28, 29] [.n, .n, .h (.int .i64 (((k + 1) : Nat) : Int)), .n, .n, .n] _ [.code (csub (cd Try.f26) [1,1,1,1,1,1,0,1,0,0]), .inLoop (csub (cd Try.f26) [1,1,1,1,1,1,0,1,0,0]), .inBlock 0, .code (csub (cd Try.f26) [1,1,1,1,1,1,1])] [(6, vo), (7, vw), (27, vm), (28, .int .i64 (((List.length (decL s ++ [32])) : Nat) : Int)), (29, .int .i64 (((k + 1) : Nat) : Int))] w (by kernel_rfl) (.cons o22 .nil) ?_
          obtain rfl : wd = [] := List.eq_nil_of_length_eq_zero (by omega)
          exact ih vw vo vm [] ws (k + 1) _ (by omega) (by simp) (by rw [hw, words_blank (by omega) h8]) hf hal hM (by omega)
        ·
          have h21p : ¬ ((((List.length wd) : Nat) : Int) = 0) := p_ne h21
          refine GoS.run [6, 7, 27, 28, 29] [.n] _ [.code (csub (cd Try.f26) [1,1,1,1,1,1,0,1,0,0,1,1,0,0,1,1,1]), .inBlock 1, .code (csub (cd Try.f26) [1,1,1,1,1,1,0,1,0,0,1,1,1]), .inLoop (csub (cd Try.f26) [1,1,1,1,1,1,0,1,0,0]), .inBlock 0, .code (csub (cd Try.f26) [1,1,1,1,1,1,1])] [(6, vo), (7, vw), (27, vm), (28, .int .i64 (((List.length (decL s ++ [32])) : Nat) : Int)), (29, .int .i64 ((k : Nat) : Int))] w (by kernel_rfl) .nil ?_
          refine GoS.run [6, 7, 27, 28, 29, 44] [.n, .n, .n] _ [.inRegion (cops (csub (cd Try.f26) [1,1,1,1,1,1,0,1,0,0,1,1,0,0,1,1,1,0])) [1,2,3,4,5,6], .code (csub (cd Try.f26) [1,1,1,1,1,1,0,1,0,0,1,1,0,0,1,1,1,1]), .inBlock 1, .code (csub (cd Try.f26) [1,1,1,1,1,1,0,1,0,0,1,1,1]), .inLoop (csub (cd Try.f26) [1,1,1,1,1,1,0,1,0,0]), .inBlock 0, .code (csub (cd Try.f26) [1,1,1,1,1,1,1])] [(6, vo), (7, vw), (27, vm), (28, .int .i64 (((List.length (decL s ++ [32])) : Nat) : Int)), (29, .int .i64 ((k : Nat) : Int)), (44, vw)] w (by kernel_rfl) .nil ?_
          refine GoS.call [6, 7, 27, 28, 29] 36 #[vw] (some 45) [.inRegion (cops (csub (cd Try.f26) [1,1,1,1,1,1,0,1,0,0,1,1,0,0,1,1,1,0])) [2,3,4,5,6], .code (csub (cd Try.f26) [1,1,1,1,1,1,0,1,0,0,1,1,0,0,1,1,1,1]), .inBlock 1, .code (csub (cd Try.f26) [1,1,1,1,1,1,0,1,0,0,1,1,1]), .inLoop (csub (cd Try.f26) [1,1,1,1,1,1,0,1,0,0]), .inBlock 0, .code (csub (cd Try.f26) [1,1,1,1,1,1,1])] [(6, vo), (7, vw), (27, vm), (28, .int .i64 (((List.length (decL s ++ [32])) : Nat) : Int)), (29, .int .i64 ((k : Nat) : Int))] (by kernel_rfl) (encode_c vw wd w (hM.rd 0 rfl) (by first | omega | ((try dsimp only); omega))) ?_
          rintro _ w23 ⟨rfl, m24⟩
          refine ⟨_, rfl, ?_⟩
          have hM25 := Mem.join hM m24
          have o26 : (Builtin.len_ #[9] 3 #[.string (sb (encT wd))]).run Try.prog w23 = .ok (.int .i64 (((encT wd).length : Nat) : Int)) w23 := f_len (by kernel_rfl)
          refine GoS.run [6, 7, 10, 27, 28, 29, 50] [.n, .n, .n, .n, .n, .n, .n, .n, .n, .n, .h (.int .i64 (((encT wd).length : Nat) : Int)), .n, .n] _ [.code (csub (cd Try.f26) [1,1,1,1,1,1,0,1,0,0,1,1,0,0,1,1,1,1,0,1]), .code (csub (cd Try.f26) [1,1,1,1,1,1,0,1,0,0,1,1,0,0,1,1,1,1,1]), .inBlock 1, .code (csub (cd Try.f26) [1,1,1,1,1,1,0,1,0,0,1,1,1]), .inLoop (csub (cd Try.f26) [1,1,1,1,1,1,0,1,0,0]), .inBlock 0, .code (csub (cd Try.f26) [1,1,1,1,1,1,1])] [(6, vo), (7, vw), (10, .string (sb (encT wd))), (27, vm), (28, .int .i64 (((List.length (decL s ++ [32])) : Nat) : Int)), (29, .int .i64 ((k : Nat) : Int)), (50, .bool (decide ((((encT wd).length : Nat) : Int) > 64)))] w23 (by kernel_rfl) (.cons o26 .nil) ?_
          refine GoS.cond (decide ((((encT wd).length : Nat) : Int) > 64)) [.code (csub (cd Try.f26) [1,1,1,1,1,1,0,1,0,0,1,1,0,0,1,1,1,1,0,1,0]), .code (csub (cd Try.f26) [1,1,1,1,1,1,0,1,0,0,1,1,0,0,1,1,1,1,1]), .inBlock 1, .code (csub (cd Try.f26) [1,1,1,1,1,1,0,1,0,0,1,1,1]), .inLoop (csub (cd Try.f26) [1,1,1,1,1,1,0,1,0,0]), .inBlock 0, .code (csub (cd Try.f26) [1,1,1,1,1,1,1])] [.code (csub (cd Try.f26) [1,1,1,1,1,1,0,1,0,0,1,1,0,0,1,1,1,1,0,1,1]), .code (csub (cd Try.f26) [1,1,1,1,1,1,0,1,0,0,1,1,0,0,1,1,1,1,1]), .inBlock 1, .code (csub (cd Try.f26) [1,1,1,1,1,1,0,1,0,0,1,1,1]), .inLoop (csub (cd Try.f26) [1,1,1,1,1,1,0,1,0,0]), .inBlock 0, .code (csub (cd Try.f26) [1,1,1,1,1,1,1])] (by kernel_rfl) (fun h27 => ?_) (fun h27 => ?_)
          ·
            have h27p : (((encT wd).length : Nat) : Int) > 64 := of_decide_eq_true h27
            have hM28 : Mem [] w0 w23 [] := hM25.sub (List.Sublist.cons _ (List.Sublist.cons _ (List.Sublist.cons _ (List.Sublist.refl _))))
            refine GoS.run [2, 3] [.n, .n, .n, .n, .n] _ [.code (csub (cd Try.f26) [1,1,1,1,1,1,0,1,0,0,1,1,0,0,1,1,1,1,0,1,0,1]), .code (csub (cd Try.f26) [1,1,1,1,1,1,0,1,0,0,1,1,0,0,1,1,1,1,1]), .inBlock 1, .code (csub (cd Try.f26) [1,1,1,1,1,1,0,1,0,0,1,1,1]), .inLoop (csub (cd Try.f26) [1,1,1,1,1,1,0,1,0,0]), .inBlock 0, .code (csub (cd Try.f26) [1,1,1,1,1,1,1])] [(2, .slice none 0 0), (3, .int .i64 4)] w23 (by kernel_rfl) .nil ?_
            refine GoS.ret (fn := Try.f26) (v := (.tuple #[.slice none 0 0, .int .i64 4])) Try.func26 (by kernel_rfl) ?_
            rw [hR]
            obtain ⟨e1, e2⟩ := tok_no h4 hd (by rw [hw, words_end (by omega) h8 (ne_of_len h21)]; exact fits_no (by rw [← encT_of hal]; omega))
            exact ⟨_, by rw [e2], by rw [e1]; exact hM28.nilrow 56 2⟩
          ·
            have h27p : ¬ ((((encT wd).length : Nat) : Int) > 64) := of_decide_eq_false h27
            refine GoS.run [6, 7, 10, 27, 28, 29] [.n] _ [.code (csub (cd Try.f26) [1,1,1,1,1,1,0,1,0,0,1,1,0,0,1,1,1,1,1]), .inBlock 1, .code (csub (cd Try.f26) [1,1,1,1,1,1,0,1,0,0,1,1,1]), .inLoop (csub (cd Try.f26) [1,1,1,1,1,1,0,1,0,0]), .inBlock 0, .code (csub (cd Try.f26) [1,1,1,1,1,1,1])] [(6, vo), (7, vw), (10, .string (sb (encT wd))), (27, vm), (28, .int .i64 (((List.length (decL s ++ [32])) : Nat) : Int)), (29, .int .i64 ((k : Nat) : Int))] w23 (by kernel_rfl) .nil ?_
            have o39 : (Builtin.len_ #[43] 3 #[vo]).run Try.prog w23 = .ok (.int .i64 (((List.length (toks ws)) : Nat) : Int)) w23 := f_slen sT43 (hM25.rd 1 rfl) 3 _
            obtain ⟨v29, w30, hr31, hM32⟩ := m_lit sT43 hM25 (n := 1) (parts := #[(0, .agg #[.string (sb (encT wd)), .int .i64 (((List.length (toks ws)) : Nat) : Int)])]) (cs := [.string (sb (encT wd)), .int .i64 (((List.length (toks ws)) : Nat) : Int)]) (by decide) (by kernel_rfl) rfl
            obtain ⟨v33, w34, hr35, hM36⟩ := m_append sT43 hM32 2 rfl (hM32.rd 0 rfl) (by intro u hu; simp at hu; rcases hu with rfl | rfl <;> rfl) (by first | omega | ((try dsimp only); omega) | ((try dsimp only); rw [List.length_append] at *; simp at *; omega) | ((try dsimp only); rw [toks_len]; omega)) (by first | omega | ((try dsimp only); omega) | ((try dsimp only); rw [List.length_append] at *; simp at *; omega) | ((try dsimp only); rw [toks_len]; omega)) 43
            have hM37 : Mem [] w0 w34 [⟨56, 2, v29, 1, [.string (sb (encT wd)), .int .i64 (((List.length (toks ws)) : Nat) : Int)]⟩, ⟨3, 1, vw, (List.length wd), (ivals .i64 wd)⟩, ⟨56, 2, v33, (List.length ((toks ws) ++ ([(Tok.mk (encT wd) (((List.length (toks ws)) : Nat) : Int))] : List Tok))), (recs tokc ((toks ws) ++ ([(Tok.mk (encT wd) (((List.length (toks ws)) : Nat) : Int))] : List Tok)))⟩, ⟨3, 1, vm, (List.length (decL s ++ [32])), (ivals .i64 (decL s ++ [32]))⟩] := hM36.cast (by simp [ivals, svals, bvals, nvals, u8s, Nat.add_assoc, recs, tokc])
            have hM38 : Mem [] w0 w34 [⟨56, 2, v29, 1, [.string (sb (encT wd)), .int .i64 (((List.length (toks ws)) : Nat) : Int)]⟩, ⟨3, 1, (cut vw 0), 0, (ivals .i64 ([] : List Int))⟩, ⟨56, 2, v33, (List.length ((toks ws) ++ ([(Tok.mk (encT wd) (((List.length (toks ws)) : Nat) : Int))] : List Tok))), (recs tokc ((toks ws) ++ ([(Tok.mk (encT wd) (((List.length (toks ws)) : Nat) : Int))] : List Tok)))⟩, ⟨3, 1, vm, (List.length (decL s ++ [32])), (ivals .i64 (decL s ++ [32]))⟩] := (Mem.cutrow hM37 1 rfl 0 (by first | omega | ((try dsimp only); omega))).cast (by simp [ivals, nvals, u8s, svals, bvals, List.map_take])
            have o40 : (Instr.sliceAt 46 (vw) none (some (.int .i64 0)) none).run Try.prog w34 = .ok (cut vw 0) w34 := f_cut0 sT46 (hM37.rd 1 rfl) 0 (by omega) (by first | omega | ((try dsimp only); omega)) _ _
            have o41 : (binOp .add 3 (.int .i64 ((k : Nat) : Int)) (.int .i64 1)).run Try.prog w34 = .ok (.int .i64 (((k + 1) : Nat) : Int)) w34 := f_add (by rw [show ((k : Nat) : Int) + 1 = (((k + 1) : Nat) : Int) by omega]; exact IntWalk.i64_in _ (by omega))
            have hM42 : Mem [] w0 w34 [⟨3, 1, (cut vw 0), 0, (ivals .i64 ([] : List Int))⟩, ⟨56, 2, v33, (List.length ((toks ws) ++ ([(Tok.mk (encT wd) (((List.length (toks ws)) : Nat) : Int))] : List Tok))), (recs tokc ((toks ws) ++ ([(Tok.mk (encT wd) (((List.length (toks ws)) : Nat) : Int))] : List Tok)))⟩, ⟨3, 1, vm, (List.length (decL s ++ [32])), (ivals .i64 (decL s ++ [32]))⟩] := hM38.sub (List.Sublist.cons _ (List.Sublist.cons_cons _ (List.Sublist.cons_cons _ (List.Sublist.cons_cons _ (List.Sublist.refl _)))))
            refine GoS.run [6, 7, 27, 28, 29] [.n, .n, .n, .n, .n, .h (.int .i64 (((List.length (toks ws)) : Nat) : Int)), .n, .u (v29) (w30), .u (v33) (w34), .n, .n, .n, .n, .h ((cut vw 0)), .n, .n, .n, .n, .h (.int .i64 (((k + 1) : Nat) : Int)), .n, .n, .n] _ [.code (csub (cd Try.f26) [1,1,1,1,1,1,0,1,0,0]), .inLoop (csub (cd Try.f26) [1,1,1,1,1,1,0,1,0,0]), .inBlock 0, .code (csub (cd Try.f26) [1,1,1,1,1,1,1])] [(6, v33), (7, (cut vw 0)), (27, vm), (28, .int .i64 (((List.length (decL s ++ [32])) : Nat) : Int)), (29, .int .i64 (((k + 1) : Nat) : Int))] w34 (by kernel_rfl) (.cons o39 (.cons hr31 (.cons hr35 (.cons o40 (.cons o41 .nil))))) ?_
            have hwl : termB wd = encT wd := (encT_of hal).symm
            exact ih (cut vw 0) v33 vm [] (ws ++ [wd]) (k + 1) _ (by omega) (by simp) (by rw [hw, words_end (by omega) h8 (ne_of_len h21), List.append_assoc]; rfl) (fits_snoc hf (by rw [hwl]; omega)) rfl (hM42.cast (by rw [toks_snoc, hwl]; simp [toks_len])) (by omega)
    ·
      have h1p : ¬ (((k : Nat) : Int) < (((List.length (decL s ++ [32])) : Nat) : Int)) := of_decide_eq_false h1
      have hM2 : Mem [] w0 w [⟨56, 2, vo, (List.length (toks ws)), (recs tokc (toks ws))⟩] := hM.sub (List.Sublist.cons _ (List.Sublist.cons_cons _ (List.Sublist.cons _ (List.Sublist.refl _))))
      refine GoS.run [2, 3] [.n, .n, .n, .n, .n, .n, .n] _ [.code (csub (cd Try.f26) [1,1,1,1,1,1,1,1])] [(2, vo), (3, .int .i64 0)] w (by kernel_rfl) .nil ?_
      refine GoS.ret (fn := Try.f26) (v := (.tuple #[vo, .int .i64 0])) Try.func26 (by kernel_rfl) ?_
      rw [hR]
      have e0 : words (decL s) = ws := by rw [hw, List.drop_of_length_le (by omega)]; simp [wordsG]
      obtain ⟨e1, e2⟩ := tok_yes h4 hd e0 hf
      exact ⟨_, by rw [e2], by rw [e1]; exact hM2⟩

set_option maxHeartbeats 400000 in
theorem tokens_c (s : List UInt8) (w : World) :
    Calls Try.prog 26 #[.string (sb s)] w (fun e w' => ∃ v, e = .returned (.tuple #[v, .int .i64 (tokE s)]) ∧ Mem [] w w' [⟨56, 2, v, (List.length (tokL s)), (recs tokc (tokL s))⟩]) := by
  have hq := @decL_len s
  obtain ⟨R, hR⟩ : ∃ R : Ending → World → Prop, R = (fun e w' => ∃ v, e = .returned (.tuple #[v, .int .i64 (tokE s)]) ∧ Mem [] w w' [⟨56, 2, v, (List.length (tokL s)), (recs tokc (tokL s))⟩]) := ⟨_, rfl⟩
  rw [← hR]
  refine GoS.enter (n := 62) Try.func26 (by kernel_rfl) rfl [(0, .string (sb s))] (by kernel_rfl) (by kernel_rfl) ?_
  have hM0 := Mem.start w
  have o1 : (Builtin.len_ #[9] 3 #[.string (sb s)]).run Try.prog w = .ok (.int .i64 ((s.length : Nat) : Int)) w := f_len (by kernel_rfl)
  refine GoS.run [0, 14] [.n, .n, .n, .n, .n, .n, .n, .n, .n, .h (.int .i64 ((s.length : Nat) : Int)), .n, .n] _ [.code (csub (cd Try.f26) [1,0,1]), .code (csub (cd Try.f26) [1,1])] [(0, .string (sb s)), (14, .bool (decide (((s.length : Nat) : Int) > 4096)))] w (by kernel_rfl) (.cons o1 .nil) ?_
  refine GoS.cond (decide (((s.length : Nat) : Int) > 4096)) [.code (csub (cd Try.f26) [1,0,1,0]), .code (csub (cd Try.f26) [1,1])] [.code (csub (cd Try.f26) [1,0,1,1]), .code (csub (cd Try.f26) [1,1])] (by kernel_rfl) (fun h2 => ?_) (fun h2 => ?_)
  ·
    have h2p : ((s.length : Nat) : Int) > 4096 := of_decide_eq_true h2
    refine GoS.run [2, 3] [.n, .n, .n, .n, .n] _ [.code (csub (cd Try.f26) [1,0,1,0,1]), .code (csub (cd Try.f26) [1,1])] [(2, .slice none 0 0), (3, .int .i64 4)] w (by kernel_rfl) .nil ?_
    refine GoS.ret (fn := Try.f26) (v := (.tuple #[.slice none 0 0, .int .i64 4])) Try.func26 (by kernel_rfl) ?_
    rw [hR]
    obtain ⟨e1, e2⟩ := tok_long (s := s) (by omega)
    exact ⟨_, by rw [e2], by rw [e1]; exact hM0.nilrow 56 2⟩
  ·
    have h2p : ¬ (((s.length : Nat) : Int) > 4096) := of_decide_eq_false h2
    refine GoS.run [0] [.n] _ [.code (csub (cd Try.f26) [1,1])] [(0, .string (sb s))] w (by kernel_rfl) .nil ?_
    refine GoS.run [16] [.n, .n, .n] _ [.inRegion (cops (csub (cd Try.f26) [1,1,0])) [1,2,3,4,5,6], .code (csub (cd Try.f26) [1,1,1])] [(16, .string (sb s))] w (by kernel_rfl) .nil ?_
    refine GoS.call [] 33 #[.string (sb s)] (some 17) [.inRegion (cops (csub (cd Try.f26) [1,1,0])) [2,3,4,5,6], .code (csub (cd Try.f26) [1,1,1])] [] (by kernel_rfl) (decode_c s (by first | omega | ((try dsimp only); omega)) w) ?_
    rintro _ w3 ⟨v6, rfl, m4⟩
    refine ⟨_, rfl, ?_⟩
    have hM5 := Mem.join hM0 m4
    refine GoS.run [4, 5, 21] [.n, .n, .n, .n, .n, .n, .n, .n, .n, .n, .n, .n] _ [.code (csub (cd Try.f26) [1,1,1,0,1]), .code (csub (cd Try.f26) [1,1,1,1])] [(4, v6), (5, .int .i64 (decE s)), (21, .bool ((decE s) != 0))] w3 (by kernel_rfl) .nil ?_
    refine GoS.cond ((decE s) != 0) [.code (csub (cd Try.f26) [1,1,1,0,1,0]), .code (csub (cd Try.f26) [1,1,1,1])] [.code (csub (cd Try.f26) [1,1,1,0,1,1]), .code (csub (cd Try.f26) [1,1,1,1])] (by kernel_rfl) (fun h7 => ?_) (fun h7 => ?_)
    ·
      have h7p : ¬ ((decE s) = 0) := bne_iff_ne.1 h7
      have hM8 : Mem [] w w3 [] := hM5.sub (List.Sublist.cons _ (List.Sublist.refl _))
      refine GoS.run [2, 3] [.n, .n, .n, .n, .n, .n] _ [.code (csub (cd Try.f26) [1,1,1,0,1,0,1]), .code (csub (cd Try.f26) [1,1,1,1])] [(2, .slice none 0 0), (3, .int .i64 (decE s))] w3 (by kernel_rfl) .nil ?_
      refine GoS.ret (fn := Try.f26) (v := (.tuple #[.slice none 0 0, .int .i64 (decE s)])) Try.func26 (by kernel_rfl) ?_
      rw [hR]
      obtain ⟨e1, e2⟩ := tok_bad (s := s) (by omega) (bne_iff_ne.1 h7)
      exact ⟨_, by rw [e2], by rw [e1]; exact hM8.nilrow 56 2⟩
    ·
      have h7p : (decE s) = 0 := p_eq h7
      refine GoS.run [4] [.n] _ [.code (csub (cd Try.f26) [1,1,1,1])] [(4, v6)] w3 (by kernel_rfl) .nil ?_
      obtain ⟨v9, w10, hr11, hM12⟩ := m_lit sT43 hM5 (n := 0) (parts := #[]) (cs := []) (by decide) (by kernel_rfl) rfl
      obtain ⟨v13, w14, hr15, hM16⟩ := m_lit sT46 hM12 (n := 0) (parts := #[]) (cs := []) (by decide) (by kernel_rfl) rfl
      obtain ⟨v17, w18, hr19, hM20⟩ := m_lit sT46 hM16 (n := 1) (parts := #[(0, .int .i64 32)]) (cs := [.int .i64 32]) (by decide) (by kernel_rfl) rfl
      obtain ⟨v21, w22, hr23, hM24⟩ := m_append sT46 hM20 3 rfl (hM20.rd 0 rfl) (by intro u hu; simp at hu; rcases hu with rfl <;> rfl) (by first | omega | ((try dsimp only); omega) | ((try dsimp only); rw [List.length_append] at *; simp at *; omega) | ((try dsimp only); rw [toks_len]; omega)) (by first | omega | ((try dsimp only); omega) | ((try dsimp only); rw [List.length_append] at *; simp at *; omega) | ((try dsimp only); rw [toks_len]; omega)) 46
      have hM25 : Mem [] w w22 [⟨3, 1, v17, 1, [.int .i64 32]⟩, ⟨3, 1, v13, 0, []⟩, ⟨56, 2, v9, 0, []⟩, ⟨3, 1, v21, (List.length ((decL s) ++ ([32] : List Int))), (ivals .i64 ((decL s) ++ ([32] : List Int)))⟩] := hM24.cast (by simp [ivals, svals, bvals, nvals, u8s, Nat.add_assoc])
      have o26 : (Builtin.len_ #[46] 3 #[v21]).run Try.prog w22 = .ok (.int .i64 (((List.length ((decL s) ++ ([32] : List Int))) : Nat) : Int)) w22 := f_slen sT46 (hM25.rd 3 rfl) 3 _
      have hM27 : Mem [] w w22 [⟨3, 1, v13, 0, []⟩, ⟨56, 2, v9, 0, []⟩, ⟨3, 1, v21, (List.length ((decL s) ++ ([32] : List Int))), (ivals .i64 ((decL s) ++ ([32] : List Int)))⟩] := hM25.sub (List.Sublist.cons _ (List.Sublist.cons_cons _ (List.Sublist.cons_cons _ (List.Sublist.cons_cons _ (List.Sublist.refl _)))))
      refine GoS.run [6, 7, 27, 28, 29] [.n, .n, .u (v9) (w10), .n, .n, .n, .n, .u (v13) (w14), .n, .n, .n, .n, .n, .n, .u (v17) (w18), .u (v21) (w22), .h (.int .i64 (((List.length ((decL s) ++ ([32] : List Int))) : Nat) : Int)), .n, .n, .n, .n] _ [.code (csub (cd Try.f26) [1,1,1,1,1,1,0,1,0,0]), .inLoop (csub (cd Try.f26) [1,1,1,1,1,1,0,1,0,0]), .inBlock 0, .code (csub (cd Try.f26) [1,1,1,1,1,1,1])] [(6, v9), (7, v13), (27, v21), (28, .int .i64 (((List.length ((decL s) ++ ([32] : List Int))) : Nat) : Int)), (29, .int .i64 0)] w22 (by kernel_rfl) (.cons hr11 (.cons hr15 (.cons hr19 (.cons hr23 (.cons o26 .nil))))) ?_
      have hq := @decL_len s
      exact tokens_L s (by omega) (p_eq h7) R hR ((decL s ++ [32]).length + 1) v13 v9 v21 [] [] 0 w22 (by omega) (by simp) (by rw [List.nil_append]; rfl) rfl rfl (hM27.cast (by simp [ivals, toks, toksF, recs])) (by omega)


end Go.Proofs.Ytnhplkkbpmijdaa
