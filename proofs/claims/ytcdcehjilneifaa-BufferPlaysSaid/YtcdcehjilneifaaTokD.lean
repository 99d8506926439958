/-
  The walks of the reference's Same, Term, Folded.
-/
import Derived.Test.YtcdcehjilneifaaUtfG
import Derived.Test.YtcdcehjilneifaaUtfL
namespace Go.Proofs.Ytcdcehjilneifaa
open Go Go.Gw Go.UtfP Go.TokP Go.RowKit
set_option linter.unusedVariables false
set_option linter.unusedSimpArgs false
set_option maxRecDepth 20000

theorem sT64 : SliceT Try.prog 64 79 2 24 (.agg #[.string (sb ([])), .int .i64 0]) := ⟨by kernel_rfl, ⟨_, rfl, by kernel_rfl, by kernel_rfl, by kernel_rfl⟩, rfl, by decide⟩

abbrev uTokA0 : List Nat := [1,1,1,1,1,1,0,1,0,0]
abbrev uTokA1 : List Nat := [1,1,1,1,1,1,1]
abbrev uTokA2 : List Nat := [1,1,1,1,1,1,0,1,0,0,1,1,1]
abbrev uTokA3 : List Nat := [1,1,1,1,1,1,0,1,0,0,1,1,0,0,1,1]
abbrev uTokA4 : List Nat := [1,1,1,1,1,1,0,1,0,0,1,1,0,0,1,1,1,1,1]
abbrev uTokA5 : List Nat := [1,1,1,1,1,1,0,1,0,0,1,1]
abbrev uTokA6 : List Nat := [1,1,1,1,1,1,0,1,0,0,1,1,0,0,1,1,1]
abbrev uTokA7 : List Nat := [1,1,1,1,1,1,0,1,0,0,1,1,0,0,1,0,1]
set_option maxHeartbeats 400000 in
theorem tokens_L (s : List UInt8) {w0 : World} (h4 : ¬ 4096 < s.length) (hd : decE s = 0) (R : Ending → World → Prop) (hR : R = (fun e w' => ∃ v, e = .returned (.tuple #[v, .int .i64 (tokE s)]) ∧ Mem [] w0 w' [⟨79, 2, v, (List.length (tokL s)), (recs tokc (tokL s))⟩])) : ∀ (N : Nat) (vw vo vm : Value) (wd : List Int) (ws : List (List Int)) (k : Nat) (w : World) (hk : k ≤ (decL s ++ [32]).length) (hwl : wd.length ≤ k) (hw : words (decL s) = ws ++ wordsG wd ((decL s ++ [32]).drop k)) (hf : fits ws = true) (hal : allW wd = true) (hM : Mem [] w0 w [⟨3, 1, vw, (List.length wd), (ivals .i64 wd)⟩, ⟨79, 2, vo, (List.length (toks ws)), (recs tokc (toks ws))⟩, ⟨3, 1, vm, (List.length (decL s ++ [32])), (ivals .i64 (decL s ++ [32]))⟩]) (hN : (decL s ++ [32]).length - k < N), GoS Try.prog 28 R 62 [iC Try.f28 uTokA0, iL Try.f28 uTokA0, .inBlock 0, iC Try.f28 uTokA1] [(6, vo), (7, vw), (27, vm), (28, iN (List.length (decL s ++ [32]))), (29, iN k)] w := by
 intro N
 induction N with
 | zero => intro vw vo vm wd ws k w hk hwl hw hf hal hM hN; exact absurd hN (Nat.not_lt_zero _)
 | succ N ih =>
  intro vw vo vm wd ws k w hk hwl hw hf hal hM hN
  have hq := @decL_len s
  have hml : (decL s ++ [32]).length = (decL s).length + 1 := by simp
  have hws := words_count hw
  have htk := toks_len ws
  refine GoS.run [6, 7, 27, 28, 29, 30] [.n, .n, .n, .n, .n] _ [iC Try.f28 [1,1,1,1,1,1,0,1,0,0,1,0], iC Try.f28 uTokA5, iL Try.f28 uTokA0, .inBlock 0, iC Try.f28 uTokA1] [(6, vo), (7, vw), (27, vm), (28, iN (List.length (decL s ++ [32]))), (29, iN k), (30, .bool (decide (((k : Nat) : Int) < (((List.length (decL s ++ [32])) : Nat) : Int))))] w (by kernel_rfl) .nil ?_
  refine GoS.cond (decide (((k : Nat) : Int) < (((List.length (decL s ++ [32])) : Nat) : Int))) [iC Try.f28 [1,1,1,1,1,1,0,1,0,0,1,0,0], iC Try.f28 uTokA5, iL Try.f28 uTokA0, .inBlock 0, iC Try.f28 uTokA1] [iC Try.f28 [1,1,1,1,1,1,0,1,0,0,1,0,1], iC Try.f28 uTokA5, iL Try.f28 uTokA0, .inBlock 0, iC Try.f28 uTokA1] (by kernel_rfl) (fun h1 => ?_) (fun h1 => ?_)
  ·
   have h1p : ((k : Nat) : Int) < (((List.length (decL s ++ [32])) : Nat) : Int) := of_decide_eq_true h1
   refine GoS.run [6, 7, 27, 28, 29] [.n] _ [iC Try.f28 uTokA5, iL Try.f28 uTokA0, .inBlock 0, iC Try.f28 uTokA1] [(6, vo), (7, vw), (27, vm), (28, iN (List.length (decL s ++ [32]))), (29, iN k)] w (by kernel_rfl) .nil ?_
   obtain ⟨p3, hp4, hq5⟩ := rd_at (i := ((k : Nat) : Int)) sT86 (hM.rd 2 rfl) k (by omega) (by first | omega | ((try dsimp only); omega))
   have o6 : (Instr.indexAt 86 (vm) (iN k)).run Try.prog w = .ok (.pointer (some p3)) w := hq5 _ _
   have o7 : (Instr.loadAt 3 (.pointer (some p3))).run Try.prog w = .ok (.int .i64 (List.getD (decL s ++ [32]) k 0)) w := at_load pE3 (hM.rd 2 rfl) hp4 (ivals_at (by first | omega | ((try dsimp only); omega)))
   refine GoS.run [6, 7, 9, 27, 28, 29, 33] [.n, .n, .n, .n, .h (.pointer (some p3)), .h (.int .i64 (List.getD (decL s ++ [32]) k 0)), .n, .n, .n, .n, .n, .n] _ [.inRegion (cops (csub (cd Try.f28) [1,1,1,1,1,1,0,1,0,0,1,1,0,0,1,0,0])) [1], iC Try.f28 uTokA7, iC Try.f28 uTokA3, .inBlock 1, iC Try.f28 uTokA2, iL Try.f28 uTokA0, .inBlock 0, iC Try.f28 uTokA1] [(6, vo), (7, vw), (9, .int .i64 (List.getD (decL s ++ [32]) k 0)), (27, vm), (28, iN (List.length (decL s ++ [32]))), (29, iN k), (33, .int .i64 (List.getD (decL s ++ [32]) k 0))] w (by kernel_rfl) (.cons o6 (.cons o7 .nil)) ?_
   refine GoS.call [6, 7, 9, 27, 28, 29] 43 #[.int .i64 (List.getD (decL s ++ [32]) k 0)] (some 34) [.inRegion (cops (csub (cd Try.f28) [1,1,1,1,1,1,0,1,0,0,1,1,0,0,1,0,0])) [], iC Try.f28 uTokA7, iC Try.f28 uTokA3, .inBlock 1, iC Try.f28 uTokA2, iL Try.f28 uTokA0, .inBlock 0, iC Try.f28 uTokA1] [(6, vo), (7, vw), (9, .int .i64 (List.getD (decL s ++ [32]) k 0)), (27, vm), (28, iN (List.length (decL s ++ [32]))), (29, iN k)] (by kernel_rfl) (letter_c (List.getD (decL s ++ [32]) k 0) w) ?_
   rintro _ _ ⟨rfl, rfl⟩
   refine ⟨_, rfl, ?_⟩
   refine GoS.run [6, 7, 9, 27, 28, 29, 34] [.n] _ [iC Try.f28 uTokA7, iC Try.f28 uTokA3, .inBlock 1, iC Try.f28 uTokA2, iL Try.f28 uTokA0, .inBlock 0, iC Try.f28 uTokA1] [(6, vo), (7, vw), (9, .int .i64 (List.getD (decL s ++ [32]) k 0)), (27, vm), (28, iN (List.length (decL s ++ [32]))), (29, iN k), (34, .bool (letter (List.getD (decL s ++ [32]) k 0)))] w (by kernel_rfl) .nil ?_
   refine GoS.cond (letter (List.getD (decL s ++ [32]) k 0)) [iC Try.f28 [1,1,1,1,1,1,0,1,0,0,1,1,0,0,1,0,1,0], iC Try.f28 uTokA3, .inBlock 1, iC Try.f28 uTokA2, iL Try.f28 uTokA0, .inBlock 0, iC Try.f28 uTokA1] [iC Try.f28 [1,1,1,1,1,1,0,1,0,0,1,1,0,0,1,0,1,1], iC Try.f28 uTokA3, .inBlock 1, iC Try.f28 uTokA2, iL Try.f28 uTokA0, .inBlock 0, iC Try.f28 uTokA1] (by kernel_rfl) (fun h8 => ?_) (fun h8 => ?_)
   ·
    refine GoS.run [6, 27, 28, 29, 35, 36] [.n, .n, .n, .n] _ [.inRegion (cops (csub (cd Try.f28) [1,1,1,1,1,1,0,1,0,0,1,1,0,0,1,0,1,0,0])) [2,3,4,5], iC Try.f28 [1,1,1,1,1,1,0,1,0,0,1,1,0,0,1,0,1,0,1], iC Try.f28 uTokA3, .inBlock 1, iC Try.f28 uTokA2, iL Try.f28 uTokA0, .inBlock 0, iC Try.f28 uTokA1] [(6, vo), (27, vm), (28, iN (List.length (decL s ++ [32]))), (29, iN k), (35, vw), (36, .int .i64 (List.getD (decL s ++ [32]) k 0))] w (by kernel_rfl) .nil ?_
    refine GoS.call [6, 27, 28, 29, 35] 44 #[.int .i64 (List.getD (decL s ++ [32]) k 0)] (some 37) [.inRegion (cops (csub (cd Try.f28) [1,1,1,1,1,1,0,1,0,0,1,1,0,0,1,0,1,0,0])) [3,4,5], iC Try.f28 [1,1,1,1,1,1,0,1,0,0,1,1,0,0,1,0,1,0,1], iC Try.f28 uTokA3, .inBlock 1, iC Try.f28 uTokA2, iL Try.f28 uTokA0, .inBlock 0, iC Try.f28 uTokA1] [(6, vo), (27, vm), (28, iN (List.length (decL s ++ [32]))), (29, iN k), (35, vw)] (by kernel_rfl) (fold_c (List.getD (decL s ++ [32]) k 0) w) ?_
    rintro _ _ ⟨rfl, rfl⟩
    refine ⟨_, rfl, ?_⟩
    obtain ⟨v9, w10, hr11, hM12⟩ := m_lit sT86 hM (n := 1) (parts := #[(0, .int .i64 (fold (List.getD (decL s ++ [32]) k 0)))]) (cs := [.int .i64 (fold (List.getD (decL s ++ [32]) k 0))]) (by decide) (by kernel_rfl) rfl
    obtain ⟨v13, w14, hr15, hM16⟩ := m_append sT86 hM12 1 rfl (hM12.rd 0 rfl) (by intro u hu; simp at hu; rcases hu with rfl <;> rfl) (by first | omega | ((try dsimp only); omega) | ((try dsimp only); rw [List.length_append] at *; simp at *; omega) | ((try dsimp only); rw [toks_len]; omega)) (by first | omega | ((try dsimp only); omega) | ((try dsimp only); rw [List.length_append] at *; simp at *; omega) | ((try dsimp only); rw [toks_len]; omega)) 86
    have hM17 : Mem [] w0 w14 [⟨3, 1, v9, 1, [.int .i64 (fold (List.getD (decL s ++ [32]) k 0))]⟩, ⟨3, 1, v13, (List.length (wd ++ ([(fold (List.getD (decL s ++ [32]) k 0))] : List Int))), (ivals .i64 (wd ++ ([(fold (List.getD (decL s ++ [32]) k 0))] : List Int)))⟩, ⟨79, 2, vo, (List.length (toks ws)), (recs tokc (toks ws))⟩, ⟨3, 1, vm, (List.length (decL s ++ [32])), (ivals .i64 (decL s ++ [32]))⟩] := hM16.cast (by simp [ivals, svals, bvals, nvals, u8s, Nat.add_assoc])
    have o18 : (binOp .add 3 (iN k) (.int .i64 1)).run Try.prog w14 = .ok (iN (k + 1)) w14 := f_add (by rw [show ((k : Nat) : Int) + 1 = (((k + 1) : Nat) : Int) by omega]; exact IntWalk.i64_in _ (by omega))
    have hM19 := hM17.sub (sD (sK (sK (sK sR))))
    refine GoS.run [6, 7, 27, 28, 29] [.u (v9) (w10), .u (v13) (w14), .n, .n, .n, .n, .h (iN (k + 1)), .n, .n, .n] _ [iC Try.f28 uTokA0, iL Try.f28 uTokA0, .inBlock 0, iC Try.f28 uTokA1] [(6, vo), (7, v13), (27, vm), (28, iN (List.length (decL s ++ [32]))), (29, iN (k + 1))] w14 (by kernel_rfl) (.cons hr11 (.cons hr15 (.cons o18 .nil))) ?_
    exact ih v13 vo vm (wd ++ [fold (List.getD (decL s ++ [32]) k 0)]) ws (k + 1) _ (by omega) (by rw [List.length_append, List.length_singleton]; omega) (by rw [hw, words_letter (by omega) h8]) hf (allW_snoc hal h8) (hM19.cast (by simp)) (by omega)
   ·
    refine GoS.run [6, 7, 27, 28, 29] [.n] _ [iC Try.f28 uTokA3, .inBlock 1, iC Try.f28 uTokA2, iL Try.f28 uTokA0, .inBlock 0, iC Try.f28 uTokA1] [(6, vo), (7, vw), (27, vm), (28, iN (List.length (decL s ++ [32]))), (29, iN k)] w (by kernel_rfl) .nil ?_
    have o20 : (Builtin.len_ #[86] 3 #[vw]).run Try.prog w = .ok (iN (List.length wd)) w := f_slen sT86 (hM.rd 0 rfl) 3 _
    refine GoS.run [6, 7, 27, 28, 29, 42] [.n, .n, .n, .n, .h (iN (List.length wd)), .n, .n] _ [iC Try.f28 [1,1,1,1,1,1,0,1,0,0,1,1,0,0,1,1,0,1], iC Try.f28 uTokA6, .inBlock 1, iC Try.f28 uTokA2, iL Try.f28 uTokA0, .inBlock 0, iC Try.f28 uTokA1] [(6, vo), (7, vw), (27, vm), (28, iN (List.length (decL s ++ [32]))), (29, iN k), (42, .bool ((((List.length wd) : Nat) : Int) == 0))] w (by kernel_rfl) (.cons o20 .nil) ?_
    refine GoS.cond ((((List.length wd) : Nat) : Int) == 0) [iC Try.f28 [1,1,1,1,1,1,0,1,0,0,1,1,0,0,1,1,0,1,0], iC Try.f28 uTokA6, .inBlock 1, iC Try.f28 uTokA2, iL Try.f28 uTokA0, .inBlock 0, iC Try.f28 uTokA1] [iC Try.f28 [1,1,1,1,1,1,0,1,0,0,1,1,0,0,1,1,0,1,1], iC Try.f28 uTokA6, .inBlock 1, iC Try.f28 uTokA2, iL Try.f28 uTokA0, .inBlock 0, iC Try.f28 uTokA1] (by kernel_rfl) (fun h21 => ?_) (fun h21 => ?_)
    ·
     have h21p : (((List.length wd) : Nat) : Int) = 0 := eq_of_beq h21
     have o22 : (binOp .add 3 (iN k) (.int .i64 1)).run Try.prog w = .ok (iN (k + 1)) w := f_add (by rw [show ((k : Nat) : Int) + 1 = (((k + 1) : Nat) : Int) by omega]; exact IntWalk.i64_in _ (by omega))
     refine GoS.run [6, 7, 27, 28, 29] [.n, .n, .h (iN (k + 1)), .n, .n, .n] _ [iC Try.f28 uTokA0, iL Try.f28 uTokA0, .inBlock 0, iC Try.f28 uTokA1] [(6, vo), (7, vw), (27, vm), (28, iN (List.length (decL s ++ [32]))), (29, iN (k + 1))] w (by kernel_rfl) (.cons o22 .nil) ?_
     obtain rfl : wd = [] := List.eq_nil_of_length_eq_zero (by omega)
     exact ih vw vo vm [] ws (k + 1) _ (by omega) (by simp) (by rw [hw, words_blank (by omega) h8]) hf hal hM (by omega)
    ·
     have h21p : ¬ ((((List.length wd) : Nat) : Int) = 0) := p_ne h21
     refine GoS.run [6, 7, 27, 28, 29] [.n] _ [iC Try.f28 uTokA6, .inBlock 1, iC Try.f28 uTokA2, iL Try.f28 uTokA0, .inBlock 0, iC Try.f28 uTokA1] [(6, vo), (7, vw), (27, vm), (28, iN (List.length (decL s ++ [32]))), (29, iN k)] w (by kernel_rfl) .nil ?_
     refine GoS.run [6, 7, 27, 28, 29, 44] [.n, .n, .n] _ [.inRegion (cops (csub (cd Try.f28) [1,1,1,1,1,1,0,1,0,0,1,1,0,0,1,1,1,0])) [1,2,3,4,5,6], iC Try.f28 [1,1,1,1,1,1,0,1,0,0,1,1,0,0,1,1,1,1], .inBlock 1, iC Try.f28 uTokA2, iL Try.f28 uTokA0, .inBlock 0, iC Try.f28 uTokA1] [(6, vo), (7, vw), (27, vm), (28, iN (List.length (decL s ++ [32]))), (29, iN k), (44, vw)] w (by kernel_rfl) .nil ?_
     refine GoS.call [6, 7, 27, 28, 29] 45 #[vw] (some 45) [.inRegion (cops (csub (cd Try.f28) [1,1,1,1,1,1,0,1,0,0,1,1,0,0,1,1,1,0])) [2,3,4,5,6], iC Try.f28 [1,1,1,1,1,1,0,1,0,0,1,1,0,0,1,1,1,1], .inBlock 1, iC Try.f28 uTokA2, iL Try.f28 uTokA0, .inBlock 0, iC Try.f28 uTokA1] [(6, vo), (7, vw), (27, vm), (28, iN (List.length (decL s ++ [32]))), (29, iN k)] (by kernel_rfl) (encode_c vw wd w (hM.rd 0 rfl) (by first | omega | ((try dsimp only); omega))) ?_
     rintro _ w23 ⟨rfl, m24⟩
     refine ⟨_, rfl, ?_⟩
     have hM25 := Mem.join hM m24
     have o26 : (Builtin.len_ #[9] 3 #[sS (encT wd)]).run Try.prog w23 = .ok (iN ((encT wd).length)) w23 := f_len (by kernel_rfl)
     refine GoS.run [6, 7, 10, 27, 28, 29, 50] [.n, .n, .n, .n, .n, .n, .n, .n, .n, .n, .h (iN ((encT wd).length)), .n, .n] _ [iC Try.f28 [1,1,1,1,1,1,0,1,0,0,1,1,0,0,1,1,1,1,0,1], iC Try.f28 uTokA4, .inBlock 1, iC Try.f28 uTokA2, iL Try.f28 uTokA0, .inBlock 0, iC Try.f28 uTokA1] [(6, vo), (7, vw), (10, sS (encT wd)), (27, vm), (28, iN (List.length (decL s ++ [32]))), (29, iN k), (50, .bool (decide ((((encT wd).length : Nat) : Int) > 64)))] w23 (by kernel_rfl) (.cons o26 .nil) ?_
     refine GoS.cond (decide ((((encT wd).length : Nat) : Int) > 64)) [iC Try.f28 [1,1,1,1,1,1,0,1,0,0,1,1,0,0,1,1,1,1,0,1,0], iC Try.f28 uTokA4, .inBlock 1, iC Try.f28 uTokA2, iL Try.f28 uTokA0, .inBlock 0, iC Try.f28 uTokA1] [iC Try.f28 [1,1,1,1,1,1,0,1,0,0,1,1,0,0,1,1,1,1,0,1,1], iC Try.f28 uTokA4, .inBlock 1, iC Try.f28 uTokA2, iL Try.f28 uTokA0, .inBlock 0, iC Try.f28 uTokA1] (by kernel_rfl) (fun h27 => ?_) (fun h27 => ?_)
     ·
      have h27p : (((encT wd).length : Nat) : Int) > 64 := of_decide_eq_true h27
      have hM28 := hM25.sub (sD (sD (sD sR)))
      refine GoS.run [2, 3] [.n, .n, .n, .n, .n] _ [iC Try.f28 [1,1,1,1,1,1,0,1,0,0,1,1,0,0,1,1,1,1,0,1,0,1], iC Try.f28 uTokA4, .inBlock 1, iC Try.f28 uTokA2, iL Try.f28 uTokA0, .inBlock 0, iC Try.f28 uTokA1] [(2, .slice none 0 0), (3, .int .i64 4)] w23 (by kernel_rfl) .nil ?_
      refine GoS.ret (fn := Try.f28) (v := (.tuple #[.slice none 0 0, .int .i64 4])) Try.func28 (by kernel_rfl) ?_
      rw [hR]
      obtain ⟨e1, e2⟩ := tok_no h4 hd (by rw [hw, words_end (by omega) h8 (ne_of_len h21)]; exact fits_no (by rw [← encT_of hal]; omega))
      exact ⟨_, by rw [e2], by rw [e1]; exact hM28.nilrow 79 2⟩
     ·
      have h27p : ¬ ((((encT wd).length : Nat) : Int) > 64) := of_decide_eq_false h27
      refine GoS.run [6, 7, 10, 27, 28, 29] [.n] _ [iC Try.f28 uTokA4, .inBlock 1, iC Try.f28 uTokA2, iL Try.f28 uTokA0, .inBlock 0, iC Try.f28 uTokA1] [(6, vo), (7, vw), (10, sS (encT wd)), (27, vm), (28, iN (List.length (decL s ++ [32]))), (29, iN k)] w23 (by kernel_rfl) .nil ?_
      have o39 : (Builtin.len_ #[64] 3 #[vo]).run Try.prog w23 = .ok (iN (List.length (toks ws))) w23 := f_slen sT64 (hM25.rd 1 rfl) 3 _
      obtain ⟨v29, w30, hr31, hM32⟩ := m_lit sT64 hM25 (n := 1) (parts := #[(0, .agg #[sS (encT wd), iN (List.length (toks ws))])]) (cs := [sS (encT wd), iN (List.length (toks ws))]) (by decide) (by kernel_rfl) rfl
      obtain ⟨v33, w34, hr35, hM36⟩ := m_append sT64 hM32 2 rfl (hM32.rd 0 rfl) (by intro u hu; simp at hu; rcases hu with rfl | rfl <;> rfl) (by first | omega | ((try dsimp only); omega) | ((try dsimp only); rw [List.length_append] at *; simp at *; omega) | ((try dsimp only); rw [toks_len]; omega)) (by first | omega | ((try dsimp only); omega) | ((try dsimp only); rw [List.length_append] at *; simp at *; omega) | ((try dsimp only); rw [toks_len]; omega)) 64
      have hM37 : Mem [] w0 w34 [⟨79, 2, v29, 1, [sS (encT wd), iN (List.length (toks ws))]⟩, ⟨3, 1, vw, (List.length wd), (ivals .i64 wd)⟩, ⟨79, 2, v33, (List.length ((toks ws) ++ ([(Tok.mk (encT wd) (((List.length (toks ws)) : Nat) : Int))] : List Tok))), (recs tokc ((toks ws) ++ ([(Tok.mk (encT wd) (((List.length (toks ws)) : Nat) : Int))] : List Tok)))⟩, ⟨3, 1, vm, (List.length (decL s ++ [32])), (ivals .i64 (decL s ++ [32]))⟩] := hM36.cast (by simp [ivals, svals, bvals, nvals, u8s, Nat.add_assoc, recs, tokc])
      have hM38 : Mem [] w0 w34 [⟨79, 2, v29, 1, [sS (encT wd), iN (List.length (toks ws))]⟩, ⟨3, 1, (cut vw 0), 0, (ivals .i64 ([] : List Int))⟩, ⟨79, 2, v33, (List.length ((toks ws) ++ ([(Tok.mk (encT wd) (((List.length (toks ws)) : Nat) : Int))] : List Tok))), (recs tokc ((toks ws) ++ ([(Tok.mk (encT wd) (((List.length (toks ws)) : Nat) : Int))] : List Tok)))⟩, ⟨3, 1, vm, (List.length (decL s ++ [32])), (ivals .i64 (decL s ++ [32]))⟩] := (Mem.cutrow hM37 1 rfl 0 (by first | omega | ((try dsimp only); omega))).cast (by simp [ivals, nvals, u8s, svals, bvals, List.map_take])
      have o40 : (Instr.sliceAt 86 (vw) none (some (.int .i64 0)) none).run Try.prog w34 = .ok (cut vw 0) w34 := f_cut0 sT86 (hM37.rd 1 rfl) 0 (by omega) (by first | omega | ((try dsimp only); omega)) _ _
      have o41 : (binOp .add 3 (iN k) (.int .i64 1)).run Try.prog w34 = .ok (iN (k + 1)) w34 := f_add (by rw [show ((k : Nat) : Int) + 1 = (((k + 1) : Nat) : Int) by omega]; exact IntWalk.i64_in _ (by omega))
      have hM42 := hM38.sub (sD (sK (sK (sK sR))))
      refine GoS.run [6, 7, 27, 28, 29] [.n, .n, .n, .n, .n, .h (iN (List.length (toks ws))), .n, .u (v29) (w30), .u (v33) (w34), .n, .n, .n, .n, .h ((cut vw 0)), .n, .n, .n, .n, .h (iN (k + 1)), .n, .n, .n] _ [iC Try.f28 uTokA0, iL Try.f28 uTokA0, .inBlock 0, iC Try.f28 uTokA1] [(6, v33), (7, (cut vw 0)), (27, vm), (28, iN (List.length (decL s ++ [32]))), (29, iN (k + 1))] w34 (by kernel_rfl) (.cons o39 (.cons hr31 (.cons hr35 (.cons o40 (.cons o41 .nil))))) ?_
      have hwl : termB wd = encT wd := (encT_of hal).symm
      exact ih (cut vw 0) v33 vm [] (ws ++ [wd]) (k + 1) _ (by omega) (by simp) (by rw [hw, words_end (by omega) h8 (ne_of_len h21), List.append_assoc]; rfl) (fits_snoc hf (by rw [hwl]; omega)) rfl (hM42.cast (by rw [toks_snoc, hwl]; simp [toks_len])) (by omega)
  ·
   have h1p : ¬ (((k : Nat) : Int) < (((List.length (decL s ++ [32])) : Nat) : Int)) := of_decide_eq_false h1
   have hM2 := hM.sub (sD (sK (sD sR)))
   refine GoS.run [2, 3] [.n, .n, .n, .n, .n, .n, .n] _ [iC Try.f28 [1,1,1,1,1,1,1,1]] [(2, vo), (3, .int .i64 0)] w (by kernel_rfl) .nil ?_
   refine GoS.ret (fn := Try.f28) (v := (.tuple #[vo, .int .i64 0])) Try.func28 (by kernel_rfl) ?_
   rw [hR]
   have e0 : words (decL s) = ws := by rw [hw, List.drop_of_length_le (by omega)]; simp [wordsG]
   obtain ⟨e1, e2⟩ := tok_yes h4 hd e0 hf
   exact ⟨_, by rw [e2], by rw [e1]; exact hM2⟩

set_option maxHeartbeats 400000 in
theorem tokens_c (s : List UInt8) (w : World) :
  Calls Try.prog 28 #[sS s] w (fun e w' => ∃ v, e = .returned (.tuple #[v, .int .i64 (tokE s)]) ∧ Mem [] w w' [⟨79, 2, v, (List.length (tokL s)), (recs tokc (tokL s))⟩]) := by
 have hq := @decL_len s
 obtain ⟨R, hR⟩ : ∃ R : Ending → World → Prop, R = (fun e w' => ∃ v, e = .returned (.tuple #[v, .int .i64 (tokE s)]) ∧ Mem [] w w' [⟨79, 2, v, (List.length (tokL s)), (recs tokc (tokL s))⟩]) := ⟨_, rfl⟩
 rw [← hR]
 refine GoS.enter (n := 62) Try.func28 (by kernel_rfl) rfl [(0, sS s)] (by kernel_rfl) (by kernel_rfl) ?_
 have hM0 := Mem.start w
 have o1 : (Builtin.len_ #[9] 3 #[sS s]).run Try.prog w = .ok (iN s.length) w := f_len (by kernel_rfl)
 refine GoS.run [0, 14] [.n, .n, .n, .n, .n, .n, .n, .n, .n, .h (iN s.length), .n, .n] _ [iC Try.f28 [1,0,1], iC Try.f28 [1,1]] [(0, sS s), (14, .bool (decide (((s.length : Nat) : Int) > 4096)))] w (by kernel_rfl) (.cons o1 .nil) ?_
 refine GoS.cond (decide (((s.length : Nat) : Int) > 4096)) [iC Try.f28 [1,0,1,0], iC Try.f28 [1,1]] [iC Try.f28 [1,0,1,1], iC Try.f28 [1,1]] (by kernel_rfl) (fun h2 => ?_) (fun h2 => ?_)
 ·
  have h2p : ((s.length : Nat) : Int) > 4096 := of_decide_eq_true h2
  refine GoS.run [2, 3] [.n, .n, .n, .n, .n] _ [iC Try.f28 [1,0,1,0,1], iC Try.f28 [1,1]] [(2, .slice none 0 0), (3, .int .i64 4)] w (by kernel_rfl) .nil ?_
  refine GoS.ret (fn := Try.f28) (v := (.tuple #[.slice none 0 0, .int .i64 4])) Try.func28 (by kernel_rfl) ?_
  rw [hR]
  obtain ⟨e1, e2⟩ := tok_long (s := s) (by omega)
  exact ⟨_, by rw [e2], by rw [e1]; exact hM0.nilrow 79 2⟩
 ·
  have h2p : ¬ (((s.length : Nat) : Int) > 4096) := of_decide_eq_false h2
  refine GoS.run [0] [.n] _ [iC Try.f28 [1,1]] [(0, sS s)] w (by kernel_rfl) .nil ?_
  refine GoS.run [16] [.n, .n, .n] _ [.inRegion (cops (csub (cd Try.f28) [1,1,0])) [1,2,3,4,5,6], iC Try.f28 [1,1,1]] [(16, sS s)] w (by kernel_rfl) .nil ?_
  refine GoS.call [] 42 #[sS s] (some 17) [.inRegion (cops (csub (cd Try.f28) [1,1,0])) [2,3,4,5,6], iC Try.f28 [1,1,1]] [] (by kernel_rfl) (decode_c s (by first | omega | ((try dsimp only); omega)) w) ?_
  rintro _ w3 ⟨v6, rfl, m4⟩
  refine ⟨_, rfl, ?_⟩
  have hM5 := Mem.join hM0 m4
  refine GoS.run [4, 5, 21] [.n, .n, .n, .n, .n, .n, .n, .n, .n, .n, .n, .n] _ [iC Try.f28 [1,1,1,0,1], iC Try.f28 [1,1,1,1]] [(4, v6), (5, .int .i64 (decE s)), (21, .bool ((decE s) != 0))] w3 (by kernel_rfl) .nil ?_
  refine GoS.cond ((decE s) != 0) [iC Try.f28 [1,1,1,0,1,0], iC Try.f28 [1,1,1,1]] [iC Try.f28 [1,1,1,0,1,1], iC Try.f28 [1,1,1,1]] (by kernel_rfl) (fun h7 => ?_) (fun h7 => ?_)
  ·
   have h7p : ¬ ((decE s) = 0) := bne_iff_ne.1 h7
   have hM8 := hM5.sub (sD sR)
   refine GoS.run [2, 3] [.n, .n, .n, .n, .n, .n] _ [iC Try.f28 [1,1,1,0,1,0,1], iC Try.f28 [1,1,1,1]] [(2, .slice none 0 0), (3, .int .i64 (decE s))] w3 (by kernel_rfl) .nil ?_
   refine GoS.ret (fn := Try.f28) (v := (.tuple #[.slice none 0 0, .int .i64 (decE s)])) Try.func28 (by kernel_rfl) ?_
   rw [hR]
   obtain ⟨e1, e2⟩ := tok_bad (s := s) (by omega) (bne_iff_ne.1 h7)
   exact ⟨_, by rw [e2], by rw [e1]; exact hM8.nilrow 79 2⟩
  ·
   have h7p : (decE s) = 0 := p_eq h7
   refine GoS.run [4] [.n] _ [iC Try.f28 [1,1,1,1]] [(4, v6)] w3 (by kernel_rfl) .nil ?_
   obtain ⟨v9, w10, hr11, hM12⟩ := m_lit sT64 hM5 (n := 0) (parts := #[]) (cs := []) (by decide) (by kernel_rfl) rfl
   obtain ⟨v13, w14, hr15, hM16⟩ := m_lit sT86 hM12 (n := 0) (parts := #[]) (cs := []) (by decide) (by kernel_rfl) rfl
   obtain ⟨v17, w18, hr19, hM20⟩ := m_lit sT86 hM16 (n := 1) (parts := #[(0, .int .i64 32)]) (cs := [.int .i64 32]) (by decide) (by kernel_rfl) rfl
   obtain ⟨v21, w22, hr23, hM24⟩ := m_append sT86 hM20 3 rfl (hM20.rd 0 rfl) (by intro u hu; simp at hu; rcases hu with rfl <;> rfl) (by first | omega | ((try dsimp only); omega) | ((try dsimp only); rw [List.length_append] at *; simp at *; omega) | ((try dsimp only); rw [toks_len]; omega)) (by first | omega | ((try dsimp only); omega) | ((try dsimp only); rw [List.length_append] at *; simp at *; omega) | ((try dsimp only); rw [toks_len]; omega)) 86
   have hM25 : Mem [] w w22 [⟨3, 1, v17, 1, [.int .i64 32]⟩, ⟨3, 1, v13, 0, []⟩, ⟨79, 2, v9, 0, []⟩, ⟨3, 1, v21, (List.length ((decL s) ++ ([32] : List Int))), (ivals .i64 ((decL s) ++ ([32] : List Int)))⟩] := hM24.cast (by simp [ivals, svals, bvals, nvals, u8s, Nat.add_assoc])
   have o26 : (Builtin.len_ #[86] 3 #[v21]).run Try.prog w22 = .ok (iN (List.length ((decL s) ++ ([32] : List Int)))) w22 := f_slen sT86 (hM25.rd 3 rfl) 3 _
   have hM27 := hM25.sub (sD (sK (sK (sK sR))))
   refine GoS.run [6, 7, 27, 28, 29] [.n, .n, .u (v9) (w10), .n, .n, .n, .n, .u (v13) (w14), .n, .n, .n, .n, .n, .n, .u (v17) (w18), .u (v21) (w22), .h (iN (List.length ((decL s) ++ ([32] : List Int)))), .n, .n, .n, .n] _ [iC Try.f28 uTokA0, iL Try.f28 uTokA0, .inBlock 0, iC Try.f28 uTokA1] [(6, v9), (7, v13), (27, v21), (28, iN (List.length ((decL s) ++ ([32] : List Int)))), (29, .int .i64 0)] w22 (by kernel_rfl) (.cons hr11 (.cons hr15 (.cons hr19 (.cons hr23 (.cons o26 .nil))))) ?_
   have hq := @decL_len s
   exact tokens_L s (by omega) (p_eq h7) R hR ((decL s ++ [32]).length + 1) v13 v9 v21 [] [] 0 w22 (by omega) (by simp) (by rw [List.nil_append]; rfl) rfl rfl (hM27.cast (by simp [ivals, toks, toksF, recs])) (by omega)






abbrev uTokC0 : List Nat := [1,1,1,1,1,0,1,0,0]
abbrev uTokC1 : List Nat := [1,1,1,1,1,1]
abbrev uTokC2 : List Nat := [1,1,1,1,1,0,1,0,0,1,1]
abbrev uTokC3 : List Nat := [1,1,1,1,1,0,1,0,0,1,0,0,1,1,0,1,0,0]
abbrev uTokC4 : List Nat := [1,1,1,1,1,0,1,0,0,1,0,0,1,1,1]
abbrev uTokC5 : List Nat := [1,1,1,1,1,0,1,0,0,1,0,0,1]
abbrev uTokC6 : List Nat := [1,1,1,1,1,0,1,0,0,1,0,0,1,1,1,1]
abbrev uTokC7 : List Nat := [1,1,1,1,1,0,1,0,0,1,0,0,0,1]
abbrev uTokC8 : List Nat := [1,1,1,1,1,0,1,0,0,1,0,0,1,1,0,1,0,0,1]
abbrev uTokC9 : List Nat := [1,1,1,1,1,0,1,0,0,1,0,0,0,0]
abbrev uTokC10 : List Nat := [1,1,1,1,1,0,1,0,0,1,0,0,1,1,0,1,0,0,0,1]
abbrev uTokC11 : List Nat := [1,1,1,1,1,0,1,0,0,1,0,0,1,1,0,1,0,0,0,0]
abbrev uTokC12 : List Nat := [1,1,1,1,1,0,1,0,0,1,0,0,1,1,0,1,0,0,1,0,0,0]
abbrev uTokC13 : List Nat := [1,1,1,1,1,0,1,0,0,1,0,0,1,1,0,1,0,0,1,0,0,1]
abbrev uTokC14 : List Nat := [1,1,1,1,1,0,1,0,0,1,0,0,1,1,0,1,0,0,1,1]
abbrev uTokC15 : List Nat := [1,1,1,1,1,0,1,0,0,1]
set_option maxHeartbeats 400000 in
theorem rtok_L2 (s : List UInt8) {w0 : World} (h4 : ¬ 4096 < s.length) (hd : decE s = 0) (vl vo : Value) (ws : List (List Int)) (i : Nat) (hi : i < (decL s).length) (h0 : letter ((decL s).getD i 0) = true) (hb : bef (decL s) i = false) (hw : words (decL s) = ws ++ restG (bef (decL s) i) ((decL s).drop i)) (hf : fits ws = true) (R : Ending → World → Prop) (hR : R = (fun e w' => ∃ v, e = .returned (.tuple #[v, .int .i64 (tokE s)]) ∧ Mem [] w0 w' [⟨79, 2, v, (List.length (tokL s)), (recs tokc (tokL s))⟩])) : ∀ (N : Nat) (k : Nat) (w : World) (out : ∀ (vo : Value) (ws : List (List Int)) (i' : Nat) (w : World), i < i' → i' ≤ (decL s).length → words (decL s) = ws ++ restG (bef (decL s) i') ((decL s).drop i') → fits ws = true → Mem [] w0 w [⟨79, 2, vo, (List.length (toks ws)), (recs tokc (toks ws))⟩, ⟨3, 1, vl, (List.length (decL s)), (ivals .i64 (decL s))⟩] → GoS Try.prog 35 R 85 [iC Try.f35 uTokC0, iL Try.f35 uTokC0, .inBlock 0, iC Try.f35 uTokC1] [(4, vl), (6, vo), (7, iN i')] w) (hik : i ≤ k) (hk : k ≤ (decL s).length) (ha : ∀ j, i ≤ j → j < k → letter ((decL s).getD j 0) = true) (hM : Mem [] w0 w [⟨79, 2, vo, (List.length (toks ws)), (recs tokc (toks ws))⟩, ⟨3, 1, vl, (List.length (decL s)), (ivals .i64 (decL s))⟩]) (hN : (decL s).length - k < N), GoS Try.prog 35 R 85 [iC Try.f35 uTokC3, iL Try.f35 uTokC3, .inBlock 2, iC Try.f35 uTokC4, .inBlock 1, iC Try.f35 uTokC2, iL Try.f35 uTokC0, .inBlock 0, iC Try.f35 uTokC1] [(4, vl), (6, vo), (7, iN i), (8, sS (termB (List.map fold (List.take (k - i) (List.drop i (decL s)))))), (9, iN k)] w := by
 intro N
 induction N with
 | zero => intro k w out hik hk ha hM hN; exact absurd hN (Nat.not_lt_zero _)
 | succ N ih =>
  intro k w out hik hk ha hM hN
  have hq := @decL_len s
  have hws := words_count hw
  have htk := toks_len ws
  have htl := termB_len (List.map fold (List.take (k - i) (List.drop i (decL s))))
  rw [List.length_map, List.length_take, List.length_drop] at htl
  have o1 : (Builtin.len_ #[86] 3 #[vl]).run Try.prog w = .ok (iN (List.length (decL s))) w := f_slen sT86 (hM.rd 1 rfl) 3 _
  refine GoS.run [4, 6, 7, 8, 9, 52] [.n, .n, .n, .n, .n, .h (iN (List.length (decL s))), .n, .n] _ [.inRegion (cops (csub (cd Try.f35) uTokC11)) [5,6,7,8,9,10], iC Try.f35 uTokC10, iC Try.f35 uTokC8, iL Try.f35 uTokC3, .inBlock 2, iC Try.f35 uTokC4, .inBlock 1, iC Try.f35 uTokC2, iL Try.f35 uTokC0, .inBlock 0, iC Try.f35 uTokC1] [(4, vl), (6, vo), (7, iN i), (8, sS (termB (List.map fold (List.take (k - i) (List.drop i (decL s)))))), (9, iN k), (52, .bool (decide (((k : Nat) : Int) < (((List.length (decL s)) : Nat) : Int))))] w (by kernel_rfl) (.cons o1 .nil) ?_
  refine GoS.fork 52 (decide (((k : Nat) : Int) < (((List.length (decL s)) : Nat) : Int))) (by kernel_rfl) (fun h2 => ?_) (fun h2 => ?_)
  ·
   have h2p : ((k : Nat) : Int) < (((List.length (decL s)) : Nat) : Int) := of_decide_eq_true h2
   obtain ⟨p3, hp4, hq5⟩ := rd_at (i := ((k : Nat) : Int)) sT86 (hM.rd 1 rfl) k (by omega) (by first | omega | (dsimp only; omega))
   have o6 : (Instr.indexAt 86 (vl) (iN k)).run Try.prog w = .ok (.pointer (some p3)) w := hq5 _ _
   have o7 : (Instr.loadAt 3 (.pointer (some p3))).run Try.prog w = .ok (.int .i64 (List.getD (decL s) k 0)) w := at_load pE3 (hM.rd 1 rfl) hp4 (ivals_at (by first | omega | (dsimp only; omega)))
   refine GoS.run [4, 6, 7, 8, 9, 52, 56] [.n, .n, .h (.pointer (some p3)), .h (.int .i64 (List.getD (decL s) k 0))] _ [.inRegion (cops (csub (cd Try.f35) uTokC11)) [9,10], iC Try.f35 uTokC10, iC Try.f35 uTokC8, iL Try.f35 uTokC3, .inBlock 2, iC Try.f35 uTokC4, .inBlock 1, iC Try.f35 uTokC2, iL Try.f35 uTokC0, .inBlock 0, iC Try.f35 uTokC1] [(4, vl), (6, vo), (7, iN i), (8, sS (termB (List.map fold (List.take (k - i) (List.drop i (decL s)))))), (9, iN k), (52, .bool true), (56, .int .i64 (List.getD (decL s) k 0))] w (by kernel_rfl) (.cons o6 (.cons o7 .nil)) ?_
   refine GoS.call [4, 6, 7, 8, 9, 52] 51 #[.int .i64 (List.getD (decL s) k 0)] (some 57) [.inRegion (cops (csub (cd Try.f35) uTokC11)) [10], iC Try.f35 uTokC10, iC Try.f35 uTokC8, iL Try.f35 uTokC3, .inBlock 2, iC Try.f35 uTokC4, .inBlock 1, iC Try.f35 uTokC2, iL Try.f35 uTokC0, .inBlock 0, iC Try.f35 uTokC1] [(4, vl), (6, vo), (7, iN i), (8, sS (termB (List.map fold (List.take (k - i) (List.drop i (decL s)))))), (9, iN k), (52, .bool true)] (by kernel_rfl) (rletter_c (List.getD (decL s) k 0) w) ?_
   rintro _ w8 ⟨rfl, m9⟩
   refine ⟨_, rfl, ?_⟩
   have hM10 := Mem.join hM m9
   refine GoS.run [4, 6, 7, 8, 9, 58] [.n] _ [.inRegion (cops (csub (cd Try.f35) uTokC11)) [], iC Try.f35 uTokC10, iC Try.f35 uTokC8, iL Try.f35 uTokC3, .inBlock 2, iC Try.f35 uTokC4, .inBlock 1, iC Try.f35 uTokC2, iL Try.f35 uTokC0, .inBlock 0, iC Try.f35 uTokC1] [(4, vl), (6, vo), (7, iN i), (8, sS (termB (List.map fold (List.take (k - i) (List.drop i (decL s)))))), (9, iN k), (58, .bool (letter (List.getD (decL s) k 0)))] w8 (by kernel_rfl) .nil ?_
   refine GoS.run [4, 6, 7, 8, 9, 58] [.n] _ [iC Try.f35 uTokC10, iC Try.f35 uTokC8, iL Try.f35 uTokC3, .inBlock 2, iC Try.f35 uTokC4, .inBlock 1, iC Try.f35 uTokC2, iL Try.f35 uTokC0, .inBlock 0, iC Try.f35 uTokC1] [(4, vl), (6, vo), (7, iN i), (8, sS (termB (List.map fold (List.take (k - i) (List.drop i (decL s)))))), (9, iN k), (58, .bool (letter (List.getD (decL s) k 0)))] w8 (by kernel_rfl) .nil ?_
   refine GoS.cond (letter (List.getD (decL s) k 0)) [iC Try.f35 [1,1,1,1,1,0,1,0,0,1,0,0,1,1,0,1,0,0,0,1,0], iC Try.f35 uTokC8, iL Try.f35 uTokC3, .inBlock 2, iC Try.f35 uTokC4, .inBlock 1, iC Try.f35 uTokC2, iL Try.f35 uTokC0, .inBlock 0, iC Try.f35 uTokC1] [iC Try.f35 [1,1,1,1,1,0,1,0,0,1,0,0,1,1,0,1,0,0,0,1,1], iC Try.f35 uTokC8, iL Try.f35 uTokC3, .inBlock 2, iC Try.f35 uTokC4, .inBlock 1, iC Try.f35 uTokC2, iL Try.f35 uTokC0, .inBlock 0, iC Try.f35 uTokC1] (by kernel_rfl) (fun h11 => ?_) (fun h11 => ?_)
   ·
    refine GoS.run [4, 6, 7, 8, 9] [.n] _ [iC Try.f35 uTokC8, iL Try.f35 uTokC3, .inBlock 2, iC Try.f35 uTokC4, .inBlock 1, iC Try.f35 uTokC2, iL Try.f35 uTokC0, .inBlock 0, iC Try.f35 uTokC1] [(4, vl), (6, vo), (7, iN i), (8, sS (termB (List.map fold (List.take (k - i) (List.drop i (decL s)))))), (9, iN k)] w8 (by kernel_rfl) .nil ?_
    obtain ⟨p27, hp28, hq29⟩ := rd_at (i := ((k : Nat) : Int)) sT86 (hM10.rd 1 rfl) k (by omega) (by first | omega | (dsimp only; omega))
    have o30 : (Instr.indexAt 86 (vl) (iN k)).run Try.prog w8 = .ok (.pointer (some p27)) w8 := hq29 _ _
    have o31 : (Instr.loadAt 3 (.pointer (some p27))).run Try.prog w8 = .ok (.int .i64 (List.getD (decL s) k 0)) w8 := at_load pE3 (hM10.rd 1 rfl) hp28 (ivals_at (by first | omega | (dsimp only; omega)))
    refine GoS.run [4, 6, 7, 8, 9, 65] [.n, .n, .n, .n, .n, .n, .h (.pointer (some p27)), .h (.int .i64 (List.getD (decL s) k 0))] _ [.inRegion (cops (csub (cd Try.f35) uTokC12)) [4,5,6,7,8,9,10,11], iC Try.f35 uTokC13, .inBlock 3, iC Try.f35 uTokC14, iL Try.f35 uTokC3, .inBlock 2, iC Try.f35 uTokC4, .inBlock 1, iC Try.f35 uTokC2, iL Try.f35 uTokC0, .inBlock 0, iC Try.f35 uTokC1] [(4, vl), (6, vo), (7, iN i), (8, sS (termB (List.map fold (List.take (k - i) (List.drop i (decL s)))))), (9, iN k), (65, .int .i64 (List.getD (decL s) k 0))] w8 (by kernel_rfl) (.cons o30 (.cons o31 .nil)) ?_
    refine GoS.call [4, 6, 7, 8, 9] 53 #[.int .i64 (List.getD (decL s) k 0)] (some 66) [.inRegion (cops (csub (cd Try.f35) uTokC12)) [5,6,7,8,9,10,11], iC Try.f35 uTokC13, .inBlock 3, iC Try.f35 uTokC14, iL Try.f35 uTokC3, .inBlock 2, iC Try.f35 uTokC4, .inBlock 1, iC Try.f35 uTokC2, iL Try.f35 uTokC0, .inBlock 0, iC Try.f35 uTokC1] [(4, vl), (6, vo), (7, iN i), (8, sS (termB (List.map fold (List.take (k - i) (List.drop i (decL s)))))), (9, iN k)] (by kernel_rfl) (rfold_c (List.getD (decL s) k 0) w8) ?_
    rintro _ w32 ⟨rfl, m33⟩
    refine ⟨_, rfl, ?_⟩
    have hM34 := Mem.join hM10 m33
    obtain ⟨v35, w36, hr37, hM38⟩ := m_lit sT86 hM34 (n := 1) (parts := #[(0, .int .i64 (fold (List.getD (decL s) k 0)))]) (cs := [.int .i64 (fold (List.getD (decL s) k 0))]) (by decide) (by kernel_rfl) rfl
    refine GoS.run [4, 6, 7, 8, 9, 67] [.u (v35) (w36)] _ [.inRegion (cops (csub (cd Try.f35) uTokC12)) [6,7,8,9,10,11], iC Try.f35 uTokC13, .inBlock 3, iC Try.f35 uTokC14, iL Try.f35 uTokC3, .inBlock 2, iC Try.f35 uTokC4, .inBlock 1, iC Try.f35 uTokC2, iL Try.f35 uTokC0, .inBlock 0, iC Try.f35 uTokC1] [(4, vl), (6, vo), (7, iN i), (8, sS (termB (List.map fold (List.take (k - i) (List.drop i (decL s)))))), (9, iN k), (67, v35)] w36 (by kernel_rfl) (.cons hr37 .nil) ?_
    refine GoS.call [4, 6, 7, 8, 9] 52 #[v35] (some 68) [.inRegion (cops (csub (cd Try.f35) uTokC12)) [7,8,9,10,11], iC Try.f35 uTokC13, .inBlock 3, iC Try.f35 uTokC14, iL Try.f35 uTokC3, .inBlock 2, iC Try.f35 uTokC4, .inBlock 1, iC Try.f35 uTokC2, iL Try.f35 uTokC0, .inBlock 0, iC Try.f35 uTokC1] [(4, vl), (6, vo), (7, iN i), (8, sS (termB (List.map fold (List.take (k - i) (List.drop i (decL s)))))), (9, iN k)] (by kernel_rfl) (rencode_c v35 ([(fold (List.getD (decL s) k 0))] : List Int) w36 (hM38.rd 0 rfl) (by first | omega | (simp; done))) ?_
    rintro _ w39 ⟨rfl, m40⟩
    refine ⟨_, rfl, ?_⟩
    have hM41 := Mem.join hM38 m40
    have o42 : (binOp .add 9 (sS (termB (List.map fold (List.take (k - i) (List.drop i (decL s)))))) (sS (encT ([(fold (List.getD (decL s) k 0))] : List Int)))).run Try.prog w39 = .ok (sS ((termB (List.map fold (List.take (k - i) (List.drop i (decL s))))) ++ (encT ([(fold (List.getD (decL s) k 0))] : List Int)))) w39 := f_stradd (by (have q1 := encT_len [fold (List.getD (decL s) k 0)]; simp only [List.length_cons, List.length_nil] at q1; omega))
    have o43 : (binOp .add 3 (iN k) (.int .i64 1)).run Try.prog w39 = .ok (iN (k + 1)) w39 := f_add (by rw [show ((k : Nat) : Int) + 1 = (((k + 1) : Nat) : Int) by omega]; exact IntWalk.i64_in _ (by omega))
    have hM44 := hM41.sub (sD (sK (sK sR)))
    refine GoS.run [4, 6, 7, 8, 9] [.n, .n, .n, .n, .n, .n, .n, .n, .n, .h (sS ((termB (List.map fold (List.take (k - i) (List.drop i (decL s))))) ++ (encT ([(fold (List.getD (decL s) k 0))] : List Int)))), .n, .n, .n, .n, .n, .h (iN (k + 1)), .n, .n, .n] _ [iC Try.f35 uTokC3, iL Try.f35 uTokC3, .inBlock 2, iC Try.f35 uTokC4, .inBlock 1, iC Try.f35 uTokC2, iL Try.f35 uTokC0, .inBlock 0, iC Try.f35 uTokC1] [(4, vl), (6, vo), (7, iN i), (8, sS ((termB (List.map fold (List.take (k - i) (List.drop i (decL s))))) ++ (encT ([(fold (List.getD (decL s) k 0))] : List Int)))), (9, iN (k + 1))] w39 (by kernel_rfl) (.cons o42 (.cons o43 .nil)) ?_
    exact GoS.cast (by rw [termB_part hik (by omega) h11]) (ih (k + 1) _ out (by omega) (by omega) (fun j q1 q2 => by rcases Nat.lt_succ_iff_lt_or_eq.1 q2 with h | h; exact ha j q1 h; subst h; exact h11) hM44 (by omega))
   ·
    have o12 : (Builtin.len_ #[9] 3 #[sS (termB (List.map fold (List.take (k - i) (List.drop i (decL s)))))]).run Try.prog w8 = .ok (iN ((termB (List.map fold (List.take (k - i) (List.drop i (decL s))))).length)) w8 := f_len (by kernel_rfl)
    refine GoS.run [4, 6, 7, 8, 76] [.n, .n, .n, .n, .n, .h (iN ((termB (List.map fold (List.take (k - i) (List.drop i (decL s))))).length)), .n, .n] _ [iC Try.f35 [1,1,1,1,1,0,1,0,0,1,0,0,1,1,1,0,1], iC Try.f35 uTokC6, .inBlock 1, iC Try.f35 uTokC2, iL Try.f35 uTokC0, .inBlock 0, iC Try.f35 uTokC1] [(4, vl), (6, vo), (7, iN i), (8, sS (termB (List.map fold (List.take (k - i) (List.drop i (decL s)))))), (76, .bool (decide ((((termB (List.map fold (List.take (k - i) (List.drop i (decL s))))).length : Nat) : Int) > 64)))] w8 (by kernel_rfl) (.cons o12 .nil) ?_
    refine GoS.cond (decide ((((termB (List.map fold (List.take (k - i) (List.drop i (decL s))))).length : Nat) : Int) > 64)) [iC Try.f35 [1,1,1,1,1,0,1,0,0,1,0,0,1,1,1,0,1,0], iC Try.f35 uTokC6, .inBlock 1, iC Try.f35 uTokC2, iL Try.f35 uTokC0, .inBlock 0, iC Try.f35 uTokC1] [iC Try.f35 [1,1,1,1,1,0,1,0,0,1,0,0,1,1,1,0,1,1], iC Try.f35 uTokC6, .inBlock 1, iC Try.f35 uTokC2, iL Try.f35 uTokC0, .inBlock 0, iC Try.f35 uTokC1] (by kernel_rfl) (fun h13 => ?_) (fun h13 => ?_)
    ·
     have h13p : (((termB (List.map fold (List.take (k - i) (List.drop i (decL s))))).length : Nat) : Int) > 64 := of_decide_eq_true h13
     have hM14 := hM10.sub (sD (sD sR))
     refine GoS.run [2, 3] [.n, .n, .n, .n, .n] _ [iC Try.f35 [1,1,1,1,1,0,1,0,0,1,0,0,1,1,1,0,1,0,1], iC Try.f35 uTokC6, .inBlock 1, iC Try.f35 uTokC2, iL Try.f35 uTokC0, .inBlock 0, iC Try.f35 uTokC1] [(2, .slice none 0 0), (3, .int .i64 4)] w8 (by kernel_rfl) .nil ?_
     refine GoS.ret (fn := Try.f35) (v := (.tuple #[.slice none 0 0, .int .i64 4])) Try.func35 (by kernel_rfl) ?_
     rw [hR]
     obtain ⟨e1, e2⟩ := tok_no h4 hd (by rw [hw, rest_word hik hk hi hb ha h0 (.inr h11)]; exact fits_no (by omega))
     exact ⟨_, by rw [e2], by rw [e1]; exact hM14.nilrow 79 2⟩
    ·
     have h13p : ¬ ((((termB (List.map fold (List.take (k - i) (List.drop i (decL s))))).length : Nat) : Int) > 64) := of_decide_eq_false h13
     refine GoS.run [4, 6, 7, 8] [.n] _ [iC Try.f35 uTokC6, .inBlock 1, iC Try.f35 uTokC2, iL Try.f35 uTokC0, .inBlock 0, iC Try.f35 uTokC1] [(4, vl), (6, vo), (7, iN i), (8, sS (termB (List.map fold (List.take (k - i) (List.drop i (decL s))))))] w8 (by kernel_rfl) .nil ?_
     have o24 : (Builtin.len_ #[64] 3 #[vo]).run Try.prog w8 = .ok (iN (List.length (toks ws))) w8 := f_slen sT64 (hM10.rd 0 rfl) 3 _
     obtain ⟨v15, w16, hr17, hM18⟩ := m_lit sT64 hM10 (n := 1) (parts := #[(0, .agg #[sS (termB (List.map fold (List.take (k - i) (List.drop i (decL s))))), iN (List.length (toks ws))])]) (cs := [sS (termB (List.map fold (List.take (k - i) (List.drop i (decL s))))), iN (List.length (toks ws))]) (by decide) (by kernel_rfl) rfl
     obtain ⟨v19, w20, hr21, hM22⟩ := m_append sT64 hM18 1 rfl (hM18.rd 0 rfl) (by intro u hu; simp at hu; rcases hu with rfl | rfl <;> rfl) (by first | omega | ((try dsimp only); rw [toks_len]; omega)) (by first | omega | ((try dsimp only); rw [toks_len]; omega)) 64
     have hM23 : Mem [] w0 w20 [⟨79, 2, v15, 1, [sS (termB (List.map fold (List.take (k - i) (List.drop i (decL s))))), iN (List.length (toks ws))]⟩, ⟨79, 2, v19, (List.length ((toks ws) ++ ([(Tok.mk (termB (List.map fold (List.take (k - i) (List.drop i (decL s))))) (((List.length (toks ws)) : Nat) : Int))] : List Tok))), (recs tokc ((toks ws) ++ ([(Tok.mk (termB (List.map fold (List.take (k - i) (List.drop i (decL s))))) (((List.length (toks ws)) : Nat) : Int))] : List Tok)))⟩, ⟨3, 1, vl, (List.length (decL s)), (ivals .i64 (decL s))⟩] := hM22.cast (by first | (simp [ivals, svals, bvals, nvals, u8s, Nat.add_assoc, recs, tokc]; done) | (simp [ivals, svals, bvals, nvals, u8s, Nat.add_assoc, recs, tokc]; omega))
     have o25 : (binOp .add 3 (iN i) (.int .i64 1)).run Try.prog w20 = .ok (iN (i + 1)) w20 := f_add (by rw [show ((i : Nat) : Int) + 1 = (((i + 1) : Nat) : Int) by omega]; exact IntWalk.i64_in _ (by omega))
     have hM26 := hM23.sub (sD (sK (sK sR)))
     refine GoS.run [4, 6, 7] [.n, .n, .n, .n, .h (iN (List.length (toks ws))), .n, .u (v15) (w16), .u (v19) (w20), .n, .n, .n, .n, .n, .h (iN (i + 1)), .n, .n, .n] _ [iC Try.f35 uTokC0, iL Try.f35 uTokC0, .inBlock 0, iC Try.f35 uTokC1] [(4, vl), (6, v19), (7, iN (i + 1))] w20 (by kernel_rfl) (.cons o24 (.cons hr17 (.cons hr21 (.cons o25 .nil)))) ?_
     refine out _ (ws ++ [(List.map fold (List.take (k - i) (List.drop i (decL s))))]) (i + 1) _ (by omega) (by omega) ?_ (fits_snoc hf (by omega)) (hM26.cast (by rw [toks_snoc]; simp [toks_len]))
     rw [hw, rest_word hik hk hi hb ha h0 (.inr h11), List.append_assoc]; rfl
  ·
   have h2p : ¬ (((k : Nat) : Int) < (((List.length (decL s)) : Nat) : Int)) := of_decide_eq_false h2
   refine GoS.run [4, 6, 7, 8, 9, 58] [.n, .n, .n, .n, .n, .n] _ [.inRegion (cops (csub (cd Try.f35) uTokC11)) [], iC Try.f35 uTokC10, iC Try.f35 uTokC8, iL Try.f35 uTokC3, .inBlock 2, iC Try.f35 uTokC4, .inBlock 1, iC Try.f35 uTokC2, iL Try.f35 uTokC0, .inBlock 0, iC Try.f35 uTokC1] [(4, vl), (6, vo), (7, iN i), (8, sS (termB (List.map fold (List.take (k - i) (List.drop i (decL s)))))), (9, iN k), (58, .bool false)] w (by kernel_rfl) .nil ?_
   have o45 : (Builtin.len_ #[9] 3 #[sS (termB (List.map fold (List.take (k - i) (List.drop i (decL s)))))]).run Try.prog w = .ok (iN ((termB (List.map fold (List.take (k - i) (List.drop i (decL s))))).length)) w := f_len (by kernel_rfl)
   refine GoS.run [4, 6, 7, 8, 76] [.n, .n, .n, .n, .n, .n, .n, .h (iN ((termB (List.map fold (List.take (k - i) (List.drop i (decL s))))).length)), .n, .n] _ [iC Try.f35 [1,1,1,1,1,0,1,0,0,1,0,0,1,1,1,0,1], iC Try.f35 uTokC6, .inBlock 1, iC Try.f35 uTokC2, iL Try.f35 uTokC0, .inBlock 0, iC Try.f35 uTokC1] [(4, vl), (6, vo), (7, iN i), (8, sS (termB (List.map fold (List.take (k - i) (List.drop i (decL s)))))), (76, .bool (decide ((((termB (List.map fold (List.take (k - i) (List.drop i (decL s))))).length : Nat) : Int) > 64)))] w (by kernel_rfl) (.cons o45 .nil) ?_
   refine GoS.cond (decide ((((termB (List.map fold (List.take (k - i) (List.drop i (decL s))))).length : Nat) : Int) > 64)) [iC Try.f35 [1,1,1,1,1,0,1,0,0,1,0,0,1,1,1,0,1,0], iC Try.f35 uTokC6, .inBlock 1, iC Try.f35 uTokC2, iL Try.f35 uTokC0, .inBlock 0, iC Try.f35 uTokC1] [iC Try.f35 [1,1,1,1,1,0,1,0,0,1,0,0,1,1,1,0,1,1], iC Try.f35 uTokC6, .inBlock 1, iC Try.f35 uTokC2, iL Try.f35 uTokC0, .inBlock 0, iC Try.f35 uTokC1] (by kernel_rfl) (fun h46 => ?_) (fun h46 => ?_)
   ·
    have h46p : (((termB (List.map fold (List.take (k - i) (List.drop i (decL s))))).length : Nat) : Int) > 64 := of_decide_eq_true h46
    have hM47 := hM.sub (sD (sD sR))
    refine GoS.run [2, 3] [.n, .n, .n, .n, .n] _ [iC Try.f35 [1,1,1,1,1,0,1,0,0,1,0,0,1,1,1,0,1,0,1], iC Try.f35 uTokC6, .inBlock 1, iC Try.f35 uTokC2, iL Try.f35 uTokC0, .inBlock 0, iC Try.f35 uTokC1] [(2, .slice none 0 0), (3, .int .i64 4)] w (by kernel_rfl) .nil ?_
    refine GoS.ret (fn := Try.f35) (v := (.tuple #[.slice none 0 0, .int .i64 4])) Try.func35 (by kernel_rfl) ?_
    rw [hR]
    obtain ⟨e1, e2⟩ := tok_no h4 hd (by rw [hw, rest_word hik hk hi hb ha h0 (.inl (by omega))]; exact fits_no (by omega))
    exact ⟨_, by rw [e2], by rw [e1]; exact hM47.nilrow 79 2⟩
   ·
    have h46p : ¬ ((((termB (List.map fold (List.take (k - i) (List.drop i (decL s))))).length : Nat) : Int) > 64) := of_decide_eq_false h46
    refine GoS.run [4, 6, 7, 8] [.n] _ [iC Try.f35 uTokC6, .inBlock 1, iC Try.f35 uTokC2, iL Try.f35 uTokC0, .inBlock 0, iC Try.f35 uTokC1] [(4, vl), (6, vo), (7, iN i), (8, sS (termB (List.map fold (List.take (k - i) (List.drop i (decL s))))))] w (by kernel_rfl) .nil ?_
    have o57 : (Builtin.len_ #[64] 3 #[vo]).run Try.prog w = .ok (iN (List.length (toks ws))) w := f_slen sT64 (hM.rd 0 rfl) 3 _
    obtain ⟨v48, w49, hr50, hM51⟩ := m_lit sT64 hM (n := 1) (parts := #[(0, .agg #[sS (termB (List.map fold (List.take (k - i) (List.drop i (decL s))))), iN (List.length (toks ws))])]) (cs := [sS (termB (List.map fold (List.take (k - i) (List.drop i (decL s))))), iN (List.length (toks ws))]) (by decide) (by kernel_rfl) rfl
    obtain ⟨v52, w53, hr54, hM55⟩ := m_append sT64 hM51 1 rfl (hM51.rd 0 rfl) (by intro u hu; simp at hu; rcases hu with rfl | rfl <;> rfl) (by first | omega | ((try dsimp only); rw [toks_len]; omega)) (by first | omega | ((try dsimp only); rw [toks_len]; omega)) 64
    have hM56 : Mem [] w0 w53 [⟨79, 2, v48, 1, [sS (termB (List.map fold (List.take (k - i) (List.drop i (decL s))))), iN (List.length (toks ws))]⟩, ⟨79, 2, v52, (List.length ((toks ws) ++ ([(Tok.mk (termB (List.map fold (List.take (k - i) (List.drop i (decL s))))) (((List.length (toks ws)) : Nat) : Int))] : List Tok))), (recs tokc ((toks ws) ++ ([(Tok.mk (termB (List.map fold (List.take (k - i) (List.drop i (decL s))))) (((List.length (toks ws)) : Nat) : Int))] : List Tok)))⟩, ⟨3, 1, vl, (List.length (decL s)), (ivals .i64 (decL s))⟩] := hM55.cast (by first | (simp [ivals, svals, bvals, nvals, u8s, Nat.add_assoc, recs, tokc]; done) | (simp [ivals, svals, bvals, nvals, u8s, Nat.add_assoc, recs, tokc]; omega))
    have o58 : (binOp .add 3 (iN i) (.int .i64 1)).run Try.prog w53 = .ok (iN (i + 1)) w53 := f_add (by rw [show ((i : Nat) : Int) + 1 = (((i + 1) : Nat) : Int) by omega]; exact IntWalk.i64_in _ (by omega))
    have hM59 := hM56.sub (sD (sK (sK sR)))
    refine GoS.run [4, 6, 7] [.n, .n, .n, .n, .h (iN (List.length (toks ws))), .n, .u (v48) (w49), .u (v52) (w53), .n, .n, .n, .n, .n, .h (iN (i + 1)), .n, .n, .n] _ [iC Try.f35 uTokC0, iL Try.f35 uTokC0, .inBlock 0, iC Try.f35 uTokC1] [(4, vl), (6, v52), (7, iN (i + 1))] w53 (by kernel_rfl) (.cons o57 (.cons hr50 (.cons hr54 (.cons o58 .nil)))) ?_
    refine out _ (ws ++ [(List.map fold (List.take (k - i) (List.drop i (decL s))))]) (i + 1) _ (by omega) (by omega) ?_ (fits_snoc hf (by omega)) (hM59.cast (by rw [toks_snoc]; simp [toks_len]))
    rw [hw, rest_word hik hk hi hb ha h0 (.inl (by omega)), List.append_assoc]; rfl

set_option maxHeartbeats 400000 in
theorem rtok_L (s : List UInt8) {w0 : World} (h4 : ¬ 4096 < s.length) (hd : decE s = 0) (vl : Value) (R : Ending → World → Prop) (hR : R = (fun e w' => ∃ v, e = .returned (.tuple #[v, .int .i64 (tokE s)]) ∧ Mem [] w0 w' [⟨79, 2, v, (List.length (tokL s)), (recs tokc (tokL s))⟩])) : ∀ (N : Nat) (vo : Value) (ws : List (List Int)) (i : Nat) (w : World) (hi : i ≤ (decL s).length) (hw : words (decL s) = ws ++ restG (bef (decL s) i) ((decL s).drop i)) (hf : fits ws = true) (hM : Mem [] w0 w [⟨79, 2, vo, (List.length (toks ws)), (recs tokc (toks ws))⟩, ⟨3, 1, vl, (List.length (decL s)), (ivals .i64 (decL s))⟩]) (hN : (decL s).length - i < N), GoS Try.prog 35 R 85 [iC Try.f35 uTokC0, iL Try.f35 uTokC0, .inBlock 0, iC Try.f35 uTokC1] [(4, vl), (6, vo), (7, iN i)] w := by
 intro N
 induction N with
 | zero => intro vo ws i w hi hw hf hM hN; exact absurd hN (Nat.not_lt_zero _)
 | succ N ih =>
  intro vo ws i w hi hw hf hM hN
  have hq := @decL_len s
  have hws := words_count hw
  have htk := toks_len ws
  have o1 : (Builtin.len_ #[86] 3 #[vl]).run Try.prog w = .ok (iN (List.length (decL s))) w := f_slen sT86 (hM.rd 1 rfl) 3 _
  refine GoS.run [4, 6, 7, 26] [.n, .n, .n, .n, .n, .h (iN (List.length (decL s))), .n, .n] _ [iC Try.f35 [1,1,1,1,1,0,1,0,0,0,1], iC Try.f35 uTokC15, iL Try.f35 uTokC0, .inBlock 0, iC Try.f35 uTokC1] [(4, vl), (6, vo), (7, iN i), (26, .bool (decide (((i : Nat) : Int) < (((List.length (decL s)) : Nat) : Int))))] w (by kernel_rfl) (.cons o1 .nil) ?_
  refine GoS.cond (decide (((i : Nat) : Int) < (((List.length (decL s)) : Nat) : Int))) [iC Try.f35 [1,1,1,1,1,0,1,0,0,0,1,0], iC Try.f35 uTokC15, iL Try.f35 uTokC0, .inBlock 0, iC Try.f35 uTokC1] [iC Try.f35 [1,1,1,1,1,0,1,0,0,0,1,1], iC Try.f35 uTokC15, iL Try.f35 uTokC0, .inBlock 0, iC Try.f35 uTokC1] (by kernel_rfl) (fun h2 => ?_) (fun h2 => ?_)
  ·
   have h2p : ((i : Nat) : Int) < (((List.length (decL s)) : Nat) : Int) := of_decide_eq_true h2
   refine GoS.run [4, 6, 7] [.n] _ [iC Try.f35 uTokC15, iL Try.f35 uTokC0, .inBlock 0, iC Try.f35 uTokC1] [(4, vl), (6, vo), (7, iN i)] w (by kernel_rfl) .nil ?_
   obtain ⟨p4, hp5, hq6⟩ := rd_at (i := ((i : Nat) : Int)) sT86 (hM.rd 1 rfl) i (by omega) (by first | omega | ((try dsimp only); omega))
   have o7 : (Instr.indexAt 86 (vl) (iN i)).run Try.prog w = .ok (.pointer (some p4)) w := hq6 _ _
   have o8 : (Instr.loadAt 3 (.pointer (some p4))).run Try.prog w = .ok (.int .i64 (List.getD (decL s) i 0)) w := at_load pE3 (hM.rd 1 rfl) hp5 (ivals_at (by first | omega | ((try dsimp only); omega)))
   refine GoS.run [4, 6, 7, 32] [.n, .n, .n, .n, .n, .n, .n, .h (.pointer (some p4)), .h (.int .i64 (List.getD (decL s) i 0))] _ [.inRegion (cops (csub (cd Try.f35) uTokC9)) [4,5,6,7,8,9,10,11,12,13,14,15,16,17], iC Try.f35 uTokC7, iC Try.f35 uTokC5, .inBlock 1, iC Try.f35 uTokC2, iL Try.f35 uTokC0, .inBlock 0, iC Try.f35 uTokC1] [(4, vl), (6, vo), (7, iN i), (32, .int .i64 (List.getD (decL s) i 0))] w (by kernel_rfl) (.cons o7 (.cons o8 .nil)) ?_
   refine GoS.call [4, 6, 7] 51 #[.int .i64 (List.getD (decL s) i 0)] (some 33) [.inRegion (cops (csub (cd Try.f35) uTokC9)) [5,6,7,8,9,10,11,12,13,14,15,16,17], iC Try.f35 uTokC7, iC Try.f35 uTokC5, .inBlock 1, iC Try.f35 uTokC2, iL Try.f35 uTokC0, .inBlock 0, iC Try.f35 uTokC1] [(4, vl), (6, vo), (7, iN i)] (by kernel_rfl) (rletter_c (List.getD (decL s) i 0) w) ?_
   rintro _ w9 ⟨rfl, m10⟩
   refine ⟨_, rfl, ?_⟩
   have hM11 := Mem.join hM m10
   refine GoS.run [4, 6, 7, 35] [.n, .n] _ [.inRegion (cops (csub (cd Try.f35) uTokC9)) [7,8,9,10,11,12,13,14,15,16,17], iC Try.f35 uTokC7, iC Try.f35 uTokC5, .inBlock 1, iC Try.f35 uTokC2, iL Try.f35 uTokC0, .inBlock 0, iC Try.f35 uTokC1] [(4, vl), (6, vo), (7, iN i), (35, .bool (!(letter (List.getD (decL s) i 0))))] w9 (by kernel_rfl) .nil ?_
   refine GoS.fork 35 (!(letter (List.getD (decL s) i 0))) (by kernel_rfl) (fun h12 => ?_) (fun h12 => ?_)
   ·
    refine GoS.run [4, 6, 7, 46] [.n, .n, .n, .n, .n, .n, .n, .n, .n, .n, .n] _ [.inRegion (cops (csub (cd Try.f35) uTokC9)) [], iC Try.f35 uTokC7, iC Try.f35 uTokC5, .inBlock 1, iC Try.f35 uTokC2, iL Try.f35 uTokC0, .inBlock 0, iC Try.f35 uTokC1] [(4, vl), (6, vo), (7, iN i), (46, .bool true)] w9 (by kernel_rfl) .nil ?_
    have o23 : (binOp .add 3 (iN i) (.int .i64 1)).run Try.prog w9 = .ok (iN (i + 1)) w9 := f_add (by rw [show ((i : Nat) : Int) + 1 = (((i + 1) : Nat) : Int) by omega]; exact IntWalk.i64_in _ (by omega))
    refine GoS.run [4, 6, 7] [.n, .n, .n, .n, .n, .h (iN (i + 1)), .n, .n, .n] _ [iC Try.f35 uTokC0, iL Try.f35 uTokC0, .inBlock 0, iC Try.f35 uTokC1] [(4, vl), (6, vo), (7, iN (i + 1))] w9 (by kernel_rfl) (.cons o23 .nil) ?_
    exact ih vo ws (i + 1) _ (by omega) (by rw [hw, rest_step (by omega) (.inl (p_nf h12))]) hf hM11 (by omega)
   ·
    refine GoS.run [4, 6, 7, 35, 38] [.n, .n, .n] _ [.inRegion (cops (csub (cd Try.f35) uTokC9)) [10,11,12,13,14,15,16,17], iC Try.f35 uTokC7, iC Try.f35 uTokC5, .inBlock 1, iC Try.f35 uTokC2, iL Try.f35 uTokC0, .inBlock 0, iC Try.f35 uTokC1] [(4, vl), (6, vo), (7, iN i), (35, .bool false), (38, .bool (decide (((i : Nat) : Int) > 0)))] w9 (by kernel_rfl) .nil ?_
    refine GoS.fork 38 (decide (((i : Nat) : Int) > 0)) (by kernel_rfl) (fun h13 => ?_) (fun h13 => ?_)
    ·
     have h13p : ((i : Nat) : Int) > 0 := of_decide_eq_true h13
     have o17 : (binOp .sub 3 (iN i) (.int .i64 1)).run Try.prog w9 = .ok (.int .i64 (((i : Nat) : Int) - 1)) w9 := f_sub (IntWalk.i64_in _ (by omega))
     obtain ⟨p14, hp15, hq16⟩ := rd_at (i := (((i : Nat) : Int) - 1)) sT86 (hM11.rd 1 rfl) (Int.toNat (((i : Nat) : Int) - 1)) (by omega) (by first | omega | ((try dsimp only); omega))
     have o18 : (Instr.indexAt 86 (vl) (.int .i64 (((i : Nat) : Int) - 1))).run Try.prog w9 = .ok (.pointer (some p14)) w9 := hq16 _ _
     have o19 : (Instr.loadAt 3 (.pointer (some p14))).run Try.prog w9 = .ok (.int .i64 (List.getD (decL s) (Int.toNat (((i : Nat) : Int) - 1)) 0)) w9 := at_load pE3 (hM11.rd 1 rfl) hp15 (ivals_at (by first | omega | ((try dsimp only); omega)))
     refine GoS.run [4, 6, 7, 35, 38, 43] [.n, .n, .h (.int .i64 (((i : Nat) : Int) - 1)), .h (.pointer (some p14)), .h (.int .i64 (List.getD (decL s) (Int.toNat (((i : Nat) : Int) - 1)) 0))] _ [.inRegion (cops (csub (cd Try.f35) uTokC9)) [15,16,17], iC Try.f35 uTokC7, iC Try.f35 uTokC5, .inBlock 1, iC Try.f35 uTokC2, iL Try.f35 uTokC0, .inBlock 0, iC Try.f35 uTokC1] [(4, vl), (6, vo), (7, iN i), (35, .bool false), (38, .bool true), (43, .int .i64 (List.getD (decL s) (Int.toNat (((i : Nat) : Int) - 1)) 0))] w9 (by kernel_rfl) (.cons o17 (.cons o18 (.cons o19 .nil))) ?_
     refine GoS.call [4, 6, 7, 35, 38] 51 #[.int .i64 (List.getD (decL s) (Int.toNat (((i : Nat) : Int) - 1)) 0)] (some 44) [.inRegion (cops (csub (cd Try.f35) uTokC9)) [16,17], iC Try.f35 uTokC7, iC Try.f35 uTokC5, .inBlock 1, iC Try.f35 uTokC2, iL Try.f35 uTokC0, .inBlock 0, iC Try.f35 uTokC1] [(4, vl), (6, vo), (7, iN i), (35, .bool false), (38, .bool true)] (by kernel_rfl) (rletter_c (List.getD (decL s) (Int.toNat (((i : Nat) : Int) - 1)) 0) w9) ?_
     rintro _ w20 ⟨rfl, m21⟩
     refine ⟨_, rfl, ?_⟩
     have hM22 := Mem.join hM11 m21
     refine GoS.run [4, 6, 7, 46] [.n, .n] _ [.inRegion (cops (csub (cd Try.f35) uTokC9)) [], iC Try.f35 uTokC7, iC Try.f35 uTokC5, .inBlock 1, iC Try.f35 uTokC2, iL Try.f35 uTokC0, .inBlock 0, iC Try.f35 uTokC1] [(4, vl), (6, vo), (7, iN i), (46, .bool (letter (List.getD (decL s) (Int.toNat (((i : Nat) : Int) - 1)) 0)))] w20 (by kernel_rfl) .nil ?_
     refine GoS.run [4, 6, 7, 46] [.n] _ [iC Try.f35 uTokC7, iC Try.f35 uTokC5, .inBlock 1, iC Try.f35 uTokC2, iL Try.f35 uTokC0, .inBlock 0, iC Try.f35 uTokC1] [(4, vl), (6, vo), (7, iN i), (46, .bool (letter (List.getD (decL s) (Int.toNat (((i : Nat) : Int) - 1)) 0)))] w20 (by kernel_rfl) .nil ?_
     refine GoS.cond (letter (List.getD (decL s) (Int.toNat (((i : Nat) : Int) - 1)) 0)) [iC Try.f35 [1,1,1,1,1,0,1,0,0,1,0,0,0,1,0], iC Try.f35 uTokC5, .inBlock 1, iC Try.f35 uTokC2, iL Try.f35 uTokC0, .inBlock 0, iC Try.f35 uTokC1] [iC Try.f35 [1,1,1,1,1,0,1,0,0,1,0,0,0,1,1], iC Try.f35 uTokC5, .inBlock 1, iC Try.f35 uTokC2, iL Try.f35 uTokC0, .inBlock 0, iC Try.f35 uTokC1] (by kernel_rfl) (fun h24 => ?_) (fun h24 => ?_)
     ·
      have o25 : (binOp .add 3 (iN i) (.int .i64 1)).run Try.prog w20 = .ok (iN (i + 1)) w20 := f_add (by rw [show ((i : Nat) : Int) + 1 = (((i + 1) : Nat) : Int) by omega]; exact IntWalk.i64_in _ (by omega))
      refine GoS.run [4, 6, 7] [.n, .n, .n, .h (iN (i + 1)), .n, .n, .n] _ [iC Try.f35 uTokC0, iL Try.f35 uTokC0, .inBlock 0, iC Try.f35 uTokC1] [(4, vl), (6, vo), (7, iN (i + 1))] w20 (by kernel_rfl) (.cons o25 .nil) ?_
      exact ih vo ws (i + 1) _ (by omega) (by rw [hw, rest_step (by omega) (.inr (by unfold bef; rw [if_neg (by omega)]; simpa using h24))]) hf hM22 (by omega)
     ·
      refine GoS.run [4, 6, 7] [.n] _ [iC Try.f35 uTokC5, .inBlock 1, iC Try.f35 uTokC2, iL Try.f35 uTokC0, .inBlock 0, iC Try.f35 uTokC1] [(4, vl), (6, vo), (7, iN i)] w20 (by kernel_rfl) .nil ?_
      refine GoS.run [4, 6, 7, 8, 9] [.n, .n, .n, .n, .n, .n, .n, .n, .n, .n, .n, .n] _ [iC Try.f35 uTokC3, iL Try.f35 uTokC3, .inBlock 2, iC Try.f35 uTokC4, .inBlock 1, iC Try.f35 uTokC2, iL Try.f35 uTokC0, .inBlock 0, iC Try.f35 uTokC1] [(4, vl), (6, vo), (7, iN i), (8, sS ([])), (9, iN i)] w20 (by kernel_rfl) .nil ?_
      refine GoS.cast (by rw [Nat.sub_self, List.take_zero]; rfl) (rtok_L2 s h4 hd vl vo ws i (by omega) (p_nt h12) (by unfold bef; rw [if_neg (by omega)]; simpa using h24) hw hf R hR ((decL s).length + 1) i w20 (fun vo ws i' w q1 q2 q3 q4 q5 => ih vo ws i' w q2 q3 q4 q5 (by omega)) (by omega) (by omega) (by intro j q1 q2; omega) hM22 (by omega))
    ·
     have h13p : ¬ (((i : Nat) : Int) > 0) := of_decide_eq_false h13
     refine GoS.run [4, 6, 7, 46] [.n, .n, .n, .n, .n, .n, .n, .n] _ [.inRegion (cops (csub (cd Try.f35) uTokC9)) [], iC Try.f35 uTokC7, iC Try.f35 uTokC5, .inBlock 1, iC Try.f35 uTokC2, iL Try.f35 uTokC0, .inBlock 0, iC Try.f35 uTokC1] [(4, vl), (6, vo), (7, iN i), (46, .bool false)] w9 (by kernel_rfl) .nil ?_
     refine GoS.run [4, 6, 7, 8, 9] [.n, .n, .n, .n, .n, .n, .n, .n, .n, .n, .n, .n, .n, .n, .n] _ [iC Try.f35 uTokC3, iL Try.f35 uTokC3, .inBlock 2, iC Try.f35 uTokC4, .inBlock 1, iC Try.f35 uTokC2, iL Try.f35 uTokC0, .inBlock 0, iC Try.f35 uTokC1] [(4, vl), (6, vo), (7, iN i), (8, sS ([])), (9, iN i)] w9 (by kernel_rfl) .nil ?_
     refine GoS.cast (by rw [Nat.sub_self, List.take_zero]; rfl) (rtok_L2 s h4 hd vl vo ws i (by omega) (p_nt h12) (by unfold bef; rw [if_pos (by omega)]) hw hf R hR ((decL s).length + 1) i w9 (fun vo ws i' w q1 q2 q3 q4 q5 => ih vo ws i' w q2 q3 q4 q5 (by omega)) (by omega) (by omega) (by intro j q1 q2; omega) hM11 (by omega))
  ·
   have h2p : ¬ (((i : Nat) : Int) < (((List.length (decL s)) : Nat) : Int)) := of_decide_eq_false h2
   have hM3 := hM.sub (sK (sD sR))
   refine GoS.run [2, 3] [.n, .n, .n, .n, .n, .n, .n] _ [iC Try.f35 [1,1,1,1,1,1,1]] [(2, vo), (3, .int .i64 0)] w (by kernel_rfl) .nil ?_
   refine GoS.ret (fn := Try.f35) (v := (.tuple #[vo, .int .i64 0])) Try.func35 (by kernel_rfl) ?_
   rw [hR]
   have e0 : words (decL s) = ws := by rw [hw, List.drop_of_length_le (by omega), restG_nil, List.append_nil]
   obtain ⟨e1, e2⟩ := tok_yes h4 hd e0 hf
   exact ⟨_, by rw [e2], by rw [e1]; exact hM3⟩

set_option maxHeartbeats 400000 in
theorem rtokens_c (s : List UInt8) (w : World) :
  Calls Try.prog 35 #[sS s] w (fun e w' => ∃ v, e = .returned (.tuple #[v, .int .i64 (tokE s)]) ∧ Mem [] w w' [⟨79, 2, v, (List.length (tokL s)), (recs tokc (tokL s))⟩]) := by
 have hq := @decL_len s
 obtain ⟨R, hR⟩ : ∃ R : Ending → World → Prop, R = (fun e w' => ∃ v, e = .returned (.tuple #[v, .int .i64 (tokE s)]) ∧ Mem [] w w' [⟨79, 2, v, (List.length (tokL s)), (recs tokc (tokL s))⟩]) := ⟨_, rfl⟩
 rw [← hR]
 refine GoS.enter (n := 85) Try.func35 (by kernel_rfl) rfl [(0, sS s)] (by kernel_rfl) (by kernel_rfl) ?_
 have hM0 := Mem.start w
 have o1 : (Builtin.len_ #[9] 3 #[sS s]).run Try.prog w = .ok (iN s.length) w := f_len (by kernel_rfl)
 refine GoS.run [0, 14] [.n, .n, .n, .n, .n, .n, .n, .n, .n, .h (iN s.length), .n, .n] _ [iC Try.f35 [1,0,1], iC Try.f35 [1,1]] [(0, sS s), (14, .bool (decide (((s.length : Nat) : Int) > 4096)))] w (by kernel_rfl) (.cons o1 .nil) ?_
 refine GoS.cond (decide (((s.length : Nat) : Int) > 4096)) [iC Try.f35 [1,0,1,0], iC Try.f35 [1,1]] [iC Try.f35 [1,0,1,1], iC Try.f35 [1,1]] (by kernel_rfl) (fun h2 => ?_) (fun h2 => ?_)
 ·
  have h2p : ((s.length : Nat) : Int) > 4096 := of_decide_eq_true h2
  refine GoS.run [2, 3] [.n, .n, .n, .n, .n] _ [iC Try.f35 [1,0,1,0,1], iC Try.f35 [1,1]] [(2, .slice none 0 0), (3, .int .i64 4)] w (by kernel_rfl) .nil ?_
  refine GoS.ret (fn := Try.f35) (v := (.tuple #[.slice none 0 0, .int .i64 4])) Try.func35 (by kernel_rfl) ?_
  rw [hR]
  obtain ⟨e1, e2⟩ := tok_long (s := s) (by omega)
  exact ⟨_, by rw [e2], by rw [e1]; exact hM0.nilrow 79 2⟩
 ·
  have h2p : ¬ (((s.length : Nat) : Int) > 4096) := of_decide_eq_false h2
  refine GoS.run [0] [.n] _ [iC Try.f35 [1,1]] [(0, sS s)] w (by kernel_rfl) .nil ?_
  refine GoS.run [16] [.n, .n, .n] _ [.inRegion (cops (csub (cd Try.f35) [1,1,0])) [1,2,3,4,5,6], iC Try.f35 [1,1,1]] [(16, sS s)] w (by kernel_rfl) .nil ?_
  refine GoS.call [] 50 #[sS s] (some 17) [.inRegion (cops (csub (cd Try.f35) [1,1,0])) [2,3,4,5,6], iC Try.f35 [1,1,1]] [] (by kernel_rfl) (rdecode_c s (by first | omega | (simp; done)) w) ?_
  rintro _ w3 ⟨v6, rfl, m4⟩
  refine ⟨_, rfl, ?_⟩
  have hM5 := Mem.join hM0 m4
  refine GoS.run [4, 5, 21] [.n, .n, .n, .n, .n, .n, .n, .n, .n, .n, .n, .n] _ [iC Try.f35 [1,1,1,0,1], iC Try.f35 [1,1,1,1]] [(4, v6), (5, .int .i64 (decE s)), (21, .bool ((decE s) != 0))] w3 (by kernel_rfl) .nil ?_
  refine GoS.cond ((decE s) != 0) [iC Try.f35 [1,1,1,0,1,0], iC Try.f35 [1,1,1,1]] [iC Try.f35 [1,1,1,0,1,1], iC Try.f35 [1,1,1,1]] (by kernel_rfl) (fun h7 => ?_) (fun h7 => ?_)
  ·
   have h7p : ¬ ((decE s) = 0) := bne_iff_ne.1 h7
   have hM8 := hM5.sub (sD sR)
   refine GoS.run [2, 3] [.n, .n, .n, .n, .n, .n] _ [iC Try.f35 [1,1,1,0,1,0,1], iC Try.f35 [1,1,1,1]] [(2, .slice none 0 0), (3, .int .i64 (decE s))] w3 (by kernel_rfl) .nil ?_
   refine GoS.ret (fn := Try.f35) (v := (.tuple #[.slice none 0 0, .int .i64 (decE s)])) Try.func35 (by kernel_rfl) ?_
   rw [hR]
   obtain ⟨e1, e2⟩ := tok_bad (s := s) (by omega) (bne_iff_ne.1 h7)
   exact ⟨_, by rw [e2], by rw [e1]; exact hM8.nilrow 79 2⟩
  ·
   have h7p : (decE s) = 0 := p_eq h7
   refine GoS.run [4] [.n] _ [iC Try.f35 [1,1,1,1]] [(4, v6)] w3 (by kernel_rfl) .nil ?_
   refine GoS.run [4, 6, 7] [.n, .n, .n, .n, .n, .n, .n, .n, .n, .n, .n] _ [iC Try.f35 uTokC0, iL Try.f35 uTokC0, .inBlock 0, iC Try.f35 uTokC1] [(4, v6), (6, .slice none 0 0), (7, .int .i64 0)] w3 (by kernel_rfl) .nil ?_
   have hq := @decL_len s
   have hM9 := hM5.nilrow 79 2
   exact rtok_L s (by omega) (p_eq h7) v6 R hR ((decL s).length + 1) (.slice none 0 0) [] 0 w3 (by omega) rfl rfl (hM9.cast (by simp [toks, toksF, recs])) (by omega)





end Go.Proofs.Ytcdcehjilneifaa
