/-
  The walks of Term and Folded.
-/
import Derived.Test.YtnhplkkbpmijdaaTokA
namespace Go.Proofs.Ytnhplkkbpmijdaa
open Go Go.Gw Go.UtfP Go.TokP Go.RowKit
set_option linter.unusedVariables false
set_option linter.unusedSimpArgs false

theorem pE9 : Plain Try.prog 9 := ⟨.string, by kernel_rfl, (fun _ h => by cases h), (fun _ _ h => by cases h)⟩

set_option maxHeartbeats 400000 in
theorem term_c (s : List UInt8) (w : World) :
    Calls Try.prog 25 #[.string (sb s)] w (fun e w' => e = .returned (.tuple #[.string (sb (termS s)), .int .i64 (termE s)]) ∧ Mem [] w w' []) := by
  obtain ⟨R, hR⟩ : ∃ R : Ending → World → Prop, R = (fun e w' => e = .returned (.tuple #[.string (sb (termS s)), .int .i64 (termE s)]) ∧ Mem [] w w' []) := ⟨_, rfl⟩
  rw [← hR]
  refine GoS.enter (n := 23) Try.func25 (by kernel_rfl) rfl [(0, .string (sb s))] (by kernel_rfl) (by kernel_rfl) ?_
  have hM0 := Mem.start w
  refine GoS.run [7] [.n, .n, .n, .n, .n, .n, .n, .n] _ [.inRegion (cops (csub (cd Try.f25) [1,0])) [1,2,3,4,5,6], .code (csub (cd Try.f25) [1,1])] [(7, .string (sb s))] w (by kernel_rfl) .nil ?_
  refine GoS.call [] 26 #[.string (sb s)] (some 8) [.inRegion (cops (csub (cd Try.f25) [1,0])) [2,3,4,5,6], .code (csub (cd Try.f25) [1,1])] [] (by kernel_rfl) (tokens_c s w) ?_
  rintro _ w1 ⟨v4, rfl, m2⟩
  refine ⟨_, rfl, ?_⟩
  have hM3 := Mem.join hM0 m2
  refine GoS.run [4, 5, 11] [.n, .n, .n, .n, .n, .n, .n, .n, .n, .n, .n, .n, .n, .n] _ [.code (csub (cd Try.f25) [1,1,0,0,1]), .inBlock 0, .code (csub (cd Try.f25) [1,1,1])] [(4, v4), (5, .int .i64 (tokE s)), (11, .bool ((tokE s) != 0))] w1 (by kernel_rfl) .nil ?_
  refine GoS.cond ((tokE s) != 0) [.code (csub (cd Try.f25) [1,1,0,0,1,0]), .inBlock 0, .code (csub (cd Try.f25) [1,1,1])] [.code (csub (cd Try.f25) [1,1,0,0,1,1]), .inBlock 0, .code (csub (cd Try.f25) [1,1,1])] (by kernel_rfl) (fun h5 => ?_) (fun h5 => ?_)
  ·
    have h5p : ¬ ((tokE s) = 0) := bne_iff_ne.1 h5
    have hM6 : Mem [] w w1 [] := hM3.sub (List.Sublist.cons _ (List.Sublist.refl _))
    refine GoS.run [2, 3] [.n, .n, .n, .n, .n, .n] _ [.code (csub (cd Try.f25) [1,1,0,0,1,0,1]), .inBlock 0, .code (csub (cd Try.f25) [1,1,1])] [(2, .string (sb ([]))), (3, .int .i64 (tokE s))] w1 (by kernel_rfl) .nil ?_
    refine GoS.ret (fn := Try.f25) (v := (.tuple #[.string (sb ([])), .int .i64 (tokE s)])) Try.func25 (by kernel_rfl) ?_
    rw [hR]
    obtain ⟨e1, e2⟩ := term_bad (s := s) (bne_iff_ne.1 h5)
    exact ⟨ret_str2 e1.symm e2.symm, hM6⟩
  ·
    have h5p : (tokE s) = 0 := p_eq h5
    have o7 : (Builtin.len_ #[43] 3 #[v4]).run Try.prog w1 = .ok (.int .i64 (((List.length (tokL s)) : Nat) : Int)) w1 := f_slen sT43 (hM3.rd 0 rfl) 3 _
    refine GoS.run [4, 15] [.n, .n, .n, .h (.int .i64 (((List.length (tokL s)) : Nat) : Int)), .n, .n, .n] _ [.code (csub (cd Try.f25) [1,1,0,0,1,1,1]), .inBlock 0, .code (csub (cd Try.f25) [1,1,1])] [(4, v4), (15, .bool ((((List.length (tokL s)) : Nat) : Int) != 1))] w1 (by kernel_rfl) (.cons o7 .nil) ?_
    refine GoS.cond ((((List.length (tokL s)) : Nat) : Int) != 1) [.code (csub (cd Try.f25) [1,1,0,0,1,1,1,0]), .inBlock 0, .code (csub (cd Try.f25) [1,1,1])] [.code (csub (cd Try.f25) [1,1,0,0,1,1,1,1]), .inBlock 0, .code (csub (cd Try.f25) [1,1,1])] (by kernel_rfl) (fun h8 => ?_) (fun h8 => ?_)
    ·
      have h8p : ¬ ((((List.length (tokL s)) : Nat) : Int) = 1) := bne_iff_ne.1 h8
      have hM9 : Mem [] w w1 [] := hM3.sub (List.Sublist.cons _ (List.Sublist.refl _))
      refine GoS.run [2, 3] [.n, .n, .n, .n, .n] _ [.code (csub (cd Try.f25) [1,1,0,0,1,1,1,0,1]), .inBlock 0, .code (csub (cd Try.f25) [1,1,1])] [(2, .string (sb ([]))), (3, .int .i64 20)] w1 (by kernel_rfl) .nil ?_
      refine GoS.ret (fn := Try.f25) (v := (.tuple #[.string (sb ([])), .int .i64 20])) Try.func25 (by kernel_rfl) ?_
      rw [hR]
      obtain ⟨e1, e2⟩ := term_many (s := s) (p_eq h5) (by omega)
      exact ⟨ret_str2 e1.symm e2.symm, hM9⟩
    ·
      have h8p : (((List.length (tokL s)) : Nat) : Int) = 1 := p_eq h8
      refine GoS.run [4] [.n] _ [.inBlock 0, .code (csub (cd Try.f25) [1,1,1])] [(4, v4)] w1 (by kernel_rfl) .nil ?_
      obtain ⟨p10, hp11, hq12⟩ := rd_at (i := 0) sT43 (hM3.rd 0 rfl) 0 (by omega) (by first | omega | (dsimp only; omega))
      have o13 : (Instr.indexAt 43 (v4) (.int .i64 0)).run Try.prog w1 = .ok (.pointer (some p10)) w1 := hq12 _ _
      have o14 : (Instr.loadAt 9 (.pointer (some (Addr.add p10 0)))).run Try.prog w1 = .ok (.string (sb ((List.getD (tokL s) 0 (Tok.mk [] 0)).t))) w1 := c_load pE9 (hM3.rd 0 rfl) (Cel.add (At.cel hp11) 0) (recs_at (i := 0) tokc_len (Tok.mk [] 0) (by first | omega | (dsimp only; omega)) rfl)
      have hM15 : Mem [] w w1 [] := hM3.sub (List.Sublist.cons _ (List.Sublist.refl _))
      refine GoS.run [2, 3] [.n, .n, .n, .n, .h (.pointer (some p10)), .n, .h (.string (sb ((List.getD (tokL s) 0 (Tok.mk [] 0)).t))), .n, .n, .n] _ [.code (csub (cd Try.f25) [1,1,1,1])] [(2, .string (sb ((List.getD (tokL s) 0 (Tok.mk [] 0)).t))), (3, .int .i64 0)] w1 (by kernel_rfl) (.cons o13 (.cons o14 .nil)) ?_
      refine GoS.ret (fn := Try.f25) (v := (.tuple #[.string (sb ((List.getD (tokL s) 0 (Tok.mk [] 0)).t)), .int .i64 0])) Try.func25 (by kernel_rfl) ?_
      rw [hR]
      obtain ⟨e1, e2⟩ := term_one (s := s) (p_eq h5) (by omega)
      exact ⟨ret_str2 e1.symm e2.symm, hM15⟩

set_option maxHeartbeats 400000 in
theorem folded_L (s : List UInt8) {w0 : World} (hd : (decE s != 0) = false) (R : Ending → World → Prop) (hR : R = (fun e w' => ∃ v, e = .returned (.tuple #[v, .int .i64 (decE s)]) ∧ Mem [] w0 w' [⟨3, 1, v, (List.length (foldL s)), (ivals .i64 (foldL s))⟩])) : ∀ (N : Nat) (b : Value) (k : Nat) (w : World) (hk : k ≤ (decL s).length) (hM : Mem [] w0 w [⟨3, 1, b, (List.length (foldK k (decL s))), (ivals .i64 (foldK k (decL s)))⟩]) (hN : (decL s).length - k < N), GoS Try.prog 37 R 30 [.code (csub (cd Try.f37) [1,1,1,0,1,0,0]), .inLoop (csub (cd Try.f37) [1,1,1,0,1,0,0]), .inBlock 0, .code (csub (cd Try.f37) [1,1,1,1])] [(4, b), (16, b), (17, .int .i64 (((decL s).length : Nat) : Int)), (18, .int .i64 ((k : Nat) : Int))] w := by
  intro N
  induction N with
  | zero => intro b k w hk hM hN; exact absurd hN (Nat.not_lt_zero _)
  | succ N ih =>
    intro b k w hk hM hN
    have hlen := rd_len (hM.rd 0 rfl)
    simp only [maxLen, foldK_len] at hlen
    refine GoS.run [4, 16, 17, 18, 19] [.n, .n, .n, .n, .n] _ [.code (csub (cd Try.f37) [1,1,1,0,1,0,0,1,0]), .code (csub (cd Try.f37) [1,1,1,0,1,0,0,1,1]), .inLoop (csub (cd Try.f37) [1,1,1,0,1,0,0]), .inBlock 0, .code (csub (cd Try.f37) [1,1,1,1])] [(4, b), (16, b), (17, .int .i64 (((decL s).length : Nat) : Int)), (18, .int .i64 ((k : Nat) : Int)), (19, .bool (decide (((k : Nat) : Int) < (((decL s).length : Nat) : Int))))] w (by kernel_rfl) .nil ?_
    refine GoS.cond (decide (((k : Nat) : Int) < (((decL s).length : Nat) : Int))) [.code (csub (cd Try.f37) [1,1,1,0,1,0,0,1,0,0]), .code (csub (cd Try.f37) [1,1,1,0,1,0,0,1,1]), .inLoop (csub (cd Try.f37) [1,1,1,0,1,0,0]), .inBlock 0, .code (csub (cd Try.f37) [1,1,1,1])] [.code (csub (cd Try.f37) [1,1,1,0,1,0,0,1,0,1]), .code (csub (cd Try.f37) [1,1,1,0,1,0,0,1,1]), .inLoop (csub (cd Try.f37) [1,1,1,0,1,0,0]), .inBlock 0, .code (csub (cd Try.f37) [1,1,1,1])] (by kernel_rfl) (fun h1 => ?_) (fun h1 => ?_)
    ·
      have h1p : ((k : Nat) : Int) < (((decL s).length : Nat) : Int) := of_decide_eq_true h1
      refine GoS.run [4, 16, 17, 18] [.n] _ [.code (csub (cd Try.f37) [1,1,1,0,1,0,0,1,1]), .inLoop (csub (cd Try.f37) [1,1,1,0,1,0,0]), .inBlock 0, .code (csub (cd Try.f37) [1,1,1,1])] [(4, b), (16, b), (17, .int .i64 (((decL s).length : Nat) : Int)), (18, .int .i64 ((k : Nat) : Int))] w (by kernel_rfl) .nil ?_
      obtain ⟨p2, hp3, hq4⟩ := rd_at (i := ((k : Nat) : Int)) sT46 (hM.rd 0 rfl) k (by omega) (by first | omega | (simp only [foldK_len]; omega))
      have o5 : (Instr.indexAt 46 (b) (.int .i64 ((k : Nat) : Int))).run Try.prog w = .ok (.pointer (some p2)) w := hq4 _ _
      have o6 : (Instr.loadAt 3 (.pointer (some p2))).run Try.prog w = .ok (.int .i64 (List.getD (foldK k (decL s)) k 0)) w := at_load pE3 (hM.rd 0 rfl) hp3 (ivals_at (by first | omega | (simp only [foldK_len]; omega)))
      refine GoS.run [4, 16, 17, 18, 23, 24, 25] [.n, .n, .n, .n, .n, .h (.pointer (some p2)), .h (.int .i64 (List.getD (foldK k (decL s)) k 0)), .n, .n, .n, .n, .n, .n, .n] _ [.inRegion (cops (csub (cd Try.f37) [1,1,1,0,1,0,0,1,1,0,0,1])) [3,4,5], .inBlock 1, .code (csub (cd Try.f37) [1,1,1,0,1,0,0,1,1,1]), .inLoop (csub (cd Try.f37) [1,1,1,0,1,0,0]), .inBlock 0, .code (csub (cd Try.f37) [1,1,1,1])] [(4, b), (16, b), (17, .int .i64 (((decL s).length : Nat) : Int)), (18, .int .i64 ((k : Nat) : Int)), (23, b), (24, .int .i64 ((k : Nat) : Int)), (25, .int .i64 (List.getD (foldK k (decL s)) k 0))] w (by kernel_rfl) (.cons o5 (.cons o6 .nil)) ?_
      refine GoS.call [4, 16, 17, 18, 23, 24] 35 #[.int .i64 (List.getD (foldK k (decL s)) k 0)] (some 26) [.inRegion (cops (csub (cd Try.f37) [1,1,1,0,1,0,0,1,1,0,0,1])) [4,5], .inBlock 1, .code (csub (cd Try.f37) [1,1,1,0,1,0,0,1,1,1]), .inLoop (csub (cd Try.f37) [1,1,1,0,1,0,0]), .inBlock 0, .code (csub (cd Try.f37) [1,1,1,1])] [(4, b), (16, b), (17, .int .i64 (((decL s).length : Nat) : Int)), (18, .int .i64 ((k : Nat) : Int)), (23, b), (24, .int .i64 ((k : Nat) : Int))] (by kernel_rfl) (fold_c (List.getD (foldK k (decL s)) k 0) w) ?_
      rintro _ _ ⟨rfl, rfl⟩
      refine ⟨_, rfl, ?_⟩
      obtain ⟨p7, hp8, hq9⟩ := rd_at (i := ((k : Nat) : Int)) sT46 (hM.rd 0 rfl) k (by omega) (by first | omega | (simp only [foldK_len]; omega))
      have o14 : (Instr.indexAt 46 (b) (.int .i64 ((k : Nat) : Int))).run Try.prog w = .ok (.pointer (some p7)) w := hq9 _ _
      obtain ⟨w10, hr11, hM12⟩ := at_store (u := .int .i64 (fold (List.getD (foldK k (decL s)) k 0))) (by kernel_rfl) hM 0 rfl hp8 (by first | omega | (simp only [foldK_len]; omega)) rfl rfl
      have hM13 : Mem [] w0 w10 [⟨3, 1, b, (List.length (foldK k (decL s))), (ivals .i64 (List.set (foldK k (decL s)) k (fold (List.getD (foldK k (decL s)) k 0))))⟩] := hM12.cast (by simp [ivals, svals, bvals, nvals, u8s, List.map_set])
      have o15 : (Instr.storeAt 3 (.pointer (some p7)) (.int .i64 (fold (List.getD (foldK k (decL s)) k 0)))).run Try.prog w = .ok () w10 ∧ undef = undef := ⟨hr11, rfl⟩
      have o16 : (binOp .add 3 (.int .i64 ((k : Nat) : Int)) (.int .i64 1)).run Try.prog w10 = .ok (.int .i64 (((k + 1) : Nat) : Int)) w10 := f_add (by rw [show ((k : Nat) : Int) + 1 = (((k + 1) : Nat) : Int) by omega]; exact IntWalk.i64_in _ (by omega))
      refine GoS.run [4, 16, 17, 18] [.h (.pointer (some p7)), .u (undef) (w10), .n, .n, .n, .h (.int .i64 (((k + 1) : Nat) : Int)), .n, .n, .n] _ [.code (csub (cd Try.f37) [1,1,1,0,1,0,0]), .inLoop (csub (cd Try.f37) [1,1,1,0,1,0,0]), .inBlock 0, .code (csub (cd Try.f37) [1,1,1,1])] [(4, b), (16, b), (17, .int .i64 (((decL s).length : Nat) : Int)), (18, .int .i64 (((k + 1) : Nat) : Int))] w10 (by kernel_rfl) (.cons o14 (.cons o15 (.cons o16 .nil))) ?_
      exact ih b (k + 1) _ (by omega) (hM13.cast (by rw [foldK_get (by omega), foldK_set (by omega)]; simp only [foldK_len])) (by omega)
    ·
      have h1p : ¬ (((k : Nat) : Int) < (((decL s).length : Nat) : Int)) := of_decide_eq_false h1
      refine GoS.run [2, 3] [.n, .n, .n, .n, .n, .n, .n] _ [.code (csub (cd Try.f37) [1,1,1,1,1])] [(2, b), (3, .int .i64 0)] w (by kernel_rfl) .nil ?_
      refine GoS.ret (fn := Try.f37) (v := (.tuple #[b, .int .i64 0])) Try.func37 (by kernel_rfl) ?_
      rw [hR]
      have e1 : foldK k (decL s) = foldL s := foldK_all (by rw [foldK_len] at *; omega)
      exact ⟨_, by rw [p_eq hd], by rw [← e1]; exact hM⟩

set_option maxHeartbeats 400000 in
theorem folded_c (s : List UInt8) (hs : s.length * 8 ≤ 140737488355328) (w : World) :
    Calls Try.prog 37 #[.string (sb s)] w (fun e w' => ∃ v, e = .returned (.tuple #[v, .int .i64 (decE s)]) ∧ Mem [] w w' [⟨3, 1, v, (List.length (foldL s)), (ivals .i64 (foldL s))⟩]) := by
  obtain ⟨R, hR⟩ : ∃ R : Ending → World → Prop, R = (fun e w' => ∃ v, e = .returned (.tuple #[v, .int .i64 (decE s)]) ∧ Mem [] w w' [⟨3, 1, v, (List.length (foldL s)), (ivals .i64 (foldL s))⟩]) := ⟨_, rfl⟩
  rw [← hR]
  refine GoS.enter (n := 30) Try.func37 (by kernel_rfl) rfl [(0, .string (sb s))] (by kernel_rfl) (by kernel_rfl) ?_
  have hM0 := Mem.start w
  refine GoS.run [9] [.n, .n, .n, .n, .n, .n, .n, .n] _ [.inRegion (cops (csub (cd Try.f37) [1,0])) [1,2,3,4,5,6], .code (csub (cd Try.f37) [1,1])] [(9, .string (sb s))] w (by kernel_rfl) .nil ?_
  refine GoS.call [] 33 #[.string (sb s)] (some 10) [.inRegion (cops (csub (cd Try.f37) [1,0])) [2,3,4,5,6], .code (csub (cd Try.f37) [1,1])] [] (by kernel_rfl) (decode_c s (by exact hs) w) ?_
  rintro _ w1 ⟨v4, rfl, m2⟩
  refine ⟨_, rfl, ?_⟩
  have hM3 := Mem.join hM0 m2
  refine GoS.run [4, 5, 14] [.n, .n, .n, .n, .n, .n, .n, .n, .n, .n, .n, .n] _ [.code (csub (cd Try.f37) [1,1,0,1]), .code (csub (cd Try.f37) [1,1,1])] [(4, v4), (5, .int .i64 (decE s)), (14, .bool ((decE s) != 0))] w1 (by kernel_rfl) .nil ?_
  refine GoS.cond ((decE s) != 0) [.code (csub (cd Try.f37) [1,1,0,1,0]), .code (csub (cd Try.f37) [1,1,1])] [.code (csub (cd Try.f37) [1,1,0,1,1]), .code (csub (cd Try.f37) [1,1,1])] (by kernel_rfl) (fun h5 => ?_) (fun h5 => ?_)
  ·
    have h5p : ¬ ((decE s) = 0) := bne_iff_ne.1 h5
    have hM6 : Mem [] w w1 [] := hM3.sub (List.Sublist.cons _ (List.Sublist.refl _))
    refine GoS.run [2, 3] [.n, .n, .n, .n, .n, .n] _ [.code (csub (cd Try.f37) [1,1,0,1,0,1]), .code (csub (cd Try.f37) [1,1,1])] [(2, .slice none 0 0), (3, .int .i64 (decE s))] w1 (by kernel_rfl) .nil ?_
    refine GoS.ret (fn := Try.f37) (v := (.tuple #[.slice none 0 0, .int .i64 (decE s)])) Try.func37 (by kernel_rfl) ?_
    rw [hR]
    have e1 : foldL s = [] := by unfold foldL; rw [dec_none h5]; rfl
    exact ⟨_, rfl, by rw [e1]; exact hM6.nilrow 3 1⟩
  ·
    have h5p : (decE s) = 0 := p_eq h5
    refine GoS.run [4] [.n] _ [.code (csub (cd Try.f37) [1,1,1])] [(4, v4)] w1 (by kernel_rfl) .nil ?_
    have o7 : (Builtin.len_ #[46] 3 #[v4]).run Try.prog w1 = .ok (.int .i64 (((List.length (decL s)) : Nat) : Int)) w1 := f_slen sT46 (hM3.rd 0 rfl) 3 _
    refine GoS.run [4, 16, 17, 18] [.n, .n, .n, .n, .h (.int .i64 (((List.length (decL s)) : Nat) : Int)), .n, .n, .n, .n] _ [.code (csub (cd Try.f37) [1,1,1,0,1,0,0]), .inLoop (csub (cd Try.f37) [1,1,1,0,1,0,0]), .inBlock 0, .code (csub (cd Try.f37) [1,1,1,1])] [(4, v4), (16, v4), (17, .int .i64 (((List.length (decL s)) : Nat) : Int)), (18, .int .i64 0)] w1 (by kernel_rfl) (.cons o7 .nil) ?_
    exact folded_L s h5 R hR ((decL s).length + 1) v4 0 w1 (by omega) (hM3.cast (by simp [foldK_zero])) (by omega)


end Go.Proofs.Ytnhplkkbpmijdaa
