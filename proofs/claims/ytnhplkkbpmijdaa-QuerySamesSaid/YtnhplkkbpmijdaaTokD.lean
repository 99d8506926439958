/-
  The walks of the reference's Same, Term, Folded.
-/
import Derived.Test.YtnhplkkbpmijdaaTokB
import Derived.Test.YtnhplkkbpmijdaaTokC
namespace Go.Proofs.Ytnhplkkbpmijdaa
open Go Go.Gw Go.UtfP Go.TokP Go.RowKit
set_option linter.unusedVariables false
set_option linter.unusedSimpArgs false


set_option maxHeartbeats 400000 in
theorem rterm_c (s : List UInt8) (w : World) :
    Calls Try.prog 30 #[.string (sb s)] w (fun e w' => e = .returned (.tuple #[.string (sb (termS s)), .int .i64 (termE s)]) ∧ Mem [] w w' []) := by
  obtain ⟨R, hR⟩ : ∃ R : Ending → World → Prop, R = (fun e w' => e = .returned (.tuple #[.string (sb (termS s)), .int .i64 (termE s)]) ∧ Mem [] w w' []) := ⟨_, rfl⟩
  rw [← hR]
  refine GoS.enter (n := 21) Try.func30 (by kernel_rfl) rfl [(0, .string (sb s))] (by kernel_rfl) (by kernel_rfl) ?_
  have hM0 := Mem.start w
  refine GoS.run [7] [.n, .n, .n, .n, .n, .n, .n, .n] _ [.inRegion (cops (csub (cd Try.f30) [1,0])) [1,2,3,4,5,6], .code (csub (cd Try.f30) [1,1])] [(7, .string (sb s))] w (by kernel_rfl) .nil ?_
  refine GoS.call [] 32 #[.string (sb s)] (some 8) [.inRegion (cops (csub (cd Try.f30) [1,0])) [2,3,4,5,6], .code (csub (cd Try.f30) [1,1])] [] (by kernel_rfl) (rtokens_c s w) ?_
  rintro _ w1 ⟨v4, rfl, m2⟩
  refine ⟨_, rfl, ?_⟩
  have hM3 := Mem.join hM0 m2
  refine GoS.run [4, 5, 12] [.n, .n, .n, .n, .n, .n, .n, .n, .n, .n, .n, .n] _ [.code (csub (cd Try.f30) [1,1,0,1]), .code (csub (cd Try.f30) [1,1,1])] [(4, v4), (5, .int .i64 (tokE s)), (12, .bool ((tokE s) != 0))] w1 (by kernel_rfl) .nil ?_
  refine GoS.cond ((tokE s) != 0) [.code (csub (cd Try.f30) [1,1,0,1,0]), .code (csub (cd Try.f30) [1,1,1])] [.code (csub (cd Try.f30) [1,1,0,1,1]), .code (csub (cd Try.f30) [1,1,1])] (by kernel_rfl) (fun h5 => ?_) (fun h5 => ?_)
  ·
    have h5p : ¬ ((tokE s) = 0) := bne_iff_ne.1 h5
    have hM6 : Mem [] w w1 [] := hM3.sub (List.Sublist.cons _ (List.Sublist.refl _))
    refine GoS.run [2, 3] [.n, .n, .n, .n, .n, .n] _ [.code (csub (cd Try.f30) [1,1,0,1,0,1]), .code (csub (cd Try.f30) [1,1,1])] [(2, .string (sb ([]))), (3, .int .i64 (tokE s))] w1 (by kernel_rfl) .nil ?_
    refine GoS.ret (fn := Try.f30) (v := (.tuple #[.string (sb ([])), .int .i64 (tokE s)])) Try.func30 (by kernel_rfl) ?_
    rw [hR]
    obtain ⟨e1, e2⟩ := term_bad (s := s) (bne_iff_ne.1 h5)
    exact ⟨ret_str2 e1.symm e2.symm, hM6⟩
  ·
    have h5p : (tokE s) = 0 := p_eq h5
    refine GoS.run [4] [.n] _ [.code (csub (cd Try.f30) [1,1,1])] [(4, v4)] w1 (by kernel_rfl) .nil ?_
    have o7 : (Builtin.len_ #[43] 3 #[v4]).run Try.prog w1 = .ok (.int .i64 (((List.length (tokL s)) : Nat) : Int)) w1 := f_slen sT43 (hM3.rd 0 rfl) 3 _
    refine GoS.run [4, 16] [.n, .n, .n, .n, .h (.int .i64 (((List.length (tokL s)) : Nat) : Int)), .n, .n] _ [.code (csub (cd Try.f30) [1,1,1,0,1]), .code (csub (cd Try.f30) [1,1,1,1])] [(4, v4), (16, .bool ((((List.length (tokL s)) : Nat) : Int) != 1))] w1 (by kernel_rfl) (.cons o7 .nil) ?_
    refine GoS.cond ((((List.length (tokL s)) : Nat) : Int) != 1) [.code (csub (cd Try.f30) [1,1,1,0,1,0]), .code (csub (cd Try.f30) [1,1,1,1])] [.code (csub (cd Try.f30) [1,1,1,0,1,1]), .code (csub (cd Try.f30) [1,1,1,1])] (by kernel_rfl) (fun h8 => ?_) (fun h8 => ?_)
    ·
      have h8p : ¬ ((((List.length (tokL s)) : Nat) : Int) = 1) := bne_iff_ne.1 h8
      have hM9 : Mem [] w w1 [] := hM3.sub (List.Sublist.cons _ (List.Sublist.refl _))
      refine GoS.run [2, 3] [.n, .n, .n, .n, .n] _ [.code (csub (cd Try.f30) [1,1,1,0,1,0,1]), .code (csub (cd Try.f30) [1,1,1,1])] [(2, .string (sb ([]))), (3, .int .i64 20)] w1 (by kernel_rfl) .nil ?_
      refine GoS.ret (fn := Try.f30) (v := (.tuple #[.string (sb ([])), .int .i64 20])) Try.func30 (by kernel_rfl) ?_
      rw [hR]
      obtain ⟨e1, e2⟩ := term_many (s := s) (p_eq h5) (by omega)
      exact ⟨ret_str2 e1.symm e2.symm, hM9⟩
    ·
      have h8p : (((List.length (tokL s)) : Nat) : Int) = 1 := p_eq h8
      refine GoS.run [4] [.n] _ [.code (csub (cd Try.f30) [1,1,1,1])] [(4, v4)] w1 (by kernel_rfl) .nil ?_
      obtain ⟨p10, hp11, hq12⟩ := rd_at (i := 0) sT43 (hM3.rd 0 rfl) 0 (by omega) (by first | omega | (dsimp only; omega))
      have o13 : (Instr.indexAt 43 (v4) (.int .i64 0)).run Try.prog w1 = .ok (.pointer (some p10)) w1 := hq12 _ _
      have o14 : (Instr.loadAt 9 (.pointer (some (Addr.add p10 0)))).run Try.prog w1 = .ok (.string (sb ((List.getD (tokL s) 0 (Tok.mk [] 0)).t))) w1 := c_load pE9 (hM3.rd 0 rfl) (Cel.add (At.cel hp11) 0) (recs_at (i := 0) tokc_len (Tok.mk [] 0) (by first | omega | (dsimp only; omega)) rfl)
      have hM15 : Mem [] w w1 [] := hM3.sub (List.Sublist.cons _ (List.Sublist.refl _))
      refine GoS.run [2, 3] [.n, .n, .n, .h (.pointer (some p10)), .n, .h (.string (sb ((List.getD (tokL s) 0 (Tok.mk [] 0)).t))), .n, .n, .n] _ [.code (csub (cd Try.f30) [1,1,1,1,1])] [(2, .string (sb ((List.getD (tokL s) 0 (Tok.mk [] 0)).t))), (3, .int .i64 0)] w1 (by kernel_rfl) (.cons o13 (.cons o14 .nil)) ?_
      refine GoS.ret (fn := Try.f30) (v := (.tuple #[.string (sb ((List.getD (tokL s) 0 (Tok.mk [] 0)).t)), .int .i64 0])) Try.func30 (by kernel_rfl) ?_
      rw [hR]
      obtain ⟨e1, e2⟩ := term_one (s := s) (p_eq h5) (by omega)
      exact ⟨ret_str2 e1.symm e2.symm, hM15⟩

set_option maxHeartbeats 400000 in
theorem rfolded_L (s : List UInt8) {w0 : World} (hs : s.length * 8 ≤ 140737488355328) (vl : Value) (R : Ending → World → Prop) (hR : R = (fun e w' => ∃ v, e = .returned (.tuple #[v, .int .i64 (decE s)]) ∧ Mem [] w0 w' [⟨3, 1, v, (List.length (foldL s)), (ivals .i64 (foldL s))⟩])) : ∀ (N : Nat) (vo : Value) (k : Nat) (w : World) (hk : k ≤ (decL s).length) (hM : Mem [] w0 w [⟨3, 1, vo, (List.length (List.map fold (List.take k (decL s)))), (ivals .i64 (List.map fold (List.take k (decL s))))⟩, ⟨3, 1, vl, (List.length (decL s)), (ivals .i64 (decL s))⟩]) (hN : (decL s).length - k < N), GoS Try.prog 45 R 29 [.code (csub (cd Try.f45) [1,1,1,0,1,0,0]), .inLoop (csub (cd Try.f45) [1,1,1,0,1,0,0]), .inBlock 0, .code (csub (cd Try.f45) [1,1,1,1])] [(4, vl), (5, .int .i64 (decE s)), (6, vo), (7, .int .i64 ((k : Nat) : Int))] w := by
  intro N
  induction N with
  | zero => intro vo k w hk hM hN; exact absurd hN (Nat.not_lt_zero _)
  | succ N ih =>
    intro vo k w hk hM hN
    have hq := @decL_len s
    have o1 : (Builtin.len_ #[46] 3 #[vl]).run Try.prog w = .ok (.int .i64 (((List.length (decL s)) : Nat) : Int)) w := f_slen sT46 (hM.rd 1 rfl) 3 _
    refine GoS.run [4, 5, 6, 7, 16] [.n, .n, .n, .n, .n, .h (.int .i64 (((List.length (decL s)) : Nat) : Int)), .n, .n] _ [.code (csub (cd Try.f45) [1,1,1,0,1,0,0,0,1]), .code (csub (cd Try.f45) [1,1,1,0,1,0,0,1]), .inLoop (csub (cd Try.f45) [1,1,1,0,1,0,0]), .inBlock 0, .code (csub (cd Try.f45) [1,1,1,1])] [(4, vl), (5, .int .i64 (decE s)), (6, vo), (7, .int .i64 ((k : Nat) : Int)), (16, .bool (decide (((k : Nat) : Int) < (((List.length (decL s)) : Nat) : Int))))] w (by kernel_rfl) (.cons o1 .nil) ?_
    refine GoS.cond (decide (((k : Nat) : Int) < (((List.length (decL s)) : Nat) : Int))) [.code (csub (cd Try.f45) [1,1,1,0,1,0,0,0,1,0]), .code (csub (cd Try.f45) [1,1,1,0,1,0,0,1]), .inLoop (csub (cd Try.f45) [1,1,1,0,1,0,0]), .inBlock 0, .code (csub (cd Try.f45) [1,1,1,1])] [.code (csub (cd Try.f45) [1,1,1,0,1,0,0,0,1,1]), .code (csub (cd Try.f45) [1,1,1,0,1,0,0,1]), .inLoop (csub (cd Try.f45) [1,1,1,0,1,0,0]), .inBlock 0, .code (csub (cd Try.f45) [1,1,1,1])] (by kernel_rfl) (fun h2 => ?_) (fun h2 => ?_)
    ·
      have h2p : ((k : Nat) : Int) < (((List.length (decL s)) : Nat) : Int) := of_decide_eq_true h2
      refine GoS.run [4, 5, 6, 7] [.n] _ [.code (csub (cd Try.f45) [1,1,1,0,1,0,0,1]), .inLoop (csub (cd Try.f45) [1,1,1,0,1,0,0]), .inBlock 0, .code (csub (cd Try.f45) [1,1,1,1])] [(4, vl), (5, .int .i64 (decE s)), (6, vo), (7, .int .i64 ((k : Nat) : Int))] w (by kernel_rfl) .nil ?_
      obtain ⟨p4, hp5, hq6⟩ := rd_at (i := ((k : Nat) : Int)) sT46 (hM.rd 1 rfl) k (by omega) (by first | omega | (dsimp only; omega))
      have o7 : (Instr.indexAt 46 (vl) (.int .i64 ((k : Nat) : Int))).run Try.prog w = .ok (.pointer (some p4)) w := hq6 _ _
      have o8 : (Instr.loadAt 3 (.pointer (some p4))).run Try.prog w = .ok (.int .i64 (List.getD (decL s) k 0)) w := at_load pE3 (hM.rd 1 rfl) hp5 (ivals_at (by first | omega | (dsimp only; omega)))
      refine GoS.run [4, 5, 7, 19, 23] [.n, .n, .n, .n, .n, .n, .h (.pointer (some p4)), .h (.int .i64 (List.getD (decL s) k 0))] _ [.inRegion (cops (csub (cd Try.f45) [1,1,1,0,1,0,0,1,0,0])) [5,6,7,8], .inBlock 1, .code (csub (cd Try.f45) [1,1,1,0,1,0,0,1,1]), .inLoop (csub (cd Try.f45) [1,1,1,0,1,0,0]), .inBlock 0, .code (csub (cd Try.f45) [1,1,1,1])] [(4, vl), (5, .int .i64 (decE s)), (7, .int .i64 ((k : Nat) : Int)), (19, vo), (23, .int .i64 (List.getD (decL s) k 0))] w (by kernel_rfl) (.cons o7 (.cons o8 .nil)) ?_
      refine GoS.call [4, 5, 7, 19] 42 #[.int .i64 (List.getD (decL s) k 0)] (some 24) [.inRegion (cops (csub (cd Try.f45) [1,1,1,0,1,0,0,1,0,0])) [6,7,8], .inBlock 1, .code (csub (cd Try.f45) [1,1,1,0,1,0,0,1,1]), .inLoop (csub (cd Try.f45) [1,1,1,0,1,0,0]), .inBlock 0, .code (csub (cd Try.f45) [1,1,1,1])] [(4, vl), (5, .int .i64 (decE s)), (7, .int .i64 ((k : Nat) : Int)), (19, vo)] (by kernel_rfl) (rfold_c (List.getD (decL s) k 0) w) ?_
      rintro _ w9 ⟨rfl, m10⟩
      refine ⟨_, rfl, ?_⟩
      have hM11 := Mem.join hM m10
      obtain ⟨v12, w13, hr14, hM15⟩ := m_lit sT46 hM11 (n := 1) (parts := #[(0, .int .i64 (fold (List.getD (decL s) k 0)))]) (cs := [.int .i64 (fold (List.getD (decL s) k 0))]) (by decide) (by kernel_rfl) rfl
      obtain ⟨v16, w17, hr18, hM19⟩ := m_append sT46 hM15 1 rfl (hM15.rd 0 rfl) (by intro u hu; simp at hu; rcases hu with rfl <;> rfl) (by (try dsimp only); rw [List.length_map, List.length_take]; omega) (by (try dsimp only); rw [List.length_map, List.length_take]; omega) 46
      have hM20 : Mem [] w0 w17 [⟨3, 1, v12, 1, [.int .i64 (fold (List.getD (decL s) k 0))]⟩, ⟨3, 1, v16, (List.length ((List.map fold (List.take k (decL s))) ++ ([(fold (List.getD (decL s) k 0))] : List Int))), (ivals .i64 ((List.map fold (List.take k (decL s))) ++ ([(fold (List.getD (decL s) k 0))] : List Int)))⟩, ⟨3, 1, vl, (List.length (decL s)), (ivals .i64 (decL s))⟩] := hM19.cast (by first | (simp [ivals, svals, bvals, nvals, u8s, Nat.add_assoc]; done) | (simp [ivals, svals, bvals, nvals, u8s, Nat.add_assoc]; omega))
      have o21 : (binOp .add 3 (.int .i64 ((k : Nat) : Int)) (.int .i64 1)).run Try.prog w17 = .ok (.int .i64 (((k + 1) : Nat) : Int)) w17 := f_add (by rw [show ((k : Nat) : Int) + 1 = (((k + 1) : Nat) : Int) by omega]; exact IntWalk.i64_in _ (by omega))
      have hM22 : Mem [] w0 w17 [⟨3, 1, v16, (List.length ((List.map fold (List.take k (decL s))) ++ ([(fold (List.getD (decL s) k 0))] : List Int))), (ivals .i64 ((List.map fold (List.take k (decL s))) ++ ([(fold (List.getD (decL s) k 0))] : List Int)))⟩, ⟨3, 1, vl, (List.length (decL s)), (ivals .i64 (decL s))⟩] := hM20.sub (List.Sublist.cons _ (List.Sublist.cons_cons _ (List.Sublist.cons_cons _ (List.Sublist.refl _))))
      refine GoS.run [4, 5, 6, 7] [.u (v12) (w13), .u (v16) (w17), .n, .n, .n, .n, .n, .h (.int .i64 (((k + 1) : Nat) : Int)), .n, .n, .n] _ [.code (csub (cd Try.f45) [1,1,1,0,1,0,0]), .inLoop (csub (cd Try.f45) [1,1,1,0,1,0,0]), .inBlock 0, .code (csub (cd Try.f45) [1,1,1,1])] [(4, vl), (5, .int .i64 (decE s)), (6, v16), (7, .int .i64 (((k + 1) : Nat) : Int))] w17 (by kernel_rfl) (.cons hr14 (.cons hr18 (.cons o21 .nil))) ?_
      exact ih _ (k + 1) _ (by omega) (hM22.cast (by rw [take_snoc _ (by omega), List.map_append, List.map_singleton])) (by omega)
    ·
      have h2p : ¬ (((k : Nat) : Int) < (((List.length (decL s)) : Nat) : Int)) := of_decide_eq_false h2
      have hM3 : Mem [] w0 w [⟨3, 1, vo, (List.length (List.map fold (List.take k (decL s)))), (ivals .i64 (List.map fold (List.take k (decL s))))⟩] := hM.sub (List.Sublist.cons_cons _ (List.Sublist.cons _ (List.Sublist.refl _)))
      refine GoS.run [2, 3] [.n, .n, .n, .n, .n, .n, .n, .n] _ [.code (csub (cd Try.f45) [1,1,1,1,1])] [(2, vo), (3, .int .i64 (decE s))] w (by kernel_rfl) .nil ?_
      refine GoS.ret (fn := Try.f45) (v := (.tuple #[vo, .int .i64 (decE s)])) Try.func45 (by kernel_rfl) ?_
      rw [hR]
      have e1 : List.map fold (List.take k (decL s)) = foldL s := by unfold foldL; rw [List.take_of_length_le (by omega)]
      exact ⟨_, rfl, by rw [← e1]; exact hM3⟩

set_option maxHeartbeats 400000 in
theorem rfolded_c (s : List UInt8) (hs : s.length * 8 ≤ 140737488355328) (w : World) :
    Calls Try.prog 45 #[.string (sb s)] w (fun e w' => ∃ v, e = .returned (.tuple #[v, .int .i64 (decE s)]) ∧ Mem [] w w' [⟨3, 1, v, (List.length (foldL s)), (ivals .i64 (foldL s))⟩]) := by
  obtain ⟨R, hR⟩ : ∃ R : Ending → World → Prop, R = (fun e w' => ∃ v, e = .returned (.tuple #[v, .int .i64 (decE s)]) ∧ Mem [] w w' [⟨3, 1, v, (List.length (foldL s)), (ivals .i64 (foldL s))⟩]) := ⟨_, rfl⟩
  rw [← hR]
  refine GoS.enter (n := 29) Try.func45 (by kernel_rfl) rfl [(0, .string (sb s))] (by kernel_rfl) (by kernel_rfl) ?_
  have hM0 := Mem.start w
  refine GoS.run [9] [.n, .n, .n, .n, .n, .n, .n, .n] _ [.inRegion (cops (csub (cd Try.f45) [1,0])) [1,2,3,4,5,6], .code (csub (cd Try.f45) [1,1])] [(9, .string (sb s))] w (by kernel_rfl) .nil ?_
  refine GoS.call [] 39 #[.string (sb s)] (some 10) [.inRegion (cops (csub (cd Try.f45) [1,0])) [2,3,4,5,6], .code (csub (cd Try.f45) [1,1])] [] (by kernel_rfl) (rdecode_c s (by exact hs) w) ?_
  rintro _ w1 ⟨v4, rfl, m2⟩
  refine ⟨_, rfl, ?_⟩
  have hM3 := Mem.join hM0 m2
  refine GoS.run [4, 5, 6, 7] [.n, .n, .n, .n, .n, .n, .n, .n, .n, .n, .n, .n, .n, .n, .n, .n, .n] _ [.code (csub (cd Try.f45) [1,1,1,0,1,0,0]), .inLoop (csub (cd Try.f45) [1,1,1,0,1,0,0]), .inBlock 0, .code (csub (cd Try.f45) [1,1,1,1])] [(4, v4), (5, .int .i64 (decE s)), (6, .slice none 0 0), (7, .int .i64 0)] w1 (by kernel_rfl) .nil ?_
  have hM5 := hM3.nilrow 3 1
  exact rfolded_L s hs v4 R hR ((decL s).length + 1) (.slice none 0 0) 0 w1 (by omega) (hM5.cast (by simp [ivals])) (by omega)


end Go.Proofs.Ytnhplkkbpmijdaa
