/-
  The walk of TokenTwice.
-/
import Derived.Test.YtokoifpldgekaaaTokG
namespace Go.Proofs.Ytokoifpldgekaaa
open Go Go.Gw Go.UtfP Go.TokP Go.RowKit
set_option linter.unusedVariables false
set_option linter.unusedSimpArgs false


set_option maxHeartbeats 400000 in
theorem ltwice_L (s : List UInt8) {w0 : World} (h0 : tokE s = 0) (R : Ending → World → Prop) (hR : R = (fun e w' => e = .returned (.bool true) ∧ Below w0.heap.size w0 w')) : ∀ (N : Nat) (vl : Value) (k : Nat) (w : World) (hk : k ≤ (tokL s).length) (hM : Mem [] w0 w [⟨28, 2, vl, (List.length (tokL s)), (recs tokc (tokL s))⟩]) (hN : (tokL s).length - k < N), GoS Try.prog 5 R 106 [.code (csub (cd Try.f5) [1,1,1,0,1,0,0]), .inLoop (csub (cd Try.f5) [1,1,1,0,1,0,0]), .inBlock 0, .code (csub (cd Try.f5) [1,1,1,1])] [(0, .string (sb s)), (3, vl), (5, .int .i64 ((k : Nat) : Int))] w := by
  intro N
  induction N with
  | zero => intro vl k w hk hM hN; exact absurd hN (Nat.not_lt_zero _)
  | succ N ih =>
    intro vl k w hk hM hN
    have hts := tokL_len s
    have hsl := (tok_zero h0).1
    have o1 : (Builtin.len_ #[22] 3 #[vl]).run Try.prog w = .ok (.int .i64 (((List.length (tokL s)) : Nat) : Int)) w := f_slen sT22 (hM.rd 0 rfl) 3 _
    refine GoS.run [0, 3, 5, 34] [.n, .n, .n, .n, .n, .h (.int .i64 (((List.length (tokL s)) : Nat) : Int)), .n, .n] _ [.code (csub (cd Try.f5) [1,1,1,0,1,0,0,0,1]), .code (csub (cd Try.f5) [1,1,1,0,1,0,0,1]), .inLoop (csub (cd Try.f5) [1,1,1,0,1,0,0]), .inBlock 0, .code (csub (cd Try.f5) [1,1,1,1])] [(0, .string (sb s)), (3, vl), (5, .int .i64 ((k : Nat) : Int)), (34, .bool (decide (((k : Nat) : Int) < (((List.length (tokL s)) : Nat) : Int))))] w (by kernel_rfl) (.cons o1 .nil) ?_
    refine GoS.cond (decide (((k : Nat) : Int) < (((List.length (tokL s)) : Nat) : Int))) [.code (csub (cd Try.f5) [1,1,1,0,1,0,0,0,1,0]), .code (csub (cd Try.f5) [1,1,1,0,1,0,0,1]), .inLoop (csub (cd Try.f5) [1,1,1,0,1,0,0]), .inBlock 0, .code (csub (cd Try.f5) [1,1,1,1])] [.code (csub (cd Try.f5) [1,1,1,0,1,0,0,0,1,1]), .code (csub (cd Try.f5) [1,1,1,0,1,0,0,1]), .inLoop (csub (cd Try.f5) [1,1,1,0,1,0,0]), .inBlock 0, .code (csub (cd Try.f5) [1,1,1,1])] (by kernel_rfl) (fun h2 => ?_) (fun h2 => ?_)
    ·
      have h2p : ((k : Nat) : Int) < (((List.length (tokL s)) : Nat) : Int) := of_decide_eq_true h2
      refine GoS.run [0, 3, 5] [.n] _ [.code (csub (cd Try.f5) [1,1,1,0,1,0,0,1]), .inLoop (csub (cd Try.f5) [1,1,1,0,1,0,0]), .inBlock 0, .code (csub (cd Try.f5) [1,1,1,1])] [(0, .string (sb s)), (3, vl), (5, .int .i64 ((k : Nat) : Int))] w (by kernel_rfl) .nil ?_
      obtain ⟨p22, hp23, hq24⟩ := rd_at (i := ((k : Nat) : Int)) sT22 (hM.rd 0 rfl) k (by omega) (by first | omega | (dsimp only; omega))
      have o25 : (Instr.indexAt 22 (vl) (.int .i64 ((k : Nat) : Int))).run Try.prog w = .ok (.pointer (some p22)) w := hq24 _ _
      have o26 : (Instr.loadAt 9 (.pointer (some (Addr.add p22 0)))).run Try.prog w = .ok (.string (sb ((List.getD (tokL s) k (Tok.mk [] 0)).t))) w := c_load pE9 (hM.rd 0 rfl) (Cel.add (At.cel hp23) 0) (recs_at (i := 0) tokc_len (Tok.mk [] 0) (by first | omega | (dsimp only; omega)) rfl)
      refine GoS.run [0, 3, 5, 42] [.n, .n, .n, .n, .n, .n, .h (.pointer (some p22)), .n, .h (.string (sb ((List.getD (tokL s) k (Tok.mk [] 0)).t)))] _ [.inRegion (cops (csub (cd Try.f5) [1,1,1,0,1,0,0,1,0,0,0])) [5,6,7,8,9,10], .code (csub (cd Try.f5) [1,1,1,0,1,0,0,1,0,0,1]), .inBlock 1, .code (csub (cd Try.f5) [1,1,1,0,1,0,0,1,1]), .inLoop (csub (cd Try.f5) [1,1,1,0,1,0,0]), .inBlock 0, .code (csub (cd Try.f5) [1,1,1,1])] [(0, .string (sb s)), (3, vl), (5, .int .i64 ((k : Nat) : Int)), (42, .string (sb ((List.getD (tokL s) k (Tok.mk [] 0)).t)))] w (by kernel_rfl) (.cons o25 (.cons o26 .nil)) ?_
      refine GoS.call [0, 3, 5] 9 #[.string (sb ((List.getD (tokL s) k (Tok.mk [] 0)).t))] (some 43) [.inRegion (cops (csub (cd Try.f5) [1,1,1,0,1,0,0,1,0,0,0])) [6,7,8,9,10], .code (csub (cd Try.f5) [1,1,1,0,1,0,0,1,0,0,1]), .inBlock 1, .code (csub (cd Try.f5) [1,1,1,0,1,0,0,1,1]), .inLoop (csub (cd Try.f5) [1,1,1,0,1,0,0]), .inBlock 0, .code (csub (cd Try.f5) [1,1,1,1])] [(0, .string (sb s)), (3, vl), (5, .int .i64 ((k : Nat) : Int))] (by kernel_rfl) (term_c ((List.getD (tokL s) k (Tok.mk [] 0)).t) w) ?_
      rintro _ w27 ⟨rfl, m28⟩
      refine ⟨_, rfl, ?_⟩
      have hM29 := Mem.join hM m28
      have o36 : (IntKind.i64 = IntKind.i64) ∧ w27 = w27 ∧ Value.bool false = .bool ((termE ((List.getD (tokL s) k (Tok.mk [] 0)).t)) != 0) := ⟨rfl, rfl, congrArg Value.bool (Eq.symm (bne_f (twice_at h0 (j := k) (by omega)).1))⟩
      obtain ⟨p30, hp31, hq32⟩ := rd_at (i := ((k : Nat) : Int)) sT22 (hM29.rd 0 rfl) k (by omega) (by first | omega | (dsimp only; omega))
      have o37 : (Instr.indexAt 22 (vl) (.int .i64 ((k : Nat) : Int))).run Try.prog w27 = .ok (.pointer (some p30)) w27 := hq32 _ _
      have o38 : (Instr.loadAt 9 (.pointer (some (Addr.add p30 0)))).run Try.prog w27 = .ok (.string (sb ((List.getD (tokL s) k (Tok.mk [] 0)).t))) w27 := c_load pE9 (hM29.rd 0 rfl) (Cel.add (At.cel hp31) 0) (recs_at (i := 0) tokc_len (Tok.mk [] 0) (by first | omega | (dsimp only; omega)) rfl)
      have o39 : (binOp .neq 9 (.string (sb (termS ((List.getD (tokL s) k (Tok.mk [] 0)).t)))) (.string (sb ((List.getD (tokL s) k (Tok.mk [] 0)).t)))).run Try.prog w27 = .ok (.bool false) w27 := f_strneq_yes ((twice_at h0 (j := k) (by omega)).2.1)
      obtain ⟨p33, hp34, hq35⟩ := rd_at (i := ((k : Nat) : Int)) sT22 (hM29.rd 0 rfl) k (by omega) (by first | omega | (dsimp only; omega))
      have o40 : (Instr.indexAt 22 (vl) (.int .i64 ((k : Nat) : Int))).run Try.prog w27 = .ok (.pointer (some p33)) w27 := hq35 _ _
      have o41 : (Instr.loadAt 3 (.pointer (some (Addr.add p33 1)))).run Try.prog w27 = .ok (.int .i64 ((List.getD (tokL s) k (Tok.mk [] 0)).a)) w27 := c_load pE3 (hM29.rd 0 rfl) (Cel.add (At.cel hp34) 1) (recs_at (i := 1) tokc_len (Tok.mk [] 0) (by first | omega | (dsimp only; omega)) rfl)
      have o42 : (IntKind.i64 = IntKind.i64) ∧ w27 = w27 ∧ Value.bool false = .bool (((List.getD (tokL s) k (Tok.mk [] 0)).a) != ((k : Nat) : Int)) := ⟨rfl, rfl, congrArg Value.bool (Eq.symm (by rw [(twice_at h0 (j := k) (by omega)).2.2.1]; exact bne_self_eq_false _))⟩
      have o43 : (Builtin.len_ #[9] 3 #[.string (sb (termS ((List.getD (tokL s) k (Tok.mk [] 0)).t)))]).run Try.prog w27 = .ok (.int .i64 (((termS ((List.getD (tokL s) k (Tok.mk [] 0)).t)).length : Nat) : Int)) w27 := f_len (by kernel_rfl)
      have o44 : (IntKind.i64 = IntKind.i64) ∧ w27 = w27 ∧ Value.bool false = .bool ((((termS ((List.getD (tokL s) k (Tok.mk [] 0)).t)).length : Nat) : Int) == 0) := ⟨rfl, rfl, congrArg Value.bool (Eq.symm (beq_eq_false_iff_ne.2 (by have := (twice_at h0 (j := k) (by omega)).2.2.2.1; have := (twice_at h0 (j := k) (by omega)).2.1; rw [this]; omega)))⟩
      have o45 : (Builtin.len_ #[9] 3 #[.string (sb (termS ((List.getD (tokL s) k (Tok.mk [] 0)).t)))]).run Try.prog w27 = .ok (.int .i64 (((termS ((List.getD (tokL s) k (Tok.mk [] 0)).t)).length : Nat) : Int)) w27 := f_len (by kernel_rfl)
      refine GoS.run [0, 3, 5, 75] [.n, .n, .n, .n, .n, .n, .n, .n, .n, .h (.bool false), .n, .n, .n, .n, .h (.pointer (some p30)), .n, .h (.string (sb ((List.getD (tokL s) k (Tok.mk [] 0)).t))), .h (.bool false), .n, .n, .n, .n, .h (.pointer (some p33)), .n, .h (.int .i64 ((List.getD (tokL s) k (Tok.mk [] 0)).a)), .n, .h (.bool false), .n, .n, .n, .h (.int .i64 (((termS ((List.getD (tokL s) k (Tok.mk [] 0)).t)).length : Nat) : Int)), .h (.bool false), .n, .n, .n, .h (.int .i64 (((termS ((List.getD (tokL s) k (Tok.mk [] 0)).t)).length : Nat) : Int)), .n, .n, .n] _ [.code (csub (cd Try.f5) [1,1,1,0,1,0,0,1,0,0,1,1]), .inBlock 1, .code (csub (cd Try.f5) [1,1,1,0,1,0,0,1,1]), .inLoop (csub (cd Try.f5) [1,1,1,0,1,0,0]), .inBlock 0, .code (csub (cd Try.f5) [1,1,1,1])] [(0, .string (sb s)), (3, vl), (5, .int .i64 ((k : Nat) : Int)), (75, .bool (decide ((((termS ((List.getD (tokL s) k (Tok.mk [] 0)).t)).length : Nat) : Int) > 64)))] w27 (by kernel_rfl) (.cons o36 (.cons o37 (.cons o38 (.cons o39 (.cons o40 (.cons o41 (.cons o42 (.cons o43 (.cons o44 (.cons o45 .nil)))))))))) ?_
      refine GoS.cond (decide ((((termS ((List.getD (tokL s) k (Tok.mk [] 0)).t)).length : Nat) : Int) > 64)) [.code (csub (cd Try.f5) [1,1,1,0,1,0,0,1,0,0,1,1,0]), .inBlock 1, .code (csub (cd Try.f5) [1,1,1,0,1,0,0,1,1]), .inLoop (csub (cd Try.f5) [1,1,1,0,1,0,0]), .inBlock 0, .code (csub (cd Try.f5) [1,1,1,1])] [.code (csub (cd Try.f5) [1,1,1,0,1,0,0,1,0,0,1,1,1]), .inBlock 1, .code (csub (cd Try.f5) [1,1,1,0,1,0,0,1,1]), .inLoop (csub (cd Try.f5) [1,1,1,0,1,0,0]), .inBlock 0, .code (csub (cd Try.f5) [1,1,1,1])] (by kernel_rfl) (fun h46 => ?_) (fun h46 => ?_)
      ·
        exact absurd (of_decide_eq_true h46) (by have := (twice_at h0 (j := k) (by omega)).2.2.2.2; have e := (twice_at h0 (j := k) (by omega)).2.1; rw [e]; omega)
      ·
        have h46p : ¬ ((((termS ((List.getD (tokL s) k (Tok.mk [] 0)).t)).length : Nat) : Int) > 64) := of_decide_eq_false h46
        refine GoS.run [0, 3, 5] [.n] _ [.inBlock 1, .code (csub (cd Try.f5) [1,1,1,0,1,0,0,1,1]), .inLoop (csub (cd Try.f5) [1,1,1,0,1,0,0]), .inBlock 0, .code (csub (cd Try.f5) [1,1,1,1])] [(0, .string (sb s)), (3, vl), (5, .int .i64 ((k : Nat) : Int))] w27 (by kernel_rfl) .nil ?_
        have o47 : (binOp .add 3 (.int .i64 ((k : Nat) : Int)) (.int .i64 1)).run Try.prog w27 = .ok (.int .i64 (((k + 1) : Nat) : Int)) w27 := f_add (by rw [show ((k : Nat) : Int) + 1 = (((k + 1) : Nat) : Int) by omega]; exact IntWalk.i64_in _ (by omega))
        refine GoS.run [0, 3, 5] [.n, .n, .n, .h (.int .i64 (((k + 1) : Nat) : Int)), .n, .n, .n] _ [.code (csub (cd Try.f5) [1,1,1,0,1,0,0]), .inLoop (csub (cd Try.f5) [1,1,1,0,1,0,0]), .inBlock 0, .code (csub (cd Try.f5) [1,1,1,1])] [(0, .string (sb s)), (3, vl), (5, .int .i64 (((k + 1) : Nat) : Int))] w27 (by kernel_rfl) (.cons o47 .nil) ?_
        exact ih vl (k + 1) _ (by omega) hM29 (by omega)
    ·
      have h2p : ¬ (((k : Nat) : Int) < (((List.length (tokL s)) : Nat) : Int)) := of_decide_eq_false h2
      refine GoS.run [3, 77] [.n, .n, .n, .n] _ [.inRegion (cops (csub (cd Try.f5) [1,1,1,1,0])) [1,2,3,4,5,6], .code (csub (cd Try.f5) [1,1,1,1,1])] [(3, vl), (77, .string (sb s))] w (by kernel_rfl) .nil ?_
      refine GoS.call [3] 11 #[.string (sb s)] (some 78) [.inRegion (cops (csub (cd Try.f5) [1,1,1,1,0])) [2,3,4,5,6], .code (csub (cd Try.f5) [1,1,1,1,1])] [(3, vl)] (by kernel_rfl) (folded_c s (by first | omega | (have q1 := (tok_zero h0).1; have q2 := @decL_len s; have q3 := encT_len (foldL s); have q4 := foldL_len s; omega) | (have q5 := (twice_at h0 (j := k) (by omega)).2.2.2.2; omega)) w) ?_
      rintro _ w3 ⟨v6, rfl, m4⟩
      refine ⟨_, rfl, ?_⟩
      have hM5 := Mem.join hM m4
      refine GoS.run [3, 9, 82] [.n, .n, .n, .n, .n, .n, .n, .n, .n] _ [.inRegion (cops (csub (cd Try.f5) [1,1,1,1,1,0])) [1,2,3,4,5,6], .code (csub (cd Try.f5) [1,1,1,1,1,1])] [(3, vl), (9, .int .i64 (decE s)), (82, v6)] w3 (by kernel_rfl) .nil ?_
      refine GoS.call [3, 9] 15 #[v6] (some 83) [.inRegion (cops (csub (cd Try.f5) [1,1,1,1,1,0])) [2,3,4,5,6], .code (csub (cd Try.f5) [1,1,1,1,1,1])] [(3, vl), (9, .int .i64 (decE s))] (by kernel_rfl) (encode_c v6 (foldL s) w3 (hM5.rd 0 rfl) (by first | omega | (have q1 := (tok_zero h0).1; have q2 := @decL_len s; have q3 := encT_len (foldL s); have q4 := foldL_len s; omega) | (have q5 := (twice_at h0 (j := k) (by omega)).2.2.2.2; omega))) ?_
      rintro _ w7 ⟨rfl, m8⟩
      refine ⟨_, rfl, ?_⟩
      have hM9 := Mem.join hM5 m8
      have hM10 : Mem [] w0 w7 [⟨28, 2, vl, (List.length (tokL s)), (recs tokc (tokL s))⟩] := hM9.sub (List.Sublist.cons _ (List.Sublist.cons_cons _ (List.Sublist.refl _)))
      refine GoS.run [3, 9, 11, 87] [.n, .n, .n, .n, .n, .n, .n, .n, .n] _ [.inRegion (cops (csub (cd Try.f5) [1,1,1,1,1,1,0])) [1,2,3,4,5,6], .code (csub (cd Try.f5) [1,1,1,1,1,1,1])] [(3, vl), (9, .int .i64 (decE s)), (11, .int .i64 (encE (foldL s))), (87, .string (sb (encT (foldL s))))] w7 (by kernel_rfl) .nil ?_
      refine GoS.call [3, 9, 11] 6 #[.string (sb (encT (foldL s)))] (some 88) [.inRegion (cops (csub (cd Try.f5) [1,1,1,1,1,1,0])) [2,3,4,5,6], .code (csub (cd Try.f5) [1,1,1,1,1,1,1])] [(3, vl), (9, .int .i64 (decE s)), (11, .int .i64 (encE (foldL s)))] (by kernel_rfl) (tokens_c (encT (foldL s)) w7) ?_
      rintro _ w11 ⟨v14, rfl, m12⟩
      refine ⟨_, rfl, ?_⟩
      have hM13 := Mem.join hM10 m12
      have o15 : (IntKind.i64 = IntKind.i64) ∧ w11 = w11 ∧ Value.bool true = .bool ((decE s) == 0) := ⟨rfl, rfl, congrArg Value.bool (Eq.symm (by rw [(folded_same h0).1]; rfl))⟩
      have o16 : (IntKind.i64 = IntKind.i64) ∧ w11 = w11 ∧ Value.bool true = .bool ((encE (foldL s)) == 0) := ⟨rfl, rfl, congrArg Value.bool (Eq.symm (by rw [(folded_same h0).2.1]; rfl))⟩
      have o17 : (IntKind.i64 = IntKind.i64) ∧ w11 = w11 ∧ Value.bool true = .bool ((tokE (encT (foldL s))) == 0) := ⟨rfl, rfl, congrArg Value.bool (Eq.symm (by rw [(folded_same h0).2.2.1]; rfl))⟩
      refine GoS.run [101, 102, 103] [.n, .n, .n, .n, .n, .n, .n, .n, .n, .h (.bool true), .n, .n, .h (.bool true), .n, .n, .n, .h (.bool true), .n, .n, .n, .n] _ [.inRegion (cops (csub (cd Try.f5) [1,1,1,1,1,1,1,0])) [13,14,15], .code (csub (cd Try.f5) [1,1,1,1,1,1,1,1])] [(101, .bool true), (102, vl), (103, v14)] w11 (by kernel_rfl) (.cons o15 (.cons o16 (.cons o17 .nil))) ?_
      refine GoS.call [101] 13 #[vl, v14] (some 104) [.inRegion (cops (csub (cd Try.f5) [1,1,1,1,1,1,1,0])) [14,15], .code (csub (cd Try.f5) [1,1,1,1,1,1,1,1])] [(101, .bool true)] (by kernel_rfl) (tsame_yes vl v14 (tokL s) (tokL (encT (foldL s))) w11 (hM13.rd 1 rfl) (hM13.rd 0 rfl) ((folded_same h0).2.2.2)) ?_
      rintro _ w18 ⟨rfl, d19⟩
      refine ⟨_, rfl, ?_⟩
      have hM20 := hM13.dr d19
      have hM21 : Mem [] w0 w18 [] := hM20.sub (List.Sublist.cons _ (List.Sublist.cons _ (List.Sublist.refl _)))
      refine GoS.run [2] [.n, .n, .n] _ [.code (csub (cd Try.f5) [1,1,1,1,1,1,1,1])] [(2, .bool true)] w18 (by kernel_rfl) .nil ?_
      refine GoS.ret (fn := Try.f5) (v := (.bool true)) Try.func5 (by kernel_rfl) ?_
      rw [hR]
      exact ⟨rfl, hM21.below⟩

set_option maxHeartbeats 400000 in
theorem ltwice_c (s : List UInt8) (w : World) (rs : s.length ≤ 140737488351232) :
    Calls Try.prog 5 #[.string (sb s)] w (fun e w' => e = .returned (.bool true) ∧ Below w.heap.size w w') := by
  have hts := tokL_len s
  obtain ⟨R, hR⟩ : ∃ R : Ending → World → Prop, R = (fun e w' => e = .returned (.bool true) ∧ Below w.heap.size w w') := ⟨_, rfl⟩
  rw [← hR]
  refine GoS.enter (n := 106) Try.func5 (by kernel_rfl) rfl [(0, .string (sb s))] (by kernel_rfl) (by kernel_rfl) ?_
  have hM0 := Mem.start w
  refine GoS.run [0, 15] [.n, .n, .n, .n, .n, .n, .n] _ [.inRegion (cops (csub (cd Try.f5) [1,0])) [1,2,3,4,5,6], .code (csub (cd Try.f5) [1,1])] [(0, .string (sb s)), (15, .string (sb s))] w (by kernel_rfl) .nil ?_
  refine GoS.call [0] 6 #[.string (sb s)] (some 16) [.inRegion (cops (csub (cd Try.f5) [1,0])) [2,3,4,5,6], .code (csub (cd Try.f5) [1,1])] [(0, .string (sb s))] (by kernel_rfl) (tokens_c s w) ?_
  rintro _ w1 ⟨v4, rfl, m2⟩
  refine ⟨_, rfl, ?_⟩
  have hM3 := Mem.join hM0 m2
  refine GoS.run [0, 3, 4] [.n, .n, .n, .n, .n, .n, .n, .n, .n] _ [.inRegion (cops (csub (cd Try.f5) [1,1,0,0])) [0,1,2,3,4,5], .code (csub (cd Try.f5) [1,1,0,1]), .code (csub (cd Try.f5) [1,1,1])] [(0, .string (sb s)), (3, v4), (4, .int .i64 (tokE s))] w1 (by kernel_rfl) .nil ?_
  refine GoS.call [0, 3, 4] 7 #[] (some 19) [.inRegion (cops (csub (cd Try.f5) [1,1,0,0])) [1,2,3,4,5], .code (csub (cd Try.f5) [1,1,0,1]), .code (csub (cd Try.f5) [1,1,1])] [(0, .string (sb s)), (3, v4), (4, .int .i64 (tokE s))] (by kernel_rfl) (awake_c w1) ?_
  rintro _ w5 ⟨rfl, m6⟩
  refine ⟨_, rfl, ?_⟩
  have hM7 := Mem.join hM3 m6
  refine GoS.run [0, 3, 24] [.n, .n, .n, .n, .n, .n] _ [.code (csub (cd Try.f5) [1,1,0,1]), .code (csub (cd Try.f5) [1,1,1])] [(0, .string (sb s)), (3, v4), (24, .bool ((tokE s) != 0))] w5 (by kernel_rfl) .nil ?_
  refine GoS.cond ((tokE s) != 0) [.code (csub (cd Try.f5) [1,1,0,1,0]), .code (csub (cd Try.f5) [1,1,1])] [.code (csub (cd Try.f5) [1,1,0,1,1]), .code (csub (cd Try.f5) [1,1,1])] (by kernel_rfl) (fun h8 => ?_) (fun h8 => ?_)
  ·
    have h8p : ¬ ((tokE s) = 0) := bne_iff_ne.1 h8
    refine GoS.run [3] [.n, .n] _ [.inRegion (cops (csub (cd Try.f5) [1,1,0,1,0,0])) [0,1,2,3,4,5,6], .code (csub (cd Try.f5) [1,1,0,1,0,1]), .code (csub (cd Try.f5) [1,1,1])] [(3, v4)] w5 (by kernel_rfl) .nil ?_
    refine GoS.call [3] 7 #[] (some 25) [.inRegion (cops (csub (cd Try.f5) [1,1,0,1,0,0])) [1,2,3,4,5,6], .code (csub (cd Try.f5) [1,1,0,1,0,1]), .code (csub (cd Try.f5) [1,1,1])] [(3, v4)] (by kernel_rfl) (awake_c w5) ?_
    rintro _ w9 ⟨rfl, m10⟩
    refine ⟨_, rfl, ?_⟩
    have hM11 := Mem.join hM7 m10
    have o12 : (Builtin.len_ #[22] 3 #[v4]).run Try.prog w9 = .ok (.int .i64 (((List.length (tokL s)) : Nat) : Int)) w9 := f_slen sT22 (hM11.rd 0 rfl) 3 _
    have o13 : (IntKind.i64 = IntKind.i64) ∧ w9 = w9 ∧ Value.bool true = .bool ((((List.length (tokL s)) : Nat) : Int) == 0) := ⟨rfl, rfl, congrArg Value.bool (Eq.symm (by rw [tok_not (bne_iff_ne.1 h8)]; rfl))⟩
    have hM14 : Mem [] w w9 [] := hM11.sub (List.Sublist.cons _ (List.Sublist.refl _))
    refine GoS.run [2] [.n, .n, .h (.int .i64 (((List.length (tokL s)) : Nat) : Int)), .h (.bool true), .n, .n, .n] _ [.code (csub (cd Try.f5) [1,1,0,1,0,1]), .code (csub (cd Try.f5) [1,1,1])] [(2, .bool true)] w9 (by kernel_rfl) (.cons o12 (.cons o13 .nil)) ?_
    refine GoS.ret (fn := Try.f5) (v := (.bool true)) Try.func5 (by kernel_rfl) ?_
    rw [hR]
    exact ⟨rfl, hM14.below⟩
  ·
    have h8p : (tokE s) = 0 := p_eq h8
    refine GoS.run [0, 3] [.n] _ [.code (csub (cd Try.f5) [1,1,1])] [(0, .string (sb s)), (3, v4)] w5 (by kernel_rfl) .nil ?_
    refine GoS.run [0, 3, 5] [.n, .n, .n, .n, .n, .n, .n] _ [.code (csub (cd Try.f5) [1,1,1,0,1,0,0]), .inLoop (csub (cd Try.f5) [1,1,1,0,1,0,0]), .inBlock 0, .code (csub (cd Try.f5) [1,1,1,1])] [(0, .string (sb s)), (3, v4), (5, .int .i64 0)] w5 (by kernel_rfl) .nil ?_
    exact ltwice_L s (by omega) R hR ((tokL s).length + 1) v4 0 w5 (by omega) hM7 (by omega)


end Go.Proofs.Ytokoifpldgekaaa
