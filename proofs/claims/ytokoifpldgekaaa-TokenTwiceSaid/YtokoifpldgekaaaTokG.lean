/-
  The walks of awake, TokenTexts and TokenJoins.
-/
import Derived.Test.YtokoifpldgekaaaTokD
import Derived.Test.YtokoifpldgekaaaTokL
namespace Go.Proofs.Ytokoifpldgekaaa
open Go Go.Gw Go.UtfP Go.TokP Go.RowKit
set_option linter.unusedVariables false
set_option linter.unusedSimpArgs false


set_option maxHeartbeats 400000 in
theorem awake_c (w : World) :
    Calls Try.prog 7 #[] w (fun e w' => e = .returned (.bool true) ∧ Mem [] w w' []) := by
  obtain ⟨R, hR⟩ : ∃ R : Ending → World → Prop, R = (fun e w' => e = .returned (.bool true) ∧ Mem [] w w' []) := ⟨_, rfl⟩
  rw [← hR]
  refine GoS.enter (n := 16) Try.func7 (by kernel_rfl) rfl [] (by kernel_rfl) (by kernel_rfl) ?_
  have hM0 := Mem.start w
  refine GoS.run [] [.n, .n, .n, .n, .n, .n] _ [.inRegion (cops (csub (cd Try.f7) [1,0])) [0,1,2,3,4,5], .code (csub (cd Try.f7) [1,1])] [] w (by kernel_rfl) .nil ?_
  refine GoS.call [] 6 #[.string (sb ([84, 104, 101, 32, 70, 79, 88, 46] : List UInt8))] (some 4) [.inRegion (cops (csub (cd Try.f7) [1,0])) [1,2,3,4,5], .code (csub (cd Try.f7) [1,1])] [] (by kernel_rfl) (tokens_c ([84, 104, 101, 32, 70, 79, 88, 46] : List UInt8) w) ?_
  rintro _ w1 ⟨v4, rfl, m2⟩
  refine ⟨_, rfl, ?_⟩
  have hM3 := Mem.join hM0 m2
  have o9 : (IntKind.i64 = IntKind.i64) ∧ w1 = w1 ∧ Value.bool true = .bool ((tokE ([84, 104, 101, 32, 70, 79, 88, 46] : List UInt8)) == 0) := ⟨rfl, rfl, congrArg Value.bool (Eq.symm (by decide +kernel))⟩
  obtain ⟨v5, w6, hr7, hM8⟩ := m_lit sT22 hM3 (n := 2) (parts := #[(0, .agg #[.string (sb ([116, 104, 101] : List UInt8)), .int .i64 0]), (1, .agg #[.string (sb ([102, 111, 120] : List UInt8)), .int .i64 1])]) (cs := [.string (sb ([116, 104, 101] : List UInt8)), .int .i64 0, .string (sb ([102, 111, 120] : List UInt8)), .int .i64 1]) (by decide) (by kernel_rfl) rfl
  have o10 : (Instr.buildSlice 22 2 #[(0, .agg #[.string (sb ([116, 104, 101] : List UInt8)), .int .i64 0]), (1, .agg #[.string (sb ([102, 111, 120] : List UInt8)), .int .i64 1])]).run Try.prog w1 = .ok v5 w6 := hr7
  refine GoS.run [9, 10, 13] [.n, .n, .n, .n, .n, .n, .n, .n, .n, .h (.bool true), .n, .n, .n, .n, .u (v5) (w6)] _ [.inRegion (cops (csub (cd Try.f7) [1,1,0])) [7,8,9], .code (csub (cd Try.f7) [1,1,1])] [(9, .bool true), (10, v4), (13, v5)] w6 (by kernel_rfl) (.cons o9 (.cons o10 .nil)) ?_
  refine GoS.call [9] 13 #[v4, v5] (some 14) [.inRegion (cops (csub (cd Try.f7) [1,1,0])) [8,9], .code (csub (cd Try.f7) [1,1,1])] [(9, .bool true)] (by kernel_rfl) (tsame_yes v4 v5 (tokL ([84, 104, 101, 32, 70, 79, 88, 46] : List UInt8)) ([(Tok.mk ([116, 104, 101] : List UInt8) 0), (Tok.mk ([102, 111, 120] : List UInt8) 1)] : List Tok) w6 (hM8.rd 1 rfl) (hM8.rd 0 rfl) (by decide +kernel)) ?_
  rintro _ w11 ⟨rfl, d12⟩
  refine ⟨_, rfl, ?_⟩
  have hM13 := hM8.dr d12
  have hM14 : Mem [] w w11 [] := hM13.sub (List.Sublist.cons _ (List.Sublist.cons _ (List.Sublist.refl _)))
  refine GoS.run [0] [.n, .n, .n] _ [.code (csub (cd Try.f7) [1,1,1])] [(0, .bool true)] w11 (by kernel_rfl) .nil ?_
  refine GoS.ret (fn := Try.f7) (v := (.bool true)) Try.func7 (by kernel_rfl) ?_
  rw [hR]
  exact ⟨ret_bool (by decide +kernel), hM14⟩

set_option maxHeartbeats 400000 in
theorem ltexts_L (s : List UInt8) {w0 : World} (R : Ending → World → Prop) (hR : R = (fun e w' => e = .returned (.bool true) ∧ Below w0.heap.size w0 w')) : ∀ (N : Nat) (va vb vc : Value) (l : List Tok) (k : Nat) (w : World) (hl : l.length = (tokL s).length) (hk : k ≤ (tokL s).length) (hM : Mem [] w0 w [⟨28, 2, va, (List.length l), (recs tokc l)⟩, ⟨28, 2, vb, (List.length (tokL s)), (recs tokc (tokL s))⟩, ⟨28, 2, vc, (List.length (tokL s)), (recs tokc (tokL s))⟩]) (hN : (tokL s).length - k < N), GoS Try.prog 4 R 100 [.code (csub (cd Try.f4) [1,1,1,1,1,1,1,1,1,0,1,0,0]), .inLoop (csub (cd Try.f4) [1,1,1,1,1,1,1,1,1,0,1,0,0]), .inBlock 0, .code (csub (cd Try.f4) [1,1,1,1,1,1,1,1,1,1])] [(3, va), (5, vb), (7, vc), (17, .int .i64 ((k : Nat) : Int))] w := by
  intro N
  induction N with
  | zero => intro va vb vc l k w hl hk hM hN; exact absurd hN (Nat.not_lt_zero _)
  | succ N ih =>
    intro va vb vc l k w hl hk hM hN
    have hlen := rd_len (hM.rd 0 rfl)
    simp only [maxLen] at hlen
    have o1 : (Builtin.len_ #[22] 3 #[va]).run Try.prog w = .ok (.int .i64 (((List.length l) : Nat) : Int)) w := f_slen sT22 (hM.rd 0 rfl) 3 _
    refine GoS.run [3, 5, 7, 17, 90] [.n, .n, .n, .n, .n, .h (.int .i64 (((List.length l) : Nat) : Int)), .n, .n] _ [.code (csub (cd Try.f4) [1,1,1,1,1,1,1,1,1,0,1,0,0,0,1]), .code (csub (cd Try.f4) [1,1,1,1,1,1,1,1,1,0,1,0,0,1]), .inLoop (csub (cd Try.f4) [1,1,1,1,1,1,1,1,1,0,1,0,0]), .inBlock 0, .code (csub (cd Try.f4) [1,1,1,1,1,1,1,1,1,1])] [(3, va), (5, vb), (7, vc), (17, .int .i64 ((k : Nat) : Int)), (90, .bool (decide (((k : Nat) : Int) < (((List.length l) : Nat) : Int))))] w (by kernel_rfl) (.cons o1 .nil) ?_
    refine GoS.cond (decide (((k : Nat) : Int) < (((List.length l) : Nat) : Int))) [.code (csub (cd Try.f4) [1,1,1,1,1,1,1,1,1,0,1,0,0,0,1,0]), .code (csub (cd Try.f4) [1,1,1,1,1,1,1,1,1,0,1,0,0,1]), .inLoop (csub (cd Try.f4) [1,1,1,1,1,1,1,1,1,0,1,0,0]), .inBlock 0, .code (csub (cd Try.f4) [1,1,1,1,1,1,1,1,1,1])] [.code (csub (cd Try.f4) [1,1,1,1,1,1,1,1,1,0,1,0,0,0,1,1]), .code (csub (cd Try.f4) [1,1,1,1,1,1,1,1,1,0,1,0,0,1]), .inLoop (csub (cd Try.f4) [1,1,1,1,1,1,1,1,1,0,1,0,0]), .inBlock 0, .code (csub (cd Try.f4) [1,1,1,1,1,1,1,1,1,1])] (by kernel_rfl) (fun h2 => ?_) (fun h2 => ?_)
    ·
      have h2p : ((k : Nat) : Int) < (((List.length l) : Nat) : Int) := of_decide_eq_true h2
      refine GoS.run [3, 5, 7, 17] [.n] _ [.code (csub (cd Try.f4) [1,1,1,1,1,1,1,1,1,0,1,0,0,1]), .inLoop (csub (cd Try.f4) [1,1,1,1,1,1,1,1,1,0,1,0,0]), .inBlock 0, .code (csub (cd Try.f4) [1,1,1,1,1,1,1,1,1,1])] [(3, va), (5, vb), (7, vc), (17, .int .i64 ((k : Nat) : Int))] w (by kernel_rfl) .nil ?_
      obtain ⟨p8, hp9, hq10⟩ := rd_at (i := ((k : Nat) : Int)) sT22 (hM.rd 0 rfl) k (by omega) (by first | omega | (dsimp only; omega))
      have o15 : (Instr.indexAt 22 (va) (.int .i64 ((k : Nat) : Int))).run Try.prog w = .ok (.pointer (some p8)) w := hq10 _ _
      obtain ⟨w11, hr12, hM13⟩ := r_stores (f := tokc) (l := l) aE28 hM 0 rfl tokc_len hp9 (by first | omega | (dsimp only; omega)) (Tok.mk ([120] : List UInt8) 0) (tokc_one _)
      have hM14 : Mem [] w0 w11 [⟨28, 2, va, (List.length l), (recs tokc (List.set l k (Tok.mk ([120] : List UInt8) 0)))⟩, ⟨28, 2, vb, (List.length (tokL s)), (recs tokc (tokL s))⟩, ⟨28, 2, vc, (List.length (tokL s)), (recs tokc (tokL s))⟩] := hM13.cast (by simp)
      have o16 : (Instr.storeAt 28 (.pointer (some p8)) (.agg #[.string (sb ([120] : List UInt8)), .int .i64 0])).run Try.prog w = .ok () w11 ∧ undef = undef := ⟨hr12, rfl⟩
      have o17 : (binOp .add 3 (.int .i64 ((k : Nat) : Int)) (.int .i64 1)).run Try.prog w11 = .ok (.int .i64 (((k + 1) : Nat) : Int)) w11 := f_add (by rw [show ((k : Nat) : Int) + 1 = (((k + 1) : Nat) : Int) by omega]; exact IntWalk.i64_in _ (by omega))
      refine GoS.run [3, 5, 7, 17] [.n, .n, .n, .n, .n, .n, .h (.pointer (some p8)), .u (undef) (w11), .n, .n, .n, .n, .h (.int .i64 (((k + 1) : Nat) : Int)), .n, .n, .n] _ [.code (csub (cd Try.f4) [1,1,1,1,1,1,1,1,1,0,1,0,0]), .inLoop (csub (cd Try.f4) [1,1,1,1,1,1,1,1,1,0,1,0,0]), .inBlock 0, .code (csub (cd Try.f4) [1,1,1,1,1,1,1,1,1,1])] [(3, va), (5, vb), (7, vc), (17, .int .i64 (((k + 1) : Nat) : Int))] w11 (by kernel_rfl) (.cons o15 (.cons o16 (.cons o17 .nil))) ?_
      exact ih va vb vc (List.set l k (Tok.mk ([120] : List UInt8) 0)) (k + 1) _ (by rw [List.length_set]; exact hl) (by omega) (hM14.cast (by simp)) (by omega)
    ·
      have h2p : ¬ (((k : Nat) : Int) < (((List.length l) : Nat) : Int)) := of_decide_eq_false h2
      have hM3 : Mem [] w0 w [⟨28, 2, vb, (List.length (tokL s)), (recs tokc (tokL s))⟩, ⟨28, 2, vc, (List.length (tokL s)), (recs tokc (tokL s))⟩] := hM.sub (List.Sublist.cons _ (List.Sublist.cons_cons _ (List.Sublist.cons_cons _ (List.Sublist.refl _))))
      refine GoS.run [97, 98] [.n, .n, .n, .n, .n] _ [.inRegion (cops (csub (cd Try.f4) [1,1,1,1,1,1,1,1,1,1,0])) [2,3], .code (csub (cd Try.f4) [1,1,1,1,1,1,1,1,1,1,1])] [(97, vc), (98, vb)] w (by kernel_rfl) .nil ?_
      refine GoS.call [] 13 #[vc, vb] (some 99) [.inRegion (cops (csub (cd Try.f4) [1,1,1,1,1,1,1,1,1,1,0])) [3], .code (csub (cd Try.f4) [1,1,1,1,1,1,1,1,1,1,1])] [] (by kernel_rfl) (tsame_yes vc vb (tokL s) (tokL s) w (hM3.rd 1 rfl) (hM3.rd 0 rfl) (rfl)) ?_
      rintro _ w4 ⟨rfl, d5⟩
      refine ⟨_, rfl, ?_⟩
      have hM6 := hM3.dr d5
      have hM7 : Mem [] w0 w4 [] := hM6.sub (List.Sublist.cons _ (List.Sublist.cons _ (List.Sublist.refl _)))
      refine GoS.run [2] [.n, .n] _ [.code (csub (cd Try.f4) [1,1,1,1,1,1,1,1,1,1,1])] [(2, .bool true)] w4 (by kernel_rfl) .nil ?_
      refine GoS.ret (fn := Try.f4) (v := (.bool true)) Try.func4 (by kernel_rfl) ?_
      rw [hR]
      exact ⟨rfl, hM7.below⟩

set_option maxHeartbeats 400000 in
theorem ltexts_c (s : List UInt8) (w : World) (hs : s.length ≤ 1048576) :
    Calls Try.prog 4 #[.string (sb s)] w (fun e w' => e = .returned (.bool true) ∧ Below w.heap.size w w') := by
  obtain ⟨R, hR⟩ : ∃ R : Ending → World → Prop, R = (fun e w' => e = .returned (.bool true) ∧ Below w.heap.size w w') := ⟨_, rfl⟩
  rw [← hR]
  refine GoS.enter (n := 100) Try.func4 (by kernel_rfl) rfl [(0, .string (sb s))] (by kernel_rfl) (by kernel_rfl) ?_
  have hM0 := Mem.start w
  refine GoS.run [0, 19] [.n, .n, .n, .n, .n, .n, .n] _ [.inRegion (cops (csub (cd Try.f4) [1,0])) [1,2,3,4,5,6], .code (csub (cd Try.f4) [1,1])] [(0, .string (sb s)), (19, .string (sb s))] w (by kernel_rfl) .nil ?_
  refine GoS.call [0] 6 #[.string (sb s)] (some 20) [.inRegion (cops (csub (cd Try.f4) [1,0])) [2,3,4,5,6], .code (csub (cd Try.f4) [1,1])] [(0, .string (sb s))] (by kernel_rfl) (tokens_c s w) ?_
  rintro _ w1 ⟨v4, rfl, m2⟩
  refine ⟨_, rfl, ?_⟩
  have hM3 := Mem.join hM0 m2
  refine GoS.run [0, 3, 4, 24] [.n, .n, .n, .n, .n, .n, .n, .n, .n] _ [.inRegion (cops (csub (cd Try.f4) [1,1,0])) [1,2,3,4,5,6], .code (csub (cd Try.f4) [1,1,1])] [(0, .string (sb s)), (3, v4), (4, .int .i64 (tokE s)), (24, .string (sb s))] w1 (by kernel_rfl) .nil ?_
  refine GoS.call [0, 3, 4] 8 #[.string (sb s)] (some 25) [.inRegion (cops (csub (cd Try.f4) [1,1,0])) [2,3,4,5,6], .code (csub (cd Try.f4) [1,1,1])] [(0, .string (sb s)), (3, v4), (4, .int .i64 (tokE s))] (by kernel_rfl) (rtokens_c s w1) ?_
  rintro _ w5 ⟨v8, rfl, m6⟩
  refine ⟨_, rfl, ?_⟩
  have hM7 := Mem.join hM3 m6
  refine GoS.run [0, 3, 4, 5, 6, 29] [.n, .n, .n, .n, .n, .n, .n, .n, .n] _ [.inRegion (cops (csub (cd Try.f4) [1,1,1,0])) [1,2,3,4,5,6], .code (csub (cd Try.f4) [1,1,1,1])] [(0, .string (sb s)), (3, v4), (4, .int .i64 (tokE s)), (5, v8), (6, .int .i64 (tokE s)), (29, .string (sb s))] w5 (by kernel_rfl) .nil ?_
  refine GoS.call [0, 3, 4, 5, 6] 6 #[.string (sb s)] (some 30) [.inRegion (cops (csub (cd Try.f4) [1,1,1,0])) [2,3,4,5,6], .code (csub (cd Try.f4) [1,1,1,1])] [(0, .string (sb s)), (3, v4), (4, .int .i64 (tokE s)), (5, v8), (6, .int .i64 (tokE s))] (by kernel_rfl) (tokens_c s w5) ?_
  rintro _ w9 ⟨v12, rfl, m10⟩
  refine ⟨_, rfl, ?_⟩
  have hM11 := Mem.join hM7 m10
  refine GoS.run [0, 3, 4, 5, 6, 7, 34] [.n, .n, .n, .n, .n, .n, .n, .n, .n] _ [.inRegion (cops (csub (cd Try.f4) [1,1,1,1,0])) [1,2,3,4,5,6], .code (csub (cd Try.f4) [1,1,1,1,1])] [(0, .string (sb s)), (3, v4), (4, .int .i64 (tokE s)), (5, v8), (6, .int .i64 (tokE s)), (7, v12), (34, .string (sb s))] w9 (by kernel_rfl) .nil ?_
  refine GoS.call [0, 3, 4, 5, 6, 7] 9 #[.string (sb s)] (some 35) [.inRegion (cops (csub (cd Try.f4) [1,1,1,1,0])) [2,3,4,5,6], .code (csub (cd Try.f4) [1,1,1,1,1])] [(0, .string (sb s)), (3, v4), (4, .int .i64 (tokE s)), (5, v8), (6, .int .i64 (tokE s)), (7, v12)] (by kernel_rfl) (term_c s w9) ?_
  rintro _ w13 ⟨rfl, m14⟩
  refine ⟨_, rfl, ?_⟩
  have hM15 := Mem.join hM11 m14
  refine GoS.run [0, 3, 4, 5, 6, 7, 9, 10, 39] [.n, .n, .n, .n, .n, .n, .n, .n, .n] _ [.inRegion (cops (csub (cd Try.f4) [1,1,1,1,1,0])) [1,2,3,4,5,6], .code (csub (cd Try.f4) [1,1,1,1,1,1])] [(0, .string (sb s)), (3, v4), (4, .int .i64 (tokE s)), (5, v8), (6, .int .i64 (tokE s)), (7, v12), (9, .string (sb (termS s))), (10, .int .i64 (termE s)), (39, .string (sb s))] w13 (by kernel_rfl) .nil ?_
  refine GoS.call [0, 3, 4, 5, 6, 7, 9, 10] 10 #[.string (sb s)] (some 40) [.inRegion (cops (csub (cd Try.f4) [1,1,1,1,1,0])) [2,3,4,5,6], .code (csub (cd Try.f4) [1,1,1,1,1,1])] [(0, .string (sb s)), (3, v4), (4, .int .i64 (tokE s)), (5, v8), (6, .int .i64 (tokE s)), (7, v12), (9, .string (sb (termS s))), (10, .int .i64 (termE s))] (by kernel_rfl) (rterm_c s w13) ?_
  rintro _ w16 ⟨rfl, m17⟩
  refine ⟨_, rfl, ?_⟩
  have hM18 := Mem.join hM15 m17
  refine GoS.run [0, 3, 4, 5, 6, 7, 9, 10, 11, 12, 44] [.n, .n, .n, .n, .n, .n, .n, .n, .n] _ [.inRegion (cops (csub (cd Try.f4) [1,1,1,1,1,1,0])) [1,2,3,4,5,6], .code (csub (cd Try.f4) [1,1,1,1,1,1,1])] [(0, .string (sb s)), (3, v4), (4, .int .i64 (tokE s)), (5, v8), (6, .int .i64 (tokE s)), (7, v12), (9, .string (sb (termS s))), (10, .int .i64 (termE s)), (11, .string (sb (termS s))), (12, .int .i64 (termE s)), (44, .string (sb s))] w16 (by kernel_rfl) .nil ?_
  refine GoS.call [0, 3, 4, 5, 6, 7, 9, 10, 11, 12] 11 #[.string (sb s)] (some 45) [.inRegion (cops (csub (cd Try.f4) [1,1,1,1,1,1,0])) [2,3,4,5,6], .code (csub (cd Try.f4) [1,1,1,1,1,1,1])] [(0, .string (sb s)), (3, v4), (4, .int .i64 (tokE s)), (5, v8), (6, .int .i64 (tokE s)), (7, v12), (9, .string (sb (termS s))), (10, .int .i64 (termE s)), (11, .string (sb (termS s))), (12, .int .i64 (termE s))] (by kernel_rfl) (folded_c s (by omega) w16) ?_
  rintro _ w19 ⟨v22, rfl, m20⟩
  refine ⟨_, rfl, ?_⟩
  have hM21 := Mem.join hM18 m20
  refine GoS.run [3, 4, 5, 6, 7, 9, 10, 11, 12, 13, 14, 49] [.n, .n, .n, .n, .n, .n, .n, .n, .n] _ [.inRegion (cops (csub (cd Try.f4) [1,1,1,1,1,1,1,0])) [1,2,3,4,5,6], .code (csub (cd Try.f4) [1,1,1,1,1,1,1,1])] [(3, v4), (4, .int .i64 (tokE s)), (5, v8), (6, .int .i64 (tokE s)), (7, v12), (9, .string (sb (termS s))), (10, .int .i64 (termE s)), (11, .string (sb (termS s))), (12, .int .i64 (termE s)), (13, v22), (14, .int .i64 (decE s)), (49, .string (sb s))] w19 (by kernel_rfl) .nil ?_
  refine GoS.call [3, 4, 5, 6, 7, 9, 10, 11, 12, 13, 14] 12 #[.string (sb s)] (some 50) [.inRegion (cops (csub (cd Try.f4) [1,1,1,1,1,1,1,0])) [2,3,4,5,6], .code (csub (cd Try.f4) [1,1,1,1,1,1,1,1])] [(3, v4), (4, .int .i64 (tokE s)), (5, v8), (6, .int .i64 (tokE s)), (7, v12), (9, .string (sb (termS s))), (10, .int .i64 (termE s)), (11, .string (sb (termS s))), (12, .int .i64 (termE s)), (13, v22), (14, .int .i64 (decE s))] (by kernel_rfl) (rfolded_c s (by omega) w19) ?_
  rintro _ w23 ⟨v26, rfl, m24⟩
  refine ⟨_, rfl, ?_⟩
  have hM25 := Mem.join hM21 m24
  refine GoS.run [3, 4, 5, 6, 7, 9, 10, 11, 12, 13, 14, 15, 16] [.n, .n, .n, .n, .n, .n, .n, .n, .n] _ [.inRegion (cops (csub (cd Try.f4) [1,1,1,1,1,1,1,1,0,0])) [0,1,2,3,4,5,6,7,8,9,10,11,12,13,14,15,16,17,18,19,20,21,22,23,24,25,26,27,28,29,30,31,32,33], .code (csub (cd Try.f4) [1,1,1,1,1,1,1,1,0,1]), .code (csub (cd Try.f4) [1,1,1,1,1,1,1,1,1])] [(3, v4), (4, .int .i64 (tokE s)), (5, v8), (6, .int .i64 (tokE s)), (7, v12), (9, .string (sb (termS s))), (10, .int .i64 (termE s)), (11, .string (sb (termS s))), (12, .int .i64 (termE s)), (13, v22), (14, .int .i64 (decE s)), (15, v26), (16, .int .i64 (decE s))] w23 (by kernel_rfl) .nil ?_
  refine GoS.call [3, 4, 5, 6, 7, 9, 10, 11, 12, 13, 14, 15, 16] 7 #[] (some 53) [.inRegion (cops (csub (cd Try.f4) [1,1,1,1,1,1,1,1,0,0])) [1,2,3,4,5,6,7,8,9,10,11,12,13,14,15,16,17,18,19,20,21,22,23,24,25,26,27,28,29,30,31,32,33], .code (csub (cd Try.f4) [1,1,1,1,1,1,1,1,0,1]), .code (csub (cd Try.f4) [1,1,1,1,1,1,1,1,1])] [(3, v4), (4, .int .i64 (tokE s)), (5, v8), (6, .int .i64 (tokE s)), (7, v12), (9, .string (sb (termS s))), (10, .int .i64 (termE s)), (11, .string (sb (termS s))), (12, .int .i64 (termE s)), (13, v22), (14, .int .i64 (decE s)), (15, v26), (16, .int .i64 (decE s))] (by kernel_rfl) (awake_c w23) ?_
  rintro _ w27 ⟨rfl, m28⟩
  refine ⟨_, rfl, ?_⟩
  have hM29 := Mem.join hM25 m28
  have o30 : (IntKind.i64 = IntKind.i64) ∧ w27 = w27 ∧ Value.bool false = .bool ((tokE s) != (tokE s)) := ⟨rfl, rfl, congrArg Value.bool (Eq.symm (bne_self_eq_false _))⟩
  refine GoS.run [3, 5, 7, 9, 10, 11, 12, 13, 14, 15, 16, 60, 61, 62] [.n, .n, .n, .n, .h (.bool false), .n, .n, .n, .n] _ [.inRegion (cops (csub (cd Try.f4) [1,1,1,1,1,1,1,1,0,0])) [10,11,12,13,14,15,16,17,18,19,20,21,22,23,24,25,26,27,28,29,30,31,32,33], .code (csub (cd Try.f4) [1,1,1,1,1,1,1,1,0,1]), .code (csub (cd Try.f4) [1,1,1,1,1,1,1,1,1])] [(3, v4), (5, v8), (7, v12), (9, .string (sb (termS s))), (10, .int .i64 (termE s)), (11, .string (sb (termS s))), (12, .int .i64 (termE s)), (13, v22), (14, .int .i64 (decE s)), (15, v26), (16, .int .i64 (decE s)), (60, .bool false), (61, v4), (62, v8)] w27 (by kernel_rfl) (.cons o30 .nil) ?_
  refine GoS.call [3, 5, 7, 9, 10, 11, 12, 13, 14, 15, 16, 60] 13 #[v4, v8] (some 63) [.inRegion (cops (csub (cd Try.f4) [1,1,1,1,1,1,1,1,0,0])) [11,12,13,14,15,16,17,18,19,20,21,22,23,24,25,26,27,28,29,30,31,32,33], .code (csub (cd Try.f4) [1,1,1,1,1,1,1,1,0,1]), .code (csub (cd Try.f4) [1,1,1,1,1,1,1,1,1])] [(3, v4), (5, v8), (7, v12), (9, .string (sb (termS s))), (10, .int .i64 (termE s)), (11, .string (sb (termS s))), (12, .int .i64 (termE s)), (13, v22), (14, .int .i64 (decE s)), (15, v26), (16, .int .i64 (decE s)), (60, .bool false)] (by kernel_rfl) (tsame_yes v4 v8 (tokL s) (tokL s) w27 (hM29.rd 4 rfl) (hM29.rd 3 rfl) (rfl)) ?_
  rintro _ w31 ⟨rfl, d32⟩
  refine ⟨_, rfl, ?_⟩
  have hM33 := hM29.dr d32
  have o34 : (binOp .neq 9 (.string (sb (termS s))) (.string (sb (termS s)))).run Try.prog w31 = .ok (.bool false) w31 := f_strneq_yes (rfl)
  have o35 : (IntKind.i64 = IntKind.i64) ∧ w31 = w31 ∧ Value.bool false = .bool ((termE s) != (termE s)) := ⟨rfl, rfl, congrArg Value.bool (Eq.symm (bne_self_eq_false _))⟩
  have o36 : (IntKind.i64 = IntKind.i64) ∧ w31 = w31 ∧ Value.bool false = .bool ((decE s) != (decE s)) := ⟨rfl, rfl, congrArg Value.bool (Eq.symm (bne_self_eq_false _))⟩
  refine GoS.run [3, 5, 7, 81, 82, 83] [.n, .n, .n, .n, .n, .h (.bool false), .n, .n, .n, .n, .h (.bool false), .n, .n, .n, .n, .h (.bool false), .n, .n, .n, .n] _ [.inRegion (cops (csub (cd Try.f4) [1,1,1,1,1,1,1,1,0,0])) [31,32,33], .code (csub (cd Try.f4) [1,1,1,1,1,1,1,1,0,1]), .code (csub (cd Try.f4) [1,1,1,1,1,1,1,1,1])] [(3, v4), (5, v8), (7, v12), (81, .bool false), (82, v22), (83, v26)] w31 (by kernel_rfl) (.cons o34 (.cons o35 (.cons o36 .nil))) ?_
  refine GoS.call [3, 5, 7, 81] 14 #[v22, v26] (some 84) [.inRegion (cops (csub (cd Try.f4) [1,1,1,1,1,1,1,1,0,0])) [32,33], .code (csub (cd Try.f4) [1,1,1,1,1,1,1,1,0,1]), .code (csub (cd Try.f4) [1,1,1,1,1,1,1,1,1])] [(3, v4), (5, v8), (7, v12), (81, .bool false)] (by kernel_rfl) (numbers_yes v22 v26 (foldL s) (foldL s) w31 (hM33.rd 1 rfl) (hM33.rd 0 rfl) (rfl)) ?_
  rintro _ w37 ⟨rfl, d38⟩
  refine ⟨_, rfl, ?_⟩
  have hM39 := hM33.dr d38
  have hM40 : Mem [] w w37 [⟨28, 2, v12, (List.length (tokL s)), (recs tokc (tokL s))⟩, ⟨28, 2, v8, (List.length (tokL s)), (recs tokc (tokL s))⟩, ⟨28, 2, v4, (List.length (tokL s)), (recs tokc (tokL s))⟩] := hM39.sub (List.Sublist.cons _ (List.Sublist.cons _ (List.Sublist.cons_cons _ (List.Sublist.cons_cons _ (List.Sublist.cons_cons _ (List.Sublist.refl _))))))
  refine GoS.run [3, 5, 7, 17] [.n, .n, .n, .n, .n, .n, .n, .n, .n, .n, .n, .n] _ [.code (csub (cd Try.f4) [1,1,1,1,1,1,1,1,1,0,1,0,0]), .inLoop (csub (cd Try.f4) [1,1,1,1,1,1,1,1,1,0,1,0,0]), .inBlock 0, .code (csub (cd Try.f4) [1,1,1,1,1,1,1,1,1,1])] [(3, v4), (5, v8), (7, v12), (17, .int .i64 0)] w37 (by kernel_rfl) .nil ?_
  have hM41 : Mem [] w w37 [⟨28, 2, v8, (List.length (tokL s)), (recs tokc (tokL s))⟩, ⟨28, 2, v12, (List.length (tokL s)), (recs tokc (tokL s))⟩, ⟨28, 2, v4, (List.length (tokL s)), (recs tokc (tokL s))⟩] := hM40.perm ((List.Perm.cons _ (List.Perm.refl _)).trans (List.Perm.swap _ _ _))
  have hM42 : Mem [] w w37 [⟨28, 2, v4, (List.length (tokL s)), (recs tokc (tokL s))⟩, ⟨28, 2, v8, (List.length (tokL s)), (recs tokc (tokL s))⟩, ⟨28, 2, v12, (List.length (tokL s)), (recs tokc (tokL s))⟩] := hM41.perm ((List.Perm.cons _ ((List.Perm.cons _ (List.Perm.refl _)).trans (List.Perm.swap _ _ _))).trans (List.Perm.swap _ _ _))
  exact ltexts_L s R hR ((tokL s).length + 1) v4 v8 v12 (tokL s) 0 w37 rfl (by omega) hM42 (by omega)

set_option maxHeartbeats 400000 in
theorem ljoins_L (a b : List UInt8) {w0 : World} (ha : tokE a = 0) (hb : tokE b = 0) (hl : a.length + b.length < 4096) (R : Ending → World → Prop) (hR : R = (fun e w' => e = .returned (.bool true) ∧ Below w0.heap.size w0 w')) : ∀ (N : Nat) (vx vy vz : Value) (k : Nat) (w : World) (hk : k ≤ (tokL (a ++ [32] ++ b)).length) (hM : Mem [] w0 w [⟨28, 2, vx, (List.length (tokL a)), (recs tokc (tokL a))⟩, ⟨28, 2, vy, (List.length (tokL b)), (recs tokc (tokL b))⟩, ⟨28, 2, vz, (List.length (tokL (a ++ [32] ++ b))), (recs tokc (tokL (a ++ [32] ++ b)))⟩]) (hN : (tokL (a ++ [32] ++ b)).length - k < N), GoS Try.prog 3 R 93 [.code (csub (cd Try.f3) [1,1,1,1,1,1,0,1,0,0]), .inLoop (csub (cd Try.f3) [1,1,1,1,1,1,0,1,0,0]), .inBlock 0, .code (csub (cd Try.f3) [1,1,1,1,1,1,1])] [(5, vx), (7, vy), (9, vz), (11, .int .i64 ((k : Nat) : Int))] w := by
  intro N
  induction N with
  | zero => intro vx vy vz k w hk hM hN; exact absurd hN (Nat.not_lt_zero _)
  | succ N ih =>
    intro vx vy vz k w hk hM hN
    have hlen := rd_len (hM.rd 2 rfl)
    simp only [maxLen] at hlen
    have hjl := join_len ha hb hl
    have ej : (((k : Nat) : Int) - (((tokL a).length : Nat) : Int)).toNat = k - (tokL a).length := by omega
    have hkj : k < (tokL a).length ∨ (tokL a).length ≤ k := by omega
    have o1 : (Builtin.len_ #[22] 3 #[vz]).run Try.prog w = .ok (.int .i64 (((List.length (tokL (a ++ [32] ++ b))) : Nat) : Int)) w := f_slen sT22 (hM.rd 2 rfl) 3 _
    refine GoS.run [5, 7, 9, 11, 65] [.n, .n, .n, .n, .n, .h (.int .i64 (((List.length (tokL (a ++ [32] ++ b))) : Nat) : Int)), .n, .n] _ [.code (csub (cd Try.f3) [1,1,1,1,1,1,0,1,0,0,0,1]), .code (csub (cd Try.f3) [1,1,1,1,1,1,0,1,0,0,1]), .inLoop (csub (cd Try.f3) [1,1,1,1,1,1,0,1,0,0]), .inBlock 0, .code (csub (cd Try.f3) [1,1,1,1,1,1,1])] [(5, vx), (7, vy), (9, vz), (11, .int .i64 ((k : Nat) : Int)), (65, .bool (decide (((k : Nat) : Int) < (((List.length (tokL (a ++ [32] ++ b))) : Nat) : Int))))] w (by kernel_rfl) (.cons o1 .nil) ?_
    refine GoS.cond (decide (((k : Nat) : Int) < (((List.length (tokL (a ++ [32] ++ b))) : Nat) : Int))) [.code (csub (cd Try.f3) [1,1,1,1,1,1,0,1,0,0,0,1,0]), .code (csub (cd Try.f3) [1,1,1,1,1,1,0,1,0,0,1]), .inLoop (csub (cd Try.f3) [1,1,1,1,1,1,0,1,0,0]), .inBlock 0, .code (csub (cd Try.f3) [1,1,1,1,1,1,1])] [.code (csub (cd Try.f3) [1,1,1,1,1,1,0,1,0,0,0,1,1]), .code (csub (cd Try.f3) [1,1,1,1,1,1,0,1,0,0,1]), .inLoop (csub (cd Try.f3) [1,1,1,1,1,1,0,1,0,0]), .inBlock 0, .code (csub (cd Try.f3) [1,1,1,1,1,1,1])] (by kernel_rfl) (fun h2 => ?_) (fun h2 => ?_)
    ·
      have h2p : ((k : Nat) : Int) < (((List.length (tokL (a ++ [32] ++ b))) : Nat) : Int) := of_decide_eq_true h2
      refine GoS.run [5, 7, 9, 11] [.n] _ [.code (csub (cd Try.f3) [1,1,1,1,1,1,0,1,0,0,1]), .inLoop (csub (cd Try.f3) [1,1,1,1,1,1,0,1,0,0]), .inBlock 0, .code (csub (cd Try.f3) [1,1,1,1,1,1,1])] [(5, vx), (7, vy), (9, vz), (11, .int .i64 ((k : Nat) : Int))] w (by kernel_rfl) .nil ?_
      have o4 : (Builtin.len_ #[22] 3 #[vx]).run Try.prog w = .ok (.int .i64 (((List.length (tokL a)) : Nat) : Int)) w := f_slen sT22 (hM.rd 0 rfl) 3 _
      refine GoS.run [5, 7, 9, 11, 71] [.n, .n, .n, .n, .n, .n, .n, .n, .n, .n, .n, .h (.int .i64 (((List.length (tokL a)) : Nat) : Int)), .n, .n] _ [.code (csub (cd Try.f3) [1,1,1,1,1,1,0,1,0,0,1,0,0,1,0,1]), .code (csub (cd Try.f3) [1,1,1,1,1,1,0,1,0,0,1,0,0,1,1]), .inBlock 1, .code (csub (cd Try.f3) [1,1,1,1,1,1,0,1,0,0,1,1]), .inLoop (csub (cd Try.f3) [1,1,1,1,1,1,0,1,0,0]), .inBlock 0, .code (csub (cd Try.f3) [1,1,1,1,1,1,1])] [(5, vx), (7, vy), (9, vz), (11, .int .i64 ((k : Nat) : Int)), (71, .bool (decide (((k : Nat) : Int) < (((List.length (tokL a)) : Nat) : Int))))] w (by kernel_rfl) (.cons o4 .nil) ?_
      refine GoS.cond (decide (((k : Nat) : Int) < (((List.length (tokL a)) : Nat) : Int))) [.code (csub (cd Try.f3) [1,1,1,1,1,1,0,1,0,0,1,0,0,1,0,1,0]), .code (csub (cd Try.f3) [1,1,1,1,1,1,0,1,0,0,1,0,0,1,1]), .inBlock 1, .code (csub (cd Try.f3) [1,1,1,1,1,1,0,1,0,0,1,1]), .inLoop (csub (cd Try.f3) [1,1,1,1,1,1,0,1,0,0]), .inBlock 0, .code (csub (cd Try.f3) [1,1,1,1,1,1,1])] [.code (csub (cd Try.f3) [1,1,1,1,1,1,0,1,0,0,1,0,0,1,0,1,1]), .code (csub (cd Try.f3) [1,1,1,1,1,1,0,1,0,0,1,0,0,1,1]), .inBlock 1, .code (csub (cd Try.f3) [1,1,1,1,1,1,0,1,0,0,1,1]), .inLoop (csub (cd Try.f3) [1,1,1,1,1,1,0,1,0,0]), .inBlock 0, .code (csub (cd Try.f3) [1,1,1,1,1,1,1])] (by kernel_rfl) (fun h5 => ?_) (fun h5 => ?_)
      ·
        have h5p : ((k : Nat) : Int) < (((List.length (tokL a)) : Nat) : Int) := of_decide_eq_true h5
        obtain ⟨p6, hp7, hq8⟩ := rd_at (i := ((k : Nat) : Int)) sT22 (hM.rd 0 rfl) k (by omega) (by first | omega | (dsimp only; omega))
        have o9 : (Instr.indexAt 22 (vx) (.int .i64 ((k : Nat) : Int))).run Try.prog w = .ok (.pointer (some p6)) w := hq8 _ _
        have o10 : (Instr.loadAt 9 (.pointer (some (Addr.add p6 0)))).run Try.prog w = .ok (.string (sb ((List.getD (tokL a) k (Tok.mk [] 0)).t))) w := c_load pE9 (hM.rd 0 rfl) (Cel.add (At.cel hp7) 0) (recs_at (i := 0) tokc_len (Tok.mk [] 0) (by first | omega | (dsimp only; omega)) rfl)
        refine GoS.run [5, 7, 9, 11, 12] [.n, .n, .n, .h (.pointer (some p6)), .n, .h (.string (sb ((List.getD (tokL a) k (Tok.mk [] 0)).t))), .n, .n] _ [.code (csub (cd Try.f3) [1,1,1,1,1,1,0,1,0,0,1,0,0,1,1]), .inBlock 1, .code (csub (cd Try.f3) [1,1,1,1,1,1,0,1,0,0,1,1]), .inLoop (csub (cd Try.f3) [1,1,1,1,1,1,0,1,0,0]), .inBlock 0, .code (csub (cd Try.f3) [1,1,1,1,1,1,1])] [(5, vx), (7, vy), (9, vz), (11, .int .i64 ((k : Nat) : Int)), (12, .string (sb ((List.getD (tokL a) k (Tok.mk [] 0)).t)))] w (by kernel_rfl) (.cons o9 (.cons o10 .nil)) ?_
        obtain ⟨p18, hp19, hq20⟩ := rd_at (i := ((k : Nat) : Int)) sT22 (hM.rd 2 rfl) k (by omega) (by first | omega | (dsimp only; omega))
        have o21 : (Instr.indexAt 22 (vz) (.int .i64 ((k : Nat) : Int))).run Try.prog w = .ok (.pointer (some p18)) w := hq20 _ _
        have o22 : (Instr.loadAt 28 (.pointer (some p18))).run Try.prog w = .ok (.agg #[.string (sb ((List.getD (tokL (a ++ [32] ++ b)) k (Tok.mk [] 0)).t)), .int .i64 ((List.getD (tokL (a ++ [32] ++ b)) k (Tok.mk [] 0)).a)]) w := r_loads (f := tokc) (l := (tokL (a ++ [32] ++ b))) aE28 (hM.rd 2 rfl) tokc_len hp19 (by first | omega | (dsimp only; omega)) (Tok.mk [] 0)
        have o23 : Try.prog.eqGuardType Try.prog.depth 28 = false ∧ (binOp .neq 28 (.agg #[.string (sb ((List.getD (tokL (a ++ [32] ++ b)) k (Tok.mk [] 0)).t)), .int .i64 ((List.getD (tokL (a ++ [32] ++ b)) k (Tok.mk [] 0)).a)]) (.agg #[.string (sb ((List.getD (tokL a) k (Tok.mk [] 0)).t)), .int .i64 ((k : Nat) : Int)])).run Try.prog w = .ok (.bool false) w := f_agneq eT28 (xs := [.string (sb ((List.getD (tokL (a ++ [32] ++ b)) k (Tok.mk [] 0)).t)), .int .i64 ((List.getD (tokL (a ++ [32] ++ b)) k (Tok.mk [] 0)).a)]) (ys := [.string (sb ((List.getD (tokL a) k (Tok.mk [] 0)).t)), .int .i64 ((k : Nat) : Int)]) (r := (((sb ((List.getD (tokL (a ++ [32] ++ b)) k (Tok.mk [] 0)).t)).toList == (sb ((List.getD (tokL a) k (Tok.mk [] 0)).t)).toList) && ((((List.getD (tokL (a ++ [32] ++ b)) k (Tok.mk [] 0)).a) == ((k : Nat) : Int)) && true))) (by kernel_rfl) (by rw [join_left ha hb hl (by omega)]; simp [sb_beq])
        have o24 : (binOp .add 3 (.int .i64 ((k : Nat) : Int)) (.int .i64 1)).run Try.prog w = .ok (.int .i64 (((k + 1) : Nat) : Int)) w := f_add (by rw [show ((k : Nat) : Int) + 1 = (((k + 1) : Nat) : Int) by omega]; exact IntWalk.i64_in _ (by omega))
        refine GoS.run [5, 7, 9, 11] [.n, .n, .n, .n, .h (.pointer (some p18)), .h (.agg #[.string (sb ((List.getD (tokL (a ++ [32] ++ b)) k (Tok.mk [] 0)).t)), .int .i64 ((List.getD (tokL (a ++ [32] ++ b)) k (Tok.mk [] 0)).a)]), .n, .n, .n, .h (.bool false), .n, .n, .n, .n, .n, .n, .h (.int .i64 (((k + 1) : Nat) : Int)), .n, .n, .n] _ [.code (csub (cd Try.f3) [1,1,1,1,1,1,0,1,0,0]), .inLoop (csub (cd Try.f3) [1,1,1,1,1,1,0,1,0,0]), .inBlock 0, .code (csub (cd Try.f3) [1,1,1,1,1,1,1])] [(5, vx), (7, vy), (9, vz), (11, .int .i64 (((k + 1) : Nat) : Int))] w (by kernel_rfl) (.cons o21 (.cons o22 (.cons o23 (.cons o24 .nil)))) ?_
        exact ih vx vy vz (k + 1) _ (by omega) hM (by omega)
      ·
        have h5p : ¬ (((k : Nat) : Int) < (((List.length (tokL a)) : Nat) : Int)) := of_decide_eq_false h5
        have o14 : (Builtin.len_ #[22] 3 #[vx]).run Try.prog w = .ok (.int .i64 (((List.length (tokL a)) : Nat) : Int)) w := f_slen sT22 (hM.rd 0 rfl) 3 _
        have o15 : (binOp .sub 3 (.int .i64 ((k : Nat) : Int)) (.int .i64 (((List.length (tokL a)) : Nat) : Int))).run Try.prog w = .ok (.int .i64 (((k : Nat) : Int) - (((List.length (tokL a)) : Nat) : Int))) w := f_sub (IntWalk.i64_in _ (by omega))
        obtain ⟨p11, hp12, hq13⟩ := rd_at (i := (((k : Nat) : Int) - (((List.length (tokL a)) : Nat) : Int))) sT22 (hM.rd 1 rfl) (Int.toNat (((k : Nat) : Int) - (((List.length (tokL a)) : Nat) : Int))) (by omega) (by first | omega | (dsimp only; omega))
        have o16 : (Instr.indexAt 22 (vy) (.int .i64 (((k : Nat) : Int) - (((List.length (tokL a)) : Nat) : Int)))).run Try.prog w = .ok (.pointer (some p11)) w := hq13 _ _
        have o17 : (Instr.loadAt 9 (.pointer (some (Addr.add p11 0)))).run Try.prog w = .ok (.string (sb ((List.getD (tokL b) (Int.toNat (((k : Nat) : Int) - (((List.length (tokL a)) : Nat) : Int))) (Tok.mk [] 0)).t))) w := c_load pE9 (hM.rd 1 rfl) (Cel.add (At.cel hp12) 0) (recs_at (i := 0) tokc_len (Tok.mk [] 0) (by first | omega | (dsimp only; omega)) rfl)
        refine GoS.run [5, 7, 9, 11, 12] [.n, .n, .n, .n, .h (.int .i64 (((List.length (tokL a)) : Nat) : Int)), .h (.int .i64 (((k : Nat) : Int) - (((List.length (tokL a)) : Nat) : Int))), .h (.pointer (some p11)), .n, .h (.string (sb ((List.getD (tokL b) (Int.toNat (((k : Nat) : Int) - (((List.length (tokL a)) : Nat) : Int))) (Tok.mk [] 0)).t))), .n, .n] _ [.code (csub (cd Try.f3) [1,1,1,1,1,1,0,1,0,0,1,0,0,1,1]), .inBlock 1, .code (csub (cd Try.f3) [1,1,1,1,1,1,0,1,0,0,1,1]), .inLoop (csub (cd Try.f3) [1,1,1,1,1,1,0,1,0,0]), .inBlock 0, .code (csub (cd Try.f3) [1,1,1,1,1,1,1])] [(5, vx), (7, vy), (9, vz), (11, .int .i64 ((k : Nat) : Int)), (12, .string (sb ((List.getD (tokL b) (Int.toNat (((k : Nat) : Int) - (((List.length (tokL a)) : Nat) : Int))) (Tok.mk [] 0)).t)))] w (by kernel_rfl) (.cons o14 (.cons o15 (.cons o16 (.cons o17 .nil)))) ?_
        obtain ⟨p25, hp26, hq27⟩ := rd_at (i := ((k : Nat) : Int)) sT22 (hM.rd 2 rfl) k (by omega) (by first | omega | (dsimp only; omega))
        have o28 : (Instr.indexAt 22 (vz) (.int .i64 ((k : Nat) : Int))).run Try.prog w = .ok (.pointer (some p25)) w := hq27 _ _
        have o29 : (Instr.loadAt 28 (.pointer (some p25))).run Try.prog w = .ok (.agg #[.string (sb ((List.getD (tokL (a ++ [32] ++ b)) k (Tok.mk [] 0)).t)), .int .i64 ((List.getD (tokL (a ++ [32] ++ b)) k (Tok.mk [] 0)).a)]) w := r_loads (f := tokc) (l := (tokL (a ++ [32] ++ b))) aE28 (hM.rd 2 rfl) tokc_len hp26 (by first | omega | (dsimp only; omega)) (Tok.mk [] 0)
        have o30 : Try.prog.eqGuardType Try.prog.depth 28 = false ∧ (binOp .neq 28 (.agg #[.string (sb ((List.getD (tokL (a ++ [32] ++ b)) k (Tok.mk [] 0)).t)), .int .i64 ((List.getD (tokL (a ++ [32] ++ b)) k (Tok.mk [] 0)).a)]) (.agg #[.string (sb ((List.getD (tokL b) (Int.toNat (((k : Nat) : Int) - (((List.length (tokL a)) : Nat) : Int))) (Tok.mk [] 0)).t)), .int .i64 ((k : Nat) : Int)])).run Try.prog w = .ok (.bool false) w := f_agneq eT28 (xs := [.string (sb ((List.getD (tokL (a ++ [32] ++ b)) k (Tok.mk [] 0)).t)), .int .i64 ((List.getD (tokL (a ++ [32] ++ b)) k (Tok.mk [] 0)).a)]) (ys := [.string (sb ((List.getD (tokL b) (Int.toNat (((k : Nat) : Int) - (((List.length (tokL a)) : Nat) : Int))) (Tok.mk [] 0)).t)), .int .i64 ((k : Nat) : Int)]) (r := (((sb ((List.getD (tokL (a ++ [32] ++ b)) k (Tok.mk [] 0)).t)).toList == (sb ((List.getD (tokL b) (Int.toNat (((k : Nat) : Int) - (((List.length (tokL a)) : Nat) : Int))) (Tok.mk [] 0)).t)).toList) && ((((List.getD (tokL (a ++ [32] ++ b)) k (Tok.mk [] 0)).a) == ((k : Nat) : Int)) && true))) (by kernel_rfl) (by rw [join_right ha hb hl (by omega) (by omega)]; simp [sb_beq, ej])
        have o31 : (binOp .add 3 (.int .i64 ((k : Nat) : Int)) (.int .i64 1)).run Try.prog w = .ok (.int .i64 (((k + 1) : Nat) : Int)) w := f_add (by rw [show ((k : Nat) : Int) + 1 = (((k + 1) : Nat) : Int) by omega]; exact IntWalk.i64_in _ (by omega))
        refine GoS.run [5, 7, 9, 11] [.n, .n, .n, .n, .h (.pointer (some p25)), .h (.agg #[.string (sb ((List.getD (tokL (a ++ [32] ++ b)) k (Tok.mk [] 0)).t)), .int .i64 ((List.getD (tokL (a ++ [32] ++ b)) k (Tok.mk [] 0)).a)]), .n, .n, .n, .h (.bool false), .n, .n, .n, .n, .n, .n, .h (.int .i64 (((k + 1) : Nat) : Int)), .n, .n, .n] _ [.code (csub (cd Try.f3) [1,1,1,1,1,1,0,1,0,0]), .inLoop (csub (cd Try.f3) [1,1,1,1,1,1,0,1,0,0]), .inBlock 0, .code (csub (cd Try.f3) [1,1,1,1,1,1,1])] [(5, vx), (7, vy), (9, vz), (11, .int .i64 (((k + 1) : Nat) : Int))] w (by kernel_rfl) (.cons o28 (.cons o29 (.cons o30 (.cons o31 .nil)))) ?_
        exact ih vx vy vz (k + 1) _ (by omega) hM (by omega)
    ·
      have h2p : ¬ (((k : Nat) : Int) < (((List.length (tokL (a ++ [32] ++ b))) : Nat) : Int)) := of_decide_eq_false h2
      have hM3 : Mem [] w0 w [] := hM.sub (List.Sublist.cons _ (List.Sublist.cons _ (List.Sublist.cons _ (List.Sublist.refl _))))
      refine GoS.run [4] [.n, .n, .n, .n, .n] _ [.code (csub (cd Try.f3) [1,1,1,1,1,1,1,1])] [(4, .bool true)] w (by kernel_rfl) .nil ?_
      refine GoS.ret (fn := Try.f3) (v := (.bool true)) Try.func3 (by kernel_rfl) ?_
      rw [hR]
      exact ⟨rfl, hM3.below⟩

set_option maxHeartbeats 400000 in
theorem ljoins_c (a b : List UInt8) (w : World) (ra : a.length ≤ 140737488351232) (rb : b.length ≤ 140737488351232) :
    Calls Try.prog 3 #[.string (sb a), .string (sb b)] w (fun e w' => e = .returned (.bool true) ∧ Below w.heap.size w w') := by
  have hta := tokL_len a
  have htb := tokL_len b
  obtain ⟨R, hR⟩ : ∃ R : Ending → World → Prop, R = (fun e w' => e = .returned (.bool true) ∧ Below w.heap.size w w') := ⟨_, rfl⟩
  rw [← hR]
  refine GoS.enter (n := 93) Try.func3 (by kernel_rfl) rfl [(0, .string (sb a)), (1, .string (sb b))] (by kernel_rfl) (by kernel_rfl) ?_
  have hM0 := Mem.start w
  refine GoS.run [0, 1, 14] [.n, .n, .n, .n, .n, .n, .n] _ [.inRegion (cops (csub (cd Try.f3) [1,0])) [1,2,3,4,5,6], .code (csub (cd Try.f3) [1,1])] [(0, .string (sb a)), (1, .string (sb b)), (14, .string (sb a))] w (by kernel_rfl) .nil ?_
  refine GoS.call [0, 1] 6 #[.string (sb a)] (some 15) [.inRegion (cops (csub (cd Try.f3) [1,0])) [2,3,4,5,6], .code (csub (cd Try.f3) [1,1])] [(0, .string (sb a)), (1, .string (sb b))] (by kernel_rfl) (tokens_c a w) ?_
  rintro _ w1 ⟨v4, rfl, m2⟩
  refine ⟨_, rfl, ?_⟩
  have hM3 := Mem.join hM0 m2
  refine GoS.run [0, 1, 5, 6, 19] [.n, .n, .n, .n, .n, .n, .n, .n, .n] _ [.inRegion (cops (csub (cd Try.f3) [1,1,0])) [1,2,3,4,5,6], .code (csub (cd Try.f3) [1,1,1])] [(0, .string (sb a)), (1, .string (sb b)), (5, v4), (6, .int .i64 (tokE a)), (19, .string (sb b))] w1 (by kernel_rfl) .nil ?_
  refine GoS.call [0, 1, 5, 6] 6 #[.string (sb b)] (some 20) [.inRegion (cops (csub (cd Try.f3) [1,1,0])) [2,3,4,5,6], .code (csub (cd Try.f3) [1,1,1])] [(0, .string (sb a)), (1, .string (sb b)), (5, v4), (6, .int .i64 (tokE a))] (by kernel_rfl) (tokens_c b w1) ?_
  rintro _ w5 ⟨v8, rfl, m6⟩
  refine ⟨_, rfl, ?_⟩
  have hM7 := Mem.join hM3 m6
  refine GoS.run [0, 1, 5, 6, 7, 8] [.n, .n, .n, .n, .n, .n, .n, .n, .n] _ [.inRegion (cops (csub (cd Try.f3) [1,1,1,0,0])) [0,1,2,3,4,5,6,7,8,9,10,11,12,13,14,15,16,17], .code (csub (cd Try.f3) [1,1,1,0,1]), .code (csub (cd Try.f3) [1,1,1,1])] [(0, .string (sb a)), (1, .string (sb b)), (5, v4), (6, .int .i64 (tokE a)), (7, v8), (8, .int .i64 (tokE b))] w5 (by kernel_rfl) .nil ?_
  refine GoS.call [0, 1, 5, 6, 7, 8] 7 #[] (some 23) [.inRegion (cops (csub (cd Try.f3) [1,1,1,0,0])) [1,2,3,4,5,6,7,8,9,10,11,12,13,14,15,16,17], .code (csub (cd Try.f3) [1,1,1,0,1]), .code (csub (cd Try.f3) [1,1,1,1])] [(0, .string (sb a)), (1, .string (sb b)), (5, v4), (6, .int .i64 (tokE a)), (7, v8), (8, .int .i64 (tokE b))] (by kernel_rfl) (awake_c w5) ?_
  rintro _ w9 ⟨rfl, m10⟩
  refine ⟨_, rfl, ?_⟩
  have hM11 := Mem.join hM7 m10
  refine GoS.run [0, 1, 5, 7, 8, 29] [.n, .n, .n, .n, .n, .n] _ [.inRegion (cops (csub (cd Try.f3) [1,1,1,0,0])) [7,8,9,10,11,12,13,14,15,16,17], .code (csub (cd Try.f3) [1,1,1,0,1]), .code (csub (cd Try.f3) [1,1,1,1])] [(0, .string (sb a)), (1, .string (sb b)), (5, v4), (7, v8), (8, .int .i64 (tokE b)), (29, .bool ((tokE a) != 0))] w9 (by kernel_rfl) .nil ?_
  refine GoS.fork 29 ((tokE a) != 0) (by kernel_rfl) (fun h12 => ?_) (fun h12 => ?_)
  ·
    have h12p : ¬ ((tokE a) = 0) := bne_iff_ne.1 h12
    refine GoS.run [0, 1, 5, 7, 40] [.n, .n, .n, .n, .n, .n, .n, .n, .n, .n, .n] _ [.inRegion (cops (csub (cd Try.f3) [1,1,1,0,0])) [], .code (csub (cd Try.f3) [1,1,1,0,1]), .code (csub (cd Try.f3) [1,1,1,1])] [(0, .string (sb a)), (1, .string (sb b)), (5, v4), (7, v8), (40, .bool true)] w9 (by kernel_rfl) .nil ?_
    have hM17 : Mem [] w w9 [] := hM11.sub (List.Sublist.cons _ (List.Sublist.cons _ (List.Sublist.refl _)))
    refine GoS.run [] [.n, .n, .n, .n] _ [.inRegion (cops (csub (cd Try.f3) [1,1,1,0,1,0,0])) [0,1], .code (csub (cd Try.f3) [1,1,1,0,1,0,1]), .code (csub (cd Try.f3) [1,1,1,1])] [] w9 (by kernel_rfl) .nil ?_
    refine GoS.call [] 7 #[] (some 41) [.inRegion (cops (csub (cd Try.f3) [1,1,1,0,1,0,0])) [1], .code (csub (cd Try.f3) [1,1,1,0,1,0,1]), .code (csub (cd Try.f3) [1,1,1,1])] [] (by kernel_rfl) (awake_c w9) ?_
    rintro _ w18 ⟨rfl, m19⟩
    refine ⟨_, rfl, ?_⟩
    have hM20 := Mem.join hM17 m19
    refine GoS.run [4] [.n, .n] _ [.code (csub (cd Try.f3) [1,1,1,0,1,0,1]), .code (csub (cd Try.f3) [1,1,1,1])] [(4, .bool true)] w18 (by kernel_rfl) .nil ?_
    refine GoS.ret (fn := Try.f3) (v := (.bool true)) Try.func3 (by kernel_rfl) ?_
    rw [hR]
    exact ⟨rfl, hM20.below⟩
  ·
    have h12p : (tokE a) = 0 := p_eq h12
    refine GoS.run [0, 1, 5, 7, 33] [.n, .n, .n, .n] _ [.inRegion (cops (csub (cd Try.f3) [1,1,1,0,0])) [11,12,13,14,15,16,17], .code (csub (cd Try.f3) [1,1,1,0,1]), .code (csub (cd Try.f3) [1,1,1,1])] [(0, .string (sb a)), (1, .string (sb b)), (5, v4), (7, v8), (33, .bool ((tokE b) != 0))] w9 (by kernel_rfl) .nil ?_
    refine GoS.fork 33 ((tokE b) != 0) (by kernel_rfl) (fun h13 => ?_) (fun h13 => ?_)
    ·
      have h13p : ¬ ((tokE b) = 0) := bne_iff_ne.1 h13
      refine GoS.run [0, 1, 5, 7, 40] [.n, .n, .n, .n, .n, .n, .n] _ [.inRegion (cops (csub (cd Try.f3) [1,1,1,0,0])) [], .code (csub (cd Try.f3) [1,1,1,0,1]), .code (csub (cd Try.f3) [1,1,1,1])] [(0, .string (sb a)), (1, .string (sb b)), (5, v4), (7, v8), (40, .bool true)] w9 (by kernel_rfl) .nil ?_
      have hM21 : Mem [] w w9 [] := hM11.sub (List.Sublist.cons _ (List.Sublist.cons _ (List.Sublist.refl _)))
      refine GoS.run [] [.n, .n, .n, .n] _ [.inRegion (cops (csub (cd Try.f3) [1,1,1,0,1,0,0])) [0,1], .code (csub (cd Try.f3) [1,1,1,0,1,0,1]), .code (csub (cd Try.f3) [1,1,1,1])] [] w9 (by kernel_rfl) .nil ?_
      refine GoS.call [] 7 #[] (some 41) [.inRegion (cops (csub (cd Try.f3) [1,1,1,0,1,0,0])) [1], .code (csub (cd Try.f3) [1,1,1,0,1,0,1]), .code (csub (cd Try.f3) [1,1,1,1])] [] (by kernel_rfl) (awake_c w9) ?_
      rintro _ w22 ⟨rfl, m23⟩
      refine ⟨_, rfl, ?_⟩
      have hM24 := Mem.join hM21 m23
      refine GoS.run [4] [.n, .n] _ [.code (csub (cd Try.f3) [1,1,1,0,1,0,1]), .code (csub (cd Try.f3) [1,1,1,1])] [(4, .bool true)] w22 (by kernel_rfl) .nil ?_
      refine GoS.ret (fn := Try.f3) (v := (.bool true)) Try.func3 (by kernel_rfl) ?_
      rw [hR]
      exact ⟨rfl, hM24.below⟩
    ·
      have h13p : (tokE b) = 0 := p_eq h13
      have o14 : (Builtin.len_ #[9] 3 #[.string (sb a)]).run Try.prog w9 = .ok (.int .i64 ((a.length : Nat) : Int)) w9 := f_len (by kernel_rfl)
      have o15 : (Builtin.len_ #[9] 3 #[.string (sb b)]).run Try.prog w9 = .ok (.int .i64 ((b.length : Nat) : Int)) w9 := f_len (by kernel_rfl)
      have o16 : (binOp .add 3 (.int .i64 ((a.length : Nat) : Int)) (.int .i64 ((b.length : Nat) : Int))).run Try.prog w9 = .ok (.int .i64 (((a.length + b.length) : Nat) : Int)) w9 := f_add (by rw [show ((a.length : Nat) : Int) + ((b.length : Nat) : Int) = (((a.length + b.length) : Nat) : Int) by omega]; exact IntWalk.i64_in _ (by omega))
      refine GoS.run [0, 1, 5, 7, 40] [.n, .h (.int .i64 ((a.length : Nat) : Int)), .n, .h (.int .i64 ((b.length : Nat) : Int)), .h (.int .i64 (((a.length + b.length) : Nat) : Int)), .n, .n] _ [.inRegion (cops (csub (cd Try.f3) [1,1,1,0,0])) [], .code (csub (cd Try.f3) [1,1,1,0,1]), .code (csub (cd Try.f3) [1,1,1,1])] [(0, .string (sb a)), (1, .string (sb b)), (5, v4), (7, v8), (40, .bool (decide ((((a.length + b.length) : Nat) : Int) ≥ 4096)))] w9 (by kernel_rfl) (.cons o14 (.cons o15 (.cons o16 .nil))) ?_
      refine GoS.run [0, 1, 5, 7, 40] [.n] _ [.code (csub (cd Try.f3) [1,1,1,0,1]), .code (csub (cd Try.f3) [1,1,1,1])] [(0, .string (sb a)), (1, .string (sb b)), (5, v4), (7, v8), (40, .bool (decide ((((a.length + b.length) : Nat) : Int) ≥ 4096)))] w9 (by kernel_rfl) .nil ?_
      refine GoS.cond (decide ((((a.length + b.length) : Nat) : Int) ≥ 4096)) [.code (csub (cd Try.f3) [1,1,1,0,1,0]), .code (csub (cd Try.f3) [1,1,1,1])] [.code (csub (cd Try.f3) [1,1,1,0,1,1]), .code (csub (cd Try.f3) [1,1,1,1])] (by kernel_rfl) (fun h25 => ?_) (fun h25 => ?_)
      ·
        have h25p : (((a.length + b.length) : Nat) : Int) ≥ 4096 := of_decide_eq_true h25
        have hM26 : Mem [] w w9 [] := hM11.sub (List.Sublist.cons _ (List.Sublist.cons _ (List.Sublist.refl _)))
        refine GoS.run [] [.n, .n] _ [.inRegion (cops (csub (cd Try.f3) [1,1,1,0,1,0,0])) [0,1], .code (csub (cd Try.f3) [1,1,1,0,1,0,1]), .code (csub (cd Try.f3) [1,1,1,1])] [] w9 (by kernel_rfl) .nil ?_
        refine GoS.call [] 7 #[] (some 41) [.inRegion (cops (csub (cd Try.f3) [1,1,1,0,1,0,0])) [1], .code (csub (cd Try.f3) [1,1,1,0,1,0,1]), .code (csub (cd Try.f3) [1,1,1,1])] [] (by kernel_rfl) (awake_c w9) ?_
        rintro _ w27 ⟨rfl, m28⟩
        refine ⟨_, rfl, ?_⟩
        have hM29 := Mem.join hM26 m28
        refine GoS.run [4] [.n, .n] _ [.code (csub (cd Try.f3) [1,1,1,0,1,0,1]), .code (csub (cd Try.f3) [1,1,1,1])] [(4, .bool true)] w27 (by kernel_rfl) .nil ?_
        refine GoS.ret (fn := Try.f3) (v := (.bool true)) Try.func3 (by kernel_rfl) ?_
        rw [hR]
        exact ⟨rfl, hM29.below⟩
      ·
        have h25p : ¬ ((((a.length + b.length) : Nat) : Int) ≥ 4096) := of_decide_eq_false h25
        refine GoS.run [0, 1, 5, 7] [.n] _ [.code (csub (cd Try.f3) [1,1,1,1])] [(0, .string (sb a)), (1, .string (sb b)), (5, v4), (7, v8)] w9 (by kernel_rfl) .nil ?_
        have o30 : (binOp .add 9 (.string (sb a)) (.string (sb ([32] : List UInt8)))).run Try.prog w9 = .ok (.string (sb (a ++ ([32] : List UInt8)))) w9 := f_stradd (by first | omega | (simp; omega))
        have o31 : (binOp .add 9 (.string (sb (a ++ ([32] : List UInt8)))) (.string (sb b))).run Try.prog w9 = .ok (.string (sb ((a ++ ([32] : List UInt8)) ++ b))) w9 := f_stradd (by first | omega | (simp; omega))
        refine GoS.run [5, 7, 46] [.n, .n, .n, .h (.string (sb (a ++ ([32] : List UInt8)))), .n, .h (.string (sb ((a ++ ([32] : List UInt8)) ++ b)))] _ [.inRegion (cops (csub (cd Try.f3) [1,1,1,1,0])) [4,5,6,7,8,9], .code (csub (cd Try.f3) [1,1,1,1,1])] [(5, v4), (7, v8), (46, .string (sb ((a ++ ([32] : List UInt8)) ++ b)))] w9 (by kernel_rfl) (.cons o30 (.cons o31 .nil)) ?_
        refine GoS.call [5, 7] 6 #[.string (sb ((a ++ ([32] : List UInt8)) ++ b))] (some 47) [.inRegion (cops (csub (cd Try.f3) [1,1,1,1,0])) [5,6,7,8,9], .code (csub (cd Try.f3) [1,1,1,1,1])] [(5, v4), (7, v8)] (by kernel_rfl) (tokens_c ((a ++ ([32] : List UInt8)) ++ b) w9) ?_
        rintro _ w32 ⟨v35, rfl, m33⟩
        refine ⟨_, rfl, ?_⟩
        have hM34 := Mem.join hM11 m33
        have o36 : (IntKind.i64 = IntKind.i64) ∧ w32 = w32 ∧ Value.bool false = .bool ((tokE ((a ++ ([32] : List UInt8)) ++ b)) != 0) := ⟨rfl, rfl, congrArg Value.bool (Eq.symm (bne_f (join_tok (by omega) (by omega) (by omega)).1))⟩
        have o37 : (Builtin.len_ #[22] 3 #[v35]).run Try.prog w32 = .ok (.int .i64 (((List.length (tokL ((a ++ ([32] : List UInt8)) ++ b))) : Nat) : Int)) w32 := f_slen sT22 (hM34.rd 0 rfl) 3 _
        have o38 : (Builtin.len_ #[22] 3 #[v4]).run Try.prog w32 = .ok (.int .i64 (((List.length (tokL a)) : Nat) : Int)) w32 := f_slen sT22 (hM34.rd 2 rfl) 3 _
        have o39 : (Builtin.len_ #[22] 3 #[v8]).run Try.prog w32 = .ok (.int .i64 (((List.length (tokL b)) : Nat) : Int)) w32 := f_slen sT22 (hM34.rd 1 rfl) 3 _
        have o40 : (binOp .add 3 (.int .i64 (((List.length (tokL a)) : Nat) : Int)) (.int .i64 (((List.length (tokL b)) : Nat) : Int))).run Try.prog w32 = .ok (.int .i64 ((((List.length (tokL a)) + (List.length (tokL b))) : Nat) : Int)) w32 := f_add (by rw [show (((List.length (tokL a)) : Nat) : Int) + (((List.length (tokL b)) : Nat) : Int) = ((((List.length (tokL a)) + (List.length (tokL b))) : Nat) : Int) by omega]; exact IntWalk.i64_in _ (by omega))
        have o41 : (IntKind.i64 = IntKind.i64) ∧ w32 = w32 ∧ Value.bool false = .bool ((((List.length (tokL ((a ++ ([32] : List UInt8)) ++ b))) : Nat) : Int) != ((((List.length (tokL a)) + (List.length (tokL b))) : Nat) : Int)) := ⟨rfl, rfl, congrArg Value.bool (Eq.symm (by rw [join_len (by omega) (by omega) (by omega)]; simp))⟩
        refine GoS.run [5, 7, 9, 11] [.n, .n, .n, .n, .n, .n, .n, .n, .n, .n, .h (.bool false), .n, .n, .h (.int .i64 (((List.length (tokL ((a ++ ([32] : List UInt8)) ++ b))) : Nat) : Int)), .n, .h (.int .i64 (((List.length (tokL a)) : Nat) : Int)), .n, .h (.int .i64 (((List.length (tokL b)) : Nat) : Int)), .h (.int .i64 ((((List.length (tokL a)) + (List.length (tokL b))) : Nat) : Int)), .h (.bool false), .n, .n, .n, .n, .n, .n, .n, .n, .n, .n, .n] _ [.code (csub (cd Try.f3) [1,1,1,1,1,1,0,1,0,0]), .inLoop (csub (cd Try.f3) [1,1,1,1,1,1,0,1,0,0]), .inBlock 0, .code (csub (cd Try.f3) [1,1,1,1,1,1,1])] [(5, v4), (7, v8), (9, v35), (11, .int .i64 0)] w32 (by kernel_rfl) (.cons o36 (.cons o37 (.cons o38 (.cons o39 (.cons o40 (.cons o41 .nil)))))) ?_
        have hM42 : Mem [] w w32 [⟨28, 2, v8, (List.length (tokL b)), (recs tokc (tokL b))⟩, ⟨28, 2, v35, (List.length (tokL ((a ++ ([32] : List UInt8)) ++ b))), (recs tokc (tokL ((a ++ ([32] : List UInt8)) ++ b)))⟩, ⟨28, 2, v4, (List.length (tokL a)), (recs tokc (tokL a))⟩] := hM34.perm ((List.Perm.cons _ (List.Perm.refl _)).trans (List.Perm.swap _ _ _))
        have hM43 : Mem [] w w32 [⟨28, 2, v4, (List.length (tokL a)), (recs tokc (tokL a))⟩, ⟨28, 2, v8, (List.length (tokL b)), (recs tokc (tokL b))⟩, ⟨28, 2, v35, (List.length (tokL ((a ++ ([32] : List UInt8)) ++ b))), (recs tokc (tokL ((a ++ ([32] : List UInt8)) ++ b)))⟩] := hM42.perm ((List.Perm.cons _ ((List.Perm.cons _ (List.Perm.refl _)).trans (List.Perm.swap _ _ _))).trans (List.Perm.swap _ _ _))
        exact ljoins_L a b (by omega) (by omega) (by omega) R hR ((tokL (a ++ [32] ++ b)).length + 1) v4 v8 v35 0 w32 (by omega) hM43 (by omega)


end Go.Proofs.Ytokoifpldgekaaa
