/-
  The walk of names.
-/
import Derived.Test.YtcdcehjilneifaaPcA
namespace Go.Proofs.Ytcdcehjilneifaa
open Go Go.Gw Go.UtfP Go.TokP Go.PcP Go.RowKit
set_option linter.unusedVariables false
set_option linter.unusedSimpArgs false
set_option maxRecDepth 20000

theorem sT55 : SliceT Try.prog 55 9 1 16 (.string (sb ([]))) := ⟨by kernel_rfl, ⟨_, rfl, by kernel_rfl, by kernel_rfl, by kernel_rfl⟩, rfl, by decide⟩
theorem pE9 : Plain Try.prog 9 := ⟨.string, by kernel_rfl, (fun _ h => by cases h), (fun _ _ h => by cases h)⟩

abbrev uB0 : List Nat := [1,0,1,0,0]
abbrev uB1 : List Nat := [1,0,1,0,0,1,1,1]
abbrev uB2 : List Nat := [1,0,1,0,0,1,1,0,0,1,1]
abbrev uB3 : List Nat := [1,0,1,0,0,1,1,0,0,1,0]
set_option maxHeartbeats 400000 in
theorem names_L {w0 : World} (v : Value) (l : List (List UInt8)) (hv : Rd w0 1 v l.length (svals l)) (R : Ending → World → Prop) (hR : R = (fun e w' => e = .returned (.bool (namesP l)) ∧ Mem [] w0 w' [])) : ∀ (N : Nat) (i : Nat) (w : World) (hi : i ≤ l.length) (hR0 : risesF (prevN l i) (l.drop i) = risesF none l) (hM : Mem [] w0 w []) (hN : l.length - i < N), GoS Try.prog 38 R 32 [.code (csub (cd Try.f38) uB0), .inLoop (csub (cd Try.f38) uB0), .inBlock 0, .code (csub (cd Try.f38) [1,1])] [(0, v), (5, v), (6, .int .i64 (((List.length l) : Nat) : Int)), (7, .int .i64 ((i : Nat) : Int))] w := by
 intro N
 induction N with
 | zero => intro i w hi hR0 hM hN; exact absurd hN (Nat.not_lt_zero _)
 | succ N ih =>
  intro i w hi hR0 hM hN
  have hln := rd_len hv
  simp only [maxLen] at hln
  refine GoS.run [0, 5, 6, 7, 8] [.n, .n, .n, .n, .n] _ [.code (csub (cd Try.f38) [1,0,1,0,0,1,0]), .code (csub (cd Try.f38) [1,0,1,0,0,1,1]), .inLoop (csub (cd Try.f38) uB0), .inBlock 0, .code (csub (cd Try.f38) [1,1])] [(0, v), (5, v), (6, .int .i64 (((List.length l) : Nat) : Int)), (7, .int .i64 ((i : Nat) : Int)), (8, .bool (decide (((i : Nat) : Int) < (((List.length l) : Nat) : Int))))] w (by kernel_rfl) .nil ?_
  refine GoS.cond (decide (((i : Nat) : Int) < (((List.length l) : Nat) : Int))) [.code (csub (cd Try.f38) [1,0,1,0,0,1,0,0]), .code (csub (cd Try.f38) [1,0,1,0,0,1,1]), .inLoop (csub (cd Try.f38) uB0), .inBlock 0, .code (csub (cd Try.f38) [1,1])] [.code (csub (cd Try.f38) [1,0,1,0,0,1,0,1]), .code (csub (cd Try.f38) [1,0,1,0,0,1,1]), .inLoop (csub (cd Try.f38) uB0), .inBlock 0, .code (csub (cd Try.f38) [1,1])] (by kernel_rfl) (fun h1 => ?_) (fun h1 => ?_)
  ·
   have h1p : ((i : Nat) : Int) < (((List.length l) : Nat) : Int) := of_decide_eq_true h1
   refine GoS.run [0, 5, 6, 7] [.n] _ [.code (csub (cd Try.f38) [1,0,1,0,0,1,1]), .inLoop (csub (cd Try.f38) uB0), .inBlock 0, .code (csub (cd Try.f38) [1,1])] [(0, v), (5, v), (6, .int .i64 (((List.length l) : Nat) : Int)), (7, .int .i64 ((i : Nat) : Int))] w (by kernel_rfl) .nil ?_
   obtain ⟨p3, hp4, hq5⟩ := rd_at (i := ((i : Nat) : Int)) sT55 (hv.kept0 hM.kept) i (by omega) (by first | omega | (dsimp only; omega))
   have o6 : (Instr.indexAt 55 (v) (.int .i64 ((i : Nat) : Int))).run Try.prog w = .ok (.pointer (some p3)) w := hq5 _ _
   have o7 : (Instr.loadAt 9 (.pointer (some p3))).run Try.prog w = .ok (.string (sb (List.getD l i []))) w := at_load pE9 (hv.kept0 hM.kept) hp4 (svals_at (by first | omega | (dsimp only; omega)))
   refine GoS.run [0, 3, 4, 5, 6, 7, 12] [.n, .n, .n, .n, .n, .h (.pointer (some p3)), .h (.string (sb (List.getD l i []))), .n, .n, .n, .n, .n, .n] _ [.inRegion (cops (csub (cd Try.f38) uB3)) [1,2,3,4,5,6,7,8,9,10,11,12,13,14,15], .code (csub (cd Try.f38) uB2), .inBlock 1, .code (csub (cd Try.f38) uB1), .inLoop (csub (cd Try.f38) uB0), .inBlock 0, .code (csub (cd Try.f38) [1,1])] [(0, v), (3, .int .i64 ((i : Nat) : Int)), (4, .string (sb (List.getD l i []))), (5, v), (6, .int .i64 (((List.length l) : Nat) : Int)), (7, .int .i64 ((i : Nat) : Int)), (12, .string (sb (List.getD l i [])))] w (by kernel_rfl) (.cons o6 (.cons o7 .nil)) ?_
   refine GoS.call [0, 3, 4, 5, 6, 7] 27 #[.string (sb (List.getD l i []))] (some 13) [.inRegion (cops (csub (cd Try.f38) uB3)) [2,3,4,5,6,7,8,9,10,11,12,13,14,15], .code (csub (cd Try.f38) uB2), .inBlock 1, .code (csub (cd Try.f38) uB1), .inLoop (csub (cd Try.f38) uB0), .inBlock 0, .code (csub (cd Try.f38) [1,1])] [(0, v), (3, .int .i64 ((i : Nat) : Int)), (4, .string (sb (List.getD l i []))), (5, v), (6, .int .i64 (((List.length l) : Nat) : Int)), (7, .int .i64 ((i : Nat) : Int))] (by kernel_rfl) (name_c (List.getD l i []) w) ?_
   rintro _ _ ⟨rfl, rfl⟩
   refine ⟨_, rfl, ?_⟩
   refine GoS.run [0, 3, 4, 5, 6, 7, 15] [.n, .n] _ [.inRegion (cops (csub (cd Try.f38) uB3)) [4,5,6,7,8,9,10,11,12,13,14,15], .code (csub (cd Try.f38) uB2), .inBlock 1, .code (csub (cd Try.f38) uB1), .inLoop (csub (cd Try.f38) uB0), .inBlock 0, .code (csub (cd Try.f38) [1,1])] [(0, v), (3, .int .i64 ((i : Nat) : Int)), (4, .string (sb (List.getD l i []))), (5, v), (6, .int .i64 (((List.length l) : Nat) : Int)), (7, .int .i64 ((i : Nat) : Int)), (15, .bool (!(nameP (List.getD l i []))))] w (by kernel_rfl) .nil ?_
   refine GoS.fork 15 (!(nameP (List.getD l i []))) (by kernel_rfl) (fun h8 => ?_) (fun h8 => ?_)
   ·
    refine GoS.run [0, 5, 6, 7, 27] [.n, .n, .n, .n, .n, .n, .n, .n, .n, .n, .n, .n] _ [.inRegion (cops (csub (cd Try.f38) uB3)) [], .code (csub (cd Try.f38) uB2), .inBlock 1, .code (csub (cd Try.f38) uB1), .inLoop (csub (cd Try.f38) uB0), .inBlock 0, .code (csub (cd Try.f38) [1,1])] [(0, v), (5, v), (6, .int .i64 (((List.length l) : Nat) : Int)), (7, .int .i64 ((i : Nat) : Int)), (27, .bool true)] w (by kernel_rfl) .nil ?_
    refine GoS.run [2] [.n, .n, .n, .n, .n, .n] _ [.code (csub (cd Try.f38) [1,0,1,0,0,1,1,0,0,1,1,0,1]), .inBlock 1, .code (csub (cd Try.f38) uB1), .inLoop (csub (cd Try.f38) uB0), .inBlock 0, .code (csub (cd Try.f38) [1,1])] [(2, .bool false)] w (by kernel_rfl) .nil ?_
    refine GoS.ret (fn := Try.f38) (v := (.bool false)) Try.func38 (by kernel_rfl) ?_
    rw [hR]
    exact ⟨ret_bool (by unfold namesP; rw [← hR0, rises_name (by omega) (by simpa using h8)]; rfl), hM.sub sN⟩
   ·
    refine GoS.run [0, 3, 4, 5, 6, 7, 15, 18] [.n, .n, .n] _ [.inRegion (cops (csub (cd Try.f38) uB3)) [7,8,9,10,11,12,13,14,15], .code (csub (cd Try.f38) uB2), .inBlock 1, .code (csub (cd Try.f38) uB1), .inLoop (csub (cd Try.f38) uB0), .inBlock 0, .code (csub (cd Try.f38) [1,1])] [(0, v), (3, .int .i64 ((i : Nat) : Int)), (4, .string (sb (List.getD l i []))), (5, v), (6, .int .i64 (((List.length l) : Nat) : Int)), (7, .int .i64 ((i : Nat) : Int)), (15, .bool false), (18, .bool (decide (((i : Nat) : Int) > 0)))] w (by kernel_rfl) .nil ?_
    refine GoS.fork 18 (decide (((i : Nat) : Int) > 0)) (by kernel_rfl) (fun h9 => ?_) (fun h9 => ?_)
    ·
     have h9p : ((i : Nat) : Int) > 0 := of_decide_eq_true h9
     have o13 : (binOp .sub 3 (.int .i64 ((i : Nat) : Int)) (.int .i64 1)).run Try.prog w = .ok (.int .i64 (((i : Nat) : Int) - 1)) w := f_sub (IntWalk.i64_in _ (by omega))
     obtain ⟨p10, hp11, hq12⟩ := rd_at (i := (((i : Nat) : Int) - 1)) sT55 (hv.kept0 hM.kept) (Int.toNat (((i : Nat) : Int) - 1)) (by omega) (by first | omega | (dsimp only; omega))
     have o14 : (Instr.indexAt 55 (v) (.int .i64 (((i : Nat) : Int) - 1))).run Try.prog w = .ok (.pointer (some p10)) w := hq12 _ _
     have o15 : (Instr.loadAt 9 (.pointer (some p10))).run Try.prog w = .ok (.string (sb (List.getD l (Int.toNat (((i : Nat) : Int) - 1)) []))) w := at_load pE9 (hv.kept0 hM.kept) hp11 (svals_at (by first | omega | (dsimp only; omega)))
     have o16 : Sem.run Try.prog (do pure (Next.value (← binOp .leq 9 (.string (sb (List.getD l i []))) (.string (sb (List.getD l (Int.toNat (((i : Nat) : Int) - 1)) [])))))) w = .ok (.value (.bool (!(Op.bytesLess (List.getD l (Int.toNat (((i : Nat) : Int) - 1)) []) (List.getD l i []))))) w := f_strle (List.getD l i []) (List.getD l (Int.toNat (((i : Nat) : Int) - 1)) []) w
     refine GoS.run [0, 5, 6, 7, 27] [.n, .n, .n, .h (.int .i64 (((i : Nat) : Int) - 1)), .h (.pointer (some p10)), .h (.string (sb (List.getD l (Int.toNat (((i : Nat) : Int) - 1)) []))), .h (.bool (!(Op.bytesLess (List.getD l (Int.toNat (((i : Nat) : Int) - 1)) []) (List.getD l i [])))), .n, .n] _ [.inRegion (cops (csub (cd Try.f38) uB3)) [], .code (csub (cd Try.f38) uB2), .inBlock 1, .code (csub (cd Try.f38) uB1), .inLoop (csub (cd Try.f38) uB0), .inBlock 0, .code (csub (cd Try.f38) [1,1])] [(0, v), (5, v), (6, .int .i64 (((List.length l) : Nat) : Int)), (7, .int .i64 ((i : Nat) : Int)), (27, .bool (!(Op.bytesLess (List.getD l (Int.toNat (((i : Nat) : Int) - 1)) []) (List.getD l i []))))] w (by kernel_rfl) (.cons o13 (.cons o14 (.cons o15 (.cons o16 .nil)))) ?_
     refine GoS.run [0, 5, 6, 7, 27] [.n] _ [.code (csub (cd Try.f38) uB2), .inBlock 1, .code (csub (cd Try.f38) uB1), .inLoop (csub (cd Try.f38) uB0), .inBlock 0, .code (csub (cd Try.f38) [1,1])] [(0, v), (5, v), (6, .int .i64 (((List.length l) : Nat) : Int)), (7, .int .i64 ((i : Nat) : Int)), (27, .bool (!(Op.bytesLess (List.getD l (Int.toNat (((i : Nat) : Int) - 1)) []) (List.getD l i []))))] w (by kernel_rfl) .nil ?_
     refine GoS.cond (!(Op.bytesLess (List.getD l (Int.toNat (((i : Nat) : Int) - 1)) []) (List.getD l i []))) [.code (csub (cd Try.f38) [1,0,1,0,0,1,1,0,0,1,1,0]), .inBlock 1, .code (csub (cd Try.f38) uB1), .inLoop (csub (cd Try.f38) uB0), .inBlock 0, .code (csub (cd Try.f38) [1,1])] [.code (csub (cd Try.f38) [1,0,1,0,0,1,1,0,0,1,1,1]), .inBlock 1, .code (csub (cd Try.f38) uB1), .inLoop (csub (cd Try.f38) uB0), .inBlock 0, .code (csub (cd Try.f38) [1,1])] (by kernel_rfl) (fun h17 => ?_) (fun h17 => ?_)
     ·
      refine GoS.run [2] [.n, .n, .n, .n] _ [.code (csub (cd Try.f38) [1,0,1,0,0,1,1,0,0,1,1,0,1]), .inBlock 1, .code (csub (cd Try.f38) uB1), .inLoop (csub (cd Try.f38) uB0), .inBlock 0, .code (csub (cd Try.f38) [1,1])] [(2, .bool false)] w (by kernel_rfl) .nil ?_
      refine GoS.ret (fn := Try.f38) (v := (.bool false)) Try.func38 (by kernel_rfl) ?_
      rw [hR]
      exact ⟨ret_bool (by unfold namesP; rw [← hR0, rises_low (by omega) (by omega) (by simpa using h17)]; rfl), hM.sub sN⟩
     ·
      refine GoS.run [0, 5, 6, 7] [.n] _ [.inBlock 1, .code (csub (cd Try.f38) uB1), .inLoop (csub (cd Try.f38) uB0), .inBlock 0, .code (csub (cd Try.f38) [1,1])] [(0, v), (5, v), (6, .int .i64 (((List.length l) : Nat) : Int)), (7, .int .i64 ((i : Nat) : Int))] w (by kernel_rfl) .nil ?_
      have o18 : (binOp .add 3 (.int .i64 ((i : Nat) : Int)) (.int .i64 1)).run Try.prog w = .ok (.int .i64 (((i + 1) : Nat) : Int)) w := f_add (by rw [show ((i : Nat) : Int) + 1 = (((i + 1) : Nat) : Int) by omega]; exact IntWalk.i64_in _ (by omega))
      refine GoS.run [0, 5, 6, 7] [.n, .n, .h (.int .i64 (((i + 1) : Nat) : Int)), .n, .n, .n] _ [.code (csub (cd Try.f38) uB0), .inLoop (csub (cd Try.f38) uB0), .inBlock 0, .code (csub (cd Try.f38) [1,1])] [(0, v), (5, v), (6, .int .i64 (((List.length l) : Nat) : Int)), (7, .int .i64 (((i + 1) : Nat) : Int))] w (by kernel_rfl) (.cons o18 .nil) ?_
      exact ih (i + 1) _ (by omega) ((rises_on (by omega) (by omega) (by simpa using h8) (by simpa using h17)).symm.trans hR0) (hM.sub sN) (by omega)
    ·
     have h9p : ¬ (((i : Nat) : Int) > 0) := of_decide_eq_false h9
     refine GoS.run [0, 5, 6, 7, 27] [.n, .n, .n, .n, .n, .n, .n, .n, .n] _ [.inRegion (cops (csub (cd Try.f38) uB3)) [], .code (csub (cd Try.f38) uB2), .inBlock 1, .code (csub (cd Try.f38) uB1), .inLoop (csub (cd Try.f38) uB0), .inBlock 0, .code (csub (cd Try.f38) [1,1])] [(0, v), (5, v), (6, .int .i64 (((List.length l) : Nat) : Int)), (7, .int .i64 ((i : Nat) : Int)), (27, .bool false)] w (by kernel_rfl) .nil ?_
     have o19 : (binOp .add 3 (.int .i64 ((i : Nat) : Int)) (.int .i64 1)).run Try.prog w = .ok (.int .i64 (((i + 1) : Nat) : Int)) w := f_add (by rw [show ((i : Nat) : Int) + 1 = (((i + 1) : Nat) : Int) by omega]; exact IntWalk.i64_in _ (by omega))
     refine GoS.run [0, 5, 6, 7] [.n, .n, .n, .n, .n, .h (.int .i64 (((i + 1) : Nat) : Int)), .n, .n, .n] _ [.code (csub (cd Try.f38) uB0), .inLoop (csub (cd Try.f38) uB0), .inBlock 0, .code (csub (cd Try.f38) [1,1])] [(0, v), (5, v), (6, .int .i64 (((List.length l) : Nat) : Int)), (7, .int .i64 (((i + 1) : Nat) : Int))] w (by kernel_rfl) (.cons o19 .nil) ?_
     exact ih (i + 1) _ (by omega) ((rises_zero (by omega) (by omega) (by simpa using h8)).symm.trans hR0) (hM.sub sN) (by omega)
  ·
   have h1p : ¬ (((i : Nat) : Int) < (((List.length l) : Nat) : Int)) := of_decide_eq_false h1
   have o2 : (Builtin.len_ #[55] 3 #[v]).run Try.prog w = .ok (.int .i64 (((List.length l) : Nat) : Int)) w := f_slen sT55 (hv.kept0 hM.kept) 3 _
   refine GoS.run [2] [.n, .n, .n, .n, .h (.int .i64 (((List.length l) : Nat) : Int)), .n, .n, .n] _ [.code (csub (cd Try.f38) [1,1,1])] [(2, .bool (decide ((((List.length l) : Nat) : Int) ≤ 8)))] w (by kernel_rfl) (.cons o2 .nil) ?_
   refine GoS.ret (fn := Try.f38) (v := (.bool (decide ((((List.length l) : Nat) : Int) ≤ 8)))) Try.func38 (by kernel_rfl) ?_
   rw [hR]
   exact ⟨ret_bool (by unfold namesP; rw [← hR0, rises_all (by omega), Bool.true_and]; exact decide_eq_decide.2 (by omega)), hM.sub sN⟩

set_option maxHeartbeats 400000 in
theorem names_c {w : World} (v : Value) (l : List (List UInt8)) (hv : Rd w 1 v l.length (svals l)) :
  Calls Try.prog 38 #[v] w (fun e w' => e = .returned (.bool (namesP l)) ∧ Mem [] w w' []) := by
 obtain ⟨R, hR⟩ : ∃ R : Ending → World → Prop, R = (fun e w' => e = .returned (.bool (namesP l)) ∧ Mem [] w w' []) := ⟨_, rfl⟩
 rw [← hR]
 refine GoS.enter (n := 32) Try.func38 (by kernel_rfl) rfl [(0, v)] (by kernel_rfl) (by kernel_rfl) ?_
 have hM0 := Mem.start w
 have o1 : (Builtin.len_ #[55] 3 #[v]).run Try.prog w = .ok (.int .i64 (((List.length l) : Nat) : Int)) w := f_slen sT55 (hv.kept0 hM0.kept) 3 _
 refine GoS.run [0, 5, 6, 7] [.n, .n, .n, .n, .n, .n, .n, .n, .h (.int .i64 (((List.length l) : Nat) : Int)), .n, .n, .n, .n] _ [.code (csub (cd Try.f38) uB0), .inLoop (csub (cd Try.f38) uB0), .inBlock 0, .code (csub (cd Try.f38) [1,1])] [(0, v), (5, v), (6, .int .i64 (((List.length l) : Nat) : Int)), (7, .int .i64 0)] w (by kernel_rfl) (.cons o1 .nil) ?_
 exact names_L v l hv R hR (l.length + 1) 0 w (Nat.zero_le _) rfl (hM0.sub sN) (by omega)


end Go.Proofs.Ytcdcehjilneifaa
