/-
  The walks of among, Letter and Fold of the reference; of Numbers.
-/
import Derived.Test.YtnhplkkbpmijdaaUtfD
namespace Go.Proofs.Ytnhplkkbpmijdaa
open Go Go.Gw Go.UtfP Go.TokP Go.RowKit
set_option linter.unusedVariables false
set_option linter.unusedSimpArgs false


set_option maxHeartbeats 400000 in
theorem among_L (c : Int) (v : Value) (l : List Int) {w : World} (hv : Rd w 1 v l.length (ivals .i64 l)) (hev : l.length % 2 = 0) (hlen : l.length ≤ 1000) (R : Ending → World → Prop) (hR : R = (fun e w' => e = .returned (.bool (among c l)) ∧ w = w')) : ∀ (N : Nat) (i : Nat) (hi : i % 2 = 0) (hk : i ≤ l.length) (ha : among c l = among c (l.drop i)) (hN : l.length - i < N), GoS Try.prog 49 R 27 [.code (csub (cd Try.f49) [1,0,1,0,0]), .inLoop (csub (cd Try.f49) [1,0,1,0,0]), .inBlock 0, .code (csub (cd Try.f49) [1,1])] [(0, .int .i64 c), (1, v), (5, .int .i64 ((i : Nat) : Int))] w := by
  intro N
  induction N with
  | zero => intro i hi hk ha hN; exact absurd hN (Nat.not_lt_zero _)
  | succ N ih =>
    intro i hi hk ha hN
    have o1 : (Builtin.len_ #[46] 3 #[v]).run Try.prog w = .ok (.int .i64 (((List.length l) : Nat) : Int)) w := f_slen sT46 hv 3 _
    refine GoS.run [0, 1, 5, 9] [.n, .n, .n, .n, .n, .h (.int .i64 (((List.length l) : Nat) : Int)), .n, .n] _ [.code (csub (cd Try.f49) [1,0,1,0,0,0,1]), .code (csub (cd Try.f49) [1,0,1,0,0,1]), .inLoop (csub (cd Try.f49) [1,0,1,0,0]), .inBlock 0, .code (csub (cd Try.f49) [1,1])] [(0, .int .i64 c), (1, v), (5, .int .i64 ((i : Nat) : Int)), (9, .bool (decide (((i : Nat) : Int) < (((List.length l) : Nat) : Int))))] w (by kernel_rfl) (.cons o1 .nil) ?_
    refine GoS.cond (decide (((i : Nat) : Int) < (((List.length l) : Nat) : Int))) [.code (csub (cd Try.f49) [1,0,1,0,0,0,1,0]), .code (csub (cd Try.f49) [1,0,1,0,0,1]), .inLoop (csub (cd Try.f49) [1,0,1,0,0]), .inBlock 0, .code (csub (cd Try.f49) [1,1])] [.code (csub (cd Try.f49) [1,0,1,0,0,0,1,1]), .code (csub (cd Try.f49) [1,0,1,0,0,1]), .inLoop (csub (cd Try.f49) [1,0,1,0,0]), .inBlock 0, .code (csub (cd Try.f49) [1,1])] (by kernel_rfl) (fun h2 => ?_) (fun h2 => ?_)
    ·
      have h2p : ((i : Nat) : Int) < (((List.length l) : Nat) : Int) := of_decide_eq_true h2
      refine GoS.run [0, 1, 5] [.n] _ [.code (csub (cd Try.f49) [1,0,1,0,0,1]), .inLoop (csub (cd Try.f49) [1,0,1,0,0]), .inBlock 0, .code (csub (cd Try.f49) [1,1])] [(0, .int .i64 c), (1, v), (5, .int .i64 ((i : Nat) : Int))] w (by kernel_rfl) .nil ?_
      obtain ⟨p3, hp4, hq5⟩ := rd_at (i := ((i : Nat) : Int)) sT46 hv i (by omega) (by first | omega | (dsimp only; omega))
      have o6 : (Instr.indexAt 46 (v) (.int .i64 ((i : Nat) : Int))).run Try.prog w = .ok (.pointer (some p3)) w := hq5 _ _
      have o7 : (Instr.loadAt 3 (.pointer (some p3))).run Try.prog w = .ok (.int .i64 (List.getD l i 0)) w := at_load pE3 hv hp4 (ivals_at (by first | omega | (dsimp only; omega)))
      refine GoS.run [0, 1, 5, 18] [.n, .n, .n, .n, .n, .n, .n, .h (.pointer (some p3)), .h (.int .i64 (List.getD l i 0)), .n, .n] _ [.inRegion (cops (csub (cd Try.f49) [1,0,1,0,0,1,0,0,0])) [7,8,9,10,11,12,13,14], .code (csub (cd Try.f49) [1,0,1,0,0,1,0,0,1]), .inBlock 1, .code (csub (cd Try.f49) [1,0,1,0,0,1,1]), .inLoop (csub (cd Try.f49) [1,0,1,0,0]), .inBlock 0, .code (csub (cd Try.f49) [1,1])] [(0, .int .i64 c), (1, v), (5, .int .i64 ((i : Nat) : Int)), (18, .bool (decide (c ≥ (List.getD l i 0))))] w (by kernel_rfl) (.cons o6 (.cons o7 .nil)) ?_
      refine GoS.fork 18 (decide (c ≥ (List.getD l i 0))) (by kernel_rfl) (fun h8 => ?_) (fun h8 => ?_)
      ·
        have h8p : c ≥ (List.getD l i 0) := of_decide_eq_true h8
        have o12 : (binOp .add 3 (.int .i64 ((i : Nat) : Int)) (.int .i64 1)).run Try.prog w = .ok (.int .i64 (((i + 1) : Nat) : Int)) w := f_add (by rw [show ((i : Nat) : Int) + 1 = (((i + 1) : Nat) : Int) by omega]; exact IntWalk.i64_in _ (by omega))
        obtain ⟨p9, hp10, hq11⟩ := rd_at (i := (((i + 1) : Nat) : Int)) sT46 hv (i + 1) (by omega) (by first | omega | (dsimp only; omega))
        have o13 : (Instr.indexAt 46 (v) (.int .i64 (((i + 1) : Nat) : Int))).run Try.prog w = .ok (.pointer (some p9)) w := hq11 _ _
        have o14 : (Instr.loadAt 3 (.pointer (some p9))).run Try.prog w = .ok (.int .i64 (List.getD l (i + 1) 0)) w := at_load pE3 hv hp10 (ivals_at (by first | omega | (dsimp only; omega)))
        refine GoS.run [0, 1, 5, 26] [.n, .n, .n, .h (.int .i64 (((i + 1) : Nat) : Int)), .h (.pointer (some p9)), .h (.int .i64 (List.getD l (i + 1) 0)), .n, .n] _ [.inRegion (cops (csub (cd Try.f49) [1,0,1,0,0,1,0,0,0])) [], .code (csub (cd Try.f49) [1,0,1,0,0,1,0,0,1]), .inBlock 1, .code (csub (cd Try.f49) [1,0,1,0,0,1,1]), .inLoop (csub (cd Try.f49) [1,0,1,0,0]), .inBlock 0, .code (csub (cd Try.f49) [1,1])] [(0, .int .i64 c), (1, v), (5, .int .i64 ((i : Nat) : Int)), (26, .bool (decide (c ≤ (List.getD l (i + 1) 0))))] w (by kernel_rfl) (.cons o12 (.cons o13 (.cons o14 .nil))) ?_
        refine GoS.run [0, 1, 5, 26] [.n] _ [.code (csub (cd Try.f49) [1,0,1,0,0,1,0,0,1]), .inBlock 1, .code (csub (cd Try.f49) [1,0,1,0,0,1,1]), .inLoop (csub (cd Try.f49) [1,0,1,0,0]), .inBlock 0, .code (csub (cd Try.f49) [1,1])] [(0, .int .i64 c), (1, v), (5, .int .i64 ((i : Nat) : Int)), (26, .bool (decide (c ≤ (List.getD l (i + 1) 0))))] w (by kernel_rfl) .nil ?_
        refine GoS.cond (decide (c ≤ (List.getD l (i + 1) 0))) [.code (csub (cd Try.f49) [1,0,1,0,0,1,0,0,1,0]), .inBlock 1, .code (csub (cd Try.f49) [1,0,1,0,0,1,1]), .inLoop (csub (cd Try.f49) [1,0,1,0,0]), .inBlock 0, .code (csub (cd Try.f49) [1,1])] [.code (csub (cd Try.f49) [1,0,1,0,0,1,0,0,1,1]), .inBlock 1, .code (csub (cd Try.f49) [1,0,1,0,0,1,1]), .inLoop (csub (cd Try.f49) [1,0,1,0,0]), .inBlock 0, .code (csub (cd Try.f49) [1,1])] (by kernel_rfl) (fun h15 => ?_) (fun h15 => ?_)
        ·
          have h15p : c ≤ (List.getD l (i + 1) 0) := of_decide_eq_true h15
          refine GoS.run [4] [.n, .n, .n, .n] _ [.code (csub (cd Try.f49) [1,0,1,0,0,1,0,0,1,0,1]), .inBlock 1, .code (csub (cd Try.f49) [1,0,1,0,0,1,1]), .inLoop (csub (cd Try.f49) [1,0,1,0,0]), .inBlock 0, .code (csub (cd Try.f49) [1,1])] [(4, .bool true)] w (by kernel_rfl) .nil ?_
          refine GoS.ret (fn := Try.f49) (v := (.bool true)) Try.func49 (by kernel_rfl) ?_
          rw [hR]
          exact ⟨ret_bool (by rw [ha, among_step (by omega)]; simp only [h8, h15, Bool.true_and, Bool.true_or]), rfl⟩
        ·
          have h15p : ¬ (c ≤ (List.getD l (i + 1) 0)) := of_decide_eq_false h15
          refine GoS.run [0, 1, 5] [.n] _ [.inBlock 1, .code (csub (cd Try.f49) [1,0,1,0,0,1,1]), .inLoop (csub (cd Try.f49) [1,0,1,0,0]), .inBlock 0, .code (csub (cd Try.f49) [1,1])] [(0, .int .i64 c), (1, v), (5, .int .i64 ((i : Nat) : Int))] w (by kernel_rfl) .nil ?_
          have o16 : (binOp .add 3 (.int .i64 ((i : Nat) : Int)) (.int .i64 2)).run Try.prog w = .ok (.int .i64 (((i + 2) : Nat) : Int)) w := f_add (by rw [show ((i : Nat) : Int) + 2 = (((i + 2) : Nat) : Int) by omega]; exact IntWalk.i64_in _ (by omega))
          refine GoS.run [0, 1, 5] [.n, .n, .n, .h (.int .i64 (((i + 2) : Nat) : Int)), .n, .n, .n] _ [.code (csub (cd Try.f49) [1,0,1,0,0]), .inLoop (csub (cd Try.f49) [1,0,1,0,0]), .inBlock 0, .code (csub (cd Try.f49) [1,1])] [(0, .int .i64 c), (1, v), (5, .int .i64 (((i + 2) : Nat) : Int))] w (by kernel_rfl) (.cons o16 .nil) ?_
          exact ih (i + 2) (by omega) (by omega) (by rw [ha, among_step (by omega)]; simp only [h8, h15, Bool.true_and, Bool.false_and, Bool.and_false, Bool.false_or]) (by omega)
      ·
        have h8p : ¬ (c ≥ (List.getD l i 0)) := of_decide_eq_false h8
        refine GoS.run [0, 1, 5, 26] [.n, .n, .n, .n, .n, .n, .n, .n] _ [.inRegion (cops (csub (cd Try.f49) [1,0,1,0,0,1,0,0,0])) [], .code (csub (cd Try.f49) [1,0,1,0,0,1,0,0,1]), .inBlock 1, .code (csub (cd Try.f49) [1,0,1,0,0,1,1]), .inLoop (csub (cd Try.f49) [1,0,1,0,0]), .inBlock 0, .code (csub (cd Try.f49) [1,1])] [(0, .int .i64 c), (1, v), (5, .int .i64 ((i : Nat) : Int)), (26, .bool false)] w (by kernel_rfl) .nil ?_
        have o17 : (binOp .add 3 (.int .i64 ((i : Nat) : Int)) (.int .i64 2)).run Try.prog w = .ok (.int .i64 (((i + 2) : Nat) : Int)) w := f_add (by rw [show ((i : Nat) : Int) + 2 = (((i + 2) : Nat) : Int) by omega]; exact IntWalk.i64_in _ (by omega))
        refine GoS.run [0, 1, 5] [.n, .n, .n, .n, .n, .n, .h (.int .i64 (((i + 2) : Nat) : Int)), .n, .n, .n] _ [.code (csub (cd Try.f49) [1,0,1,0,0]), .inLoop (csub (cd Try.f49) [1,0,1,0,0]), .inBlock 0, .code (csub (cd Try.f49) [1,1])] [(0, .int .i64 c), (1, v), (5, .int .i64 (((i + 2) : Nat) : Int))] w (by kernel_rfl) (.cons o17 .nil) ?_
        exact ih (i + 2) (by omega) (by omega) (by rw [ha, among_step (by omega)]; simp only [h8, Bool.true_and, Bool.false_and, Bool.and_false, Bool.false_or]) (by omega)
    ·
      have h2p : ¬ (((i : Nat) : Int) < (((List.length l) : Nat) : Int)) := of_decide_eq_false h2
      refine GoS.run [4] [.n, .n, .n, .n, .n] _ [.code (csub (cd Try.f49) [1,1,1])] [(4, .bool false)] w (by kernel_rfl) .nil ?_
      refine GoS.ret (fn := Try.f49) (v := (.bool false)) Try.func49 (by kernel_rfl) ?_
      rw [hR]
      exact ⟨ret_bool (by rw [ha, List.drop_eq_nil_of_le (by omega)]; rfl), rfl⟩

set_option maxHeartbeats 400000 in
theorem among_c (c : Int) (v : Value) (l : List Int) (w : World) (hv : Rd w 1 v l.length (ivals .i64 l)) (hev : l.length % 2 = 0) (hlen : l.length ≤ 1000) :
    Calls Try.prog 49 #[.int .i64 c, v] w (fun e w' => e = .returned (.bool (among c l)) ∧ w = w') := by
  obtain ⟨R, hR⟩ : ∃ R : Ending → World → Prop, R = (fun e w' => e = .returned (.bool (among c l)) ∧ w = w') := ⟨_, rfl⟩
  rw [← hR]
  refine GoS.enter (n := 27) Try.func49 (by kernel_rfl) rfl [(0, .int .i64 c), (1, v)] (by kernel_rfl) (by kernel_rfl) ?_
  refine GoS.run [0, 1, 5] [.n, .n, .n, .n, .n, .n, .n, .n, .n, .n, .n] _ [.code (csub (cd Try.f49) [1,0,1,0,0]), .inLoop (csub (cd Try.f49) [1,0,1,0,0]), .inBlock 0, .code (csub (cd Try.f49) [1,1])] [(0, .int .i64 c), (1, v), (5, .int .i64 0)] w (by kernel_rfl) .nil ?_
  exact among_L c v l hv hev hlen R hR (l.length + 1) 0 (by omega) (by omega) rfl (by omega)

set_option maxHeartbeats 400000 in
theorem rletter_c (c : Int) (w : World) :
    Calls Try.prog 40 #[.int .i64 c] w (fun e w' => e = .returned (.bool (letter c)) ∧ Mem [] w w' []) := by
  obtain ⟨R, hR⟩ : ∃ R : Ending → World → Prop, R = (fun e w' => e = .returned (.bool (letter c)) ∧ Mem [] w w' []) := ⟨_, rfl⟩
  rw [← hR]
  refine GoS.enter (n := 6) Try.func40 (by kernel_rfl) rfl [(0, .int .i64 c)] (by kernel_rfl) (by kernel_rfl) ?_
  have hM0 := Mem.start w
  obtain ⟨v1, w2, hr3, hM4⟩ := m_lit sT46 hM0 (n := 20) (parts := #[(0, .int .i64 97), (1, .int .i64 122), (2, .int .i64 65), (3, .int .i64 90), (4, .int .i64 48), (5, .int .i64 57), (6, .int .i64 192), (7, .int .i64 214), (8, .int .i64 216), (9, .int .i64 246), (10, .int .i64 248), (11, .int .i64 591), (12, .int .i64 880), (13, .int .i64 893), (14, .int .i64 895), (15, .int .i64 1153), (16, .int .i64 1155), (17, .int .i64 1327), (18, .int .i64 19968), (19, .int .i64 40959)]) (cs := [.int .i64 97, .int .i64 122, .int .i64 65, .int .i64 90, .int .i64 48, .int .i64 57, .int .i64 192, .int .i64 214, .int .i64 216, .int .i64 246, .int .i64 248, .int .i64 591, .int .i64 880, .int .i64 893, .int .i64 895, .int .i64 1153, .int .i64 1155, .int .i64 1327, .int .i64 19968, .int .i64 40959]) (by decide) (by kernel_rfl) rfl
  refine GoS.run [3, 4] [.n, .n, .n, .n, .n, .n, .n, .u (v1) (w2)] _ [.inRegion (cops (csub (cd Try.f40) [1,0])) [2,3], .code (csub (cd Try.f40) [1,1])] [(3, .int .i64 c), (4, v1)] w2 (by kernel_rfl) (.cons hr3 .nil) ?_
  refine GoS.call [] 49 #[.int .i64 c, v1] (some 5) [.inRegion (cops (csub (cd Try.f40) [1,0])) [3], .code (csub (cd Try.f40) [1,1])] [] (by kernel_rfl) (among_c c v1 ([97, 122, 65, 90, 48, 57, 192, 214, 216, 246, 248, 591, 880, 893, 895, 1153, 1155, 1327, 19968, 40959] : List Int) w2 (hM4.rd 0 rfl) (by decide) (by decide)) ?_
  rintro _ _ ⟨rfl, rfl⟩
  refine ⟨_, rfl, ?_⟩
  have hM5 : Mem [] w w2 [] := hM4.sub (List.Sublist.cons _ (List.Sublist.refl _))
  refine GoS.run [2] [.n, .n] _ [.code (csub (cd Try.f40) [1,1])] [(2, .bool (among c ([97, 122, 65, 90, 48, 57, 192, 214, 216, 246, 248, 591, 880, 893, 895, 1153, 1155, 1327, 19968, 40959] : List Int)))] w2 (by kernel_rfl) .nil ?_
  refine GoS.ret (fn := Try.f40) (v := (.bool (among c ([97, 122, 65, 90, 48, 57, 192, 214, 216, 246, 248, 591, 880, 893, 895, 1153, 1155, 1327, 19968, 40959] : List Int)))) Try.func40 (by kernel_rfl) ?_
  rw [hR]
  exact ⟨ret_bool (among_letter c), hM5⟩

set_option maxHeartbeats 400000 in
theorem rfold_c (c : Int) (w : World) :
    Calls Try.prog 42 #[.int .i64 c] w (fun e w' => e = .returned (.int .i64 (fold c)) ∧ Mem [] w w' []) := by
  obtain ⟨R, hR⟩ : ∃ R : Ending → World → Prop, R = (fun e w' => e = .returned (.int .i64 (fold c)) ∧ Mem [] w w' []) := ⟨_, rfl⟩
  rw [← hR]
  refine GoS.enter (n := 19) Try.func42 (by kernel_rfl) rfl [(0, .int .i64 c)] (by kernel_rfl) (by kernel_rfl) ?_
  have hM0 := Mem.start w
  obtain ⟨v1, w2, hr3, hM4⟩ := m_lit sT46 hM0 (n := 12) (parts := #[(0, .int .i64 65), (1, .int .i64 90), (2, .int .i64 192), (3, .int .i64 214), (4, .int .i64 216), (5, .int .i64 222), (6, .int .i64 913), (7, .int .i64 929), (8, .int .i64 931), (9, .int .i64 937), (10, .int .i64 1040), (11, .int .i64 1071)]) (cs := [.int .i64 65, .int .i64 90, .int .i64 192, .int .i64 214, .int .i64 216, .int .i64 222, .int .i64 913, .int .i64 929, .int .i64 931, .int .i64 937, .int .i64 1040, .int .i64 1071]) (by decide) (by kernel_rfl) rfl
  refine GoS.run [0, 3, 4] [.n, .n, .n, .n, .n, .n, .n, .n, .u (v1) (w2)] _ [.inRegion (cops (csub (cd Try.f42) [1,0,0])) [2], .code (csub (cd Try.f42) [1,0,1]), .code (csub (cd Try.f42) [1,1])] [(0, .int .i64 c), (3, .int .i64 c), (4, v1)] w2 (by kernel_rfl) (.cons hr3 .nil) ?_
  refine GoS.call [0] 49 #[.int .i64 c, v1] (some 5) [.inRegion (cops (csub (cd Try.f42) [1,0,0])) [], .code (csub (cd Try.f42) [1,0,1]), .code (csub (cd Try.f42) [1,1])] [(0, .int .i64 c)] (by kernel_rfl) (among_c c v1 ([65, 90, 192, 214, 216, 222, 913, 929, 931, 937, 1040, 1071] : List Int) w2 (hM4.rd 0 rfl) (by decide) (by decide)) ?_
  rintro _ _ ⟨rfl, rfl⟩
  refine ⟨_, rfl, ?_⟩
  have hM5 : Mem [] w w2 [] := hM4.sub (List.Sublist.cons _ (List.Sublist.refl _))
  refine GoS.run [0, 5] [.n] _ [.code (csub (cd Try.f42) [1,0,1]), .code (csub (cd Try.f42) [1,1])] [(0, .int .i64 c), (5, .bool (among c ([65, 90, 192, 214, 216, 222, 913, 929, 931, 937, 1040, 1071] : List Int)))] w2 (by kernel_rfl) .nil ?_
  refine GoS.cond (among c ([65, 90, 192, 214, 216, 222, 913, 929, 931, 937, 1040, 1071] : List Int)) [.code (csub (cd Try.f42) [1,0,1,0]), .code (csub (cd Try.f42) [1,1])] [.code (csub (cd Try.f42) [1,0,1,1]), .code (csub (cd Try.f42) [1,1])] (by kernel_rfl) (fun h6 => ?_) (fun h6 => ?_)
  ·
    have h6p : UpP c := (among_up c).1 h6
    have o7 : (binOp .add 3 (.int .i64 c) (.int .i64 32)).run Try.prog w2 = .ok (.int .i64 (c + 32)) w2 := f_add (IntWalk.i64_in _ (by (first | omega | (unfold UpP at *; omega))))
    refine GoS.run [2] [.n, .n, .n, .h (.int .i64 (c + 32)), .n, .n] _ [.code (csub (cd Try.f42) [1,0,1,0,1]), .code (csub (cd Try.f42) [1,1])] [(2, .int .i64 (c + 32))] w2 (by kernel_rfl) (.cons o7 .nil) ?_
    refine GoS.ret (fn := Try.f42) (v := (.int .i64 (c + 32))) Try.func42 (by kernel_rfl) ?_
    rw [hR]
    exact ⟨ret_int (by rw [fold, if_pos h6p]), hM5⟩
  ·
    have h6p : ¬ UpP c := (among_up_no c) h6
    refine GoS.run [0] [.n] _ [.code (csub (cd Try.f42) [1,1])] [(0, .int .i64 c)] w2 (by kernel_rfl) .nil ?_
    refine GoS.run [0, 10] [.n, .n, .n, .n, .n, .n] _ [.inRegion (cops (csub (cd Try.f42) [1,1,0,0])) [3,4,5], .code (csub (cd Try.f42) [1,1,0,1]), .code (csub (cd Try.f42) [1,1,1])] [(0, .int .i64 c), (10, .bool (decide (c ≥ 1024)))] w2 (by kernel_rfl) .nil ?_
    refine GoS.fork 10 (decide (c ≥ 1024)) (by kernel_rfl) (fun h8 => ?_) (fun h8 => ?_)
    ·
      have h8p : c ≥ 1024 := of_decide_eq_true h8
      refine GoS.run [0, 13] [.n, .n, .n] _ [.inRegion (cops (csub (cd Try.f42) [1,1,0,0])) [], .code (csub (cd Try.f42) [1,1,0,1]), .code (csub (cd Try.f42) [1,1,1])] [(0, .int .i64 c), (13, .bool (decide (c ≤ 1039)))] w2 (by kernel_rfl) .nil ?_
      refine GoS.run [0, 13] [.n] _ [.code (csub (cd Try.f42) [1,1,0,1]), .code (csub (cd Try.f42) [1,1,1])] [(0, .int .i64 c), (13, .bool (decide (c ≤ 1039)))] w2 (by kernel_rfl) .nil ?_
      refine GoS.cond (decide (c ≤ 1039)) [.code (csub (cd Try.f42) [1,1,0,1,0]), .code (csub (cd Try.f42) [1,1,1])] [.code (csub (cd Try.f42) [1,1,0,1,1]), .code (csub (cd Try.f42) [1,1,1])] (by kernel_rfl) (fun h9 => ?_) (fun h9 => ?_)
      ·
        have h9p : c ≤ 1039 := of_decide_eq_true h9
        have o10 : (binOp .add 3 (.int .i64 c) (.int .i64 80)).run Try.prog w2 = .ok (.int .i64 (c + 80)) w2 := f_add (IntWalk.i64_in _ (by (first | omega | (unfold UpP at *; omega))))
        refine GoS.run [2] [.n, .n, .n, .h (.int .i64 (c + 80)), .n, .n] _ [.code (csub (cd Try.f42) [1,1,0,1,0,1]), .code (csub (cd Try.f42) [1,1,1])] [(2, .int .i64 (c + 80))] w2 (by kernel_rfl) (.cons o10 .nil) ?_
        refine GoS.ret (fn := Try.f42) (v := (.int .i64 (c + 80))) Try.func42 (by kernel_rfl) ?_
        rw [hR]
        exact ⟨ret_int (by rw [fold, if_neg h6p]; (repeat' split) <;> omega), hM5⟩
      ·
        have h9p : ¬ (c ≤ 1039) := of_decide_eq_false h9
        refine GoS.run [0] [.n] _ [.code (csub (cd Try.f42) [1,1,1])] [(0, .int .i64 c)] w2 (by kernel_rfl) .nil ?_
        refine GoS.run [0, 17] [.n, .n, .n, .n, .n, .n] _ [.code (csub (cd Try.f42) [1,1,1,0,1]), .code (csub (cd Try.f42) [1,1,1,1])] [(0, .int .i64 c), (17, .bool (c == 962))] w2 (by kernel_rfl) .nil ?_
        refine GoS.cond (c == 962) [.code (csub (cd Try.f42) [1,1,1,0,1,0]), .code (csub (cd Try.f42) [1,1,1,1])] [.code (csub (cd Try.f42) [1,1,1,0,1,1]), .code (csub (cd Try.f42) [1,1,1,1])] (by kernel_rfl) (fun h11 => ?_) (fun h11 => ?_)
        ·
          have h11p : c = 962 := eq_of_beq h11
          refine GoS.run [2] [.n, .n, .n, .n] _ [.code (csub (cd Try.f42) [1,1,1,0,1,0,1]), .code (csub (cd Try.f42) [1,1,1,1])] [(2, .int .i64 963)] w2 (by kernel_rfl) .nil ?_
          refine GoS.ret (fn := Try.f42) (v := (.int .i64 963)) Try.func42 (by kernel_rfl) ?_
          rw [hR]
          exact ⟨ret_int (by rw [fold, if_neg h6p]; (repeat' split) <;> omega), hM5⟩
        ·
          have h11p : ¬ (c = 962) := p_ne h11
          refine GoS.run [0] [.n] _ [.code (csub (cd Try.f42) [1,1,1,1])] [(0, .int .i64 c)] w2 (by kernel_rfl) .nil ?_
          refine GoS.run [2] [.n, .n, .n, .n, .n] _ [.code (csub (cd Try.f42) [1,1,1,1,1])] [(2, .int .i64 c)] w2 (by kernel_rfl) .nil ?_
          refine GoS.ret (fn := Try.f42) (v := (.int .i64 c)) Try.func42 (by kernel_rfl) ?_
          rw [hR]
          exact ⟨ret_int (by rw [fold, if_neg h6p]; (repeat' split) <;> omega), hM5⟩
    ·
      have h8p : ¬ (c ≥ 1024) := of_decide_eq_false h8
      refine GoS.run [0, 13] [.n, .n, .n] _ [.inRegion (cops (csub (cd Try.f42) [1,1,0,0])) [], .code (csub (cd Try.f42) [1,1,0,1]), .code (csub (cd Try.f42) [1,1,1])] [(0, .int .i64 c), (13, .bool false)] w2 (by kernel_rfl) .nil ?_
      refine GoS.run [0, 17] [.n, .n, .n, .n, .n, .n, .n, .n, .n] _ [.code (csub (cd Try.f42) [1,1,1,0,1]), .code (csub (cd Try.f42) [1,1,1,1])] [(0, .int .i64 c), (17, .bool (c == 962))] w2 (by kernel_rfl) .nil ?_
      refine GoS.cond (c == 962) [.code (csub (cd Try.f42) [1,1,1,0,1,0]), .code (csub (cd Try.f42) [1,1,1,1])] [.code (csub (cd Try.f42) [1,1,1,0,1,1]), .code (csub (cd Try.f42) [1,1,1,1])] (by kernel_rfl) (fun h12 => ?_) (fun h12 => ?_)
      ·
        have h12p : c = 962 := eq_of_beq h12
        refine GoS.run [2] [.n, .n, .n, .n] _ [.code (csub (cd Try.f42) [1,1,1,0,1,0,1]), .code (csub (cd Try.f42) [1,1,1,1])] [(2, .int .i64 963)] w2 (by kernel_rfl) .nil ?_
        refine GoS.ret (fn := Try.f42) (v := (.int .i64 963)) Try.func42 (by kernel_rfl) ?_
        rw [hR]
        exact ⟨ret_int (by rw [fold, if_neg h6p]; (repeat' split) <;> omega), hM5⟩
      ·
        have h12p : ¬ (c = 962) := p_ne h12
        refine GoS.run [0] [.n] _ [.code (csub (cd Try.f42) [1,1,1,1])] [(0, .int .i64 c)] w2 (by kernel_rfl) .nil ?_
        refine GoS.run [2] [.n, .n, .n, .n, .n] _ [.code (csub (cd Try.f42) [1,1,1,1,1])] [(2, .int .i64 c)] w2 (by kernel_rfl) .nil ?_
        refine GoS.ret (fn := Try.f42) (v := (.int .i64 c)) Try.func42 (by kernel_rfl) ?_
        rw [hR]
        exact ⟨ret_int (by rw [fold, if_neg h6p]; (repeat' split) <;> omega), hM5⟩


end Go.Proofs.Ytnhplkkbpmijdaa
