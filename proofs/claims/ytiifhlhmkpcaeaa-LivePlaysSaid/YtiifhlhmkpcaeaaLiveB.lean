/-
  The walks of the reference's New, Live, Kill, Copy.
-/
import Derived.Test.YtiifhlhmkpcaeaaLiveA
namespace Go.Proofs.Ytiifhlhmkpcaeaa
open Go Go.Gw Go.NumP Go.LiveP Go.RowKit
set_option linter.unusedVariables false
set_option linter.unusedSimpArgs false

theorem pE38 : Plain Try.prog 38 := ⟨.slice 3, by kernel_rfl, (fun _ h => by cases h), (fun _ _ h => by cases h)⟩

set_option maxHeartbeats 400000 in
theorem rnew_c (n : Int) (w : World) :
    Calls Try.prog 9 #[.int .i64 n] w (fun e w' => (newE n ≠ 0 ∧ e = .returned (.tuple #[.pointer none, .int .i64 (newE n)]) ∧ Mem [] w w' []) ∨ (newE n = 0 ∧ ∃ b v, e = .returned (.tuple #[.pointer (some ⟨b, 0, none⟩), .int .i64 0]) ∧ Mem [] w w' [⟨40, 2, (obj b), 1, [.int .i64 n, v]⟩, ⟨3, 1, v, (List.length ([] : List Int)), (ivals .i64 ([] : List Int))⟩])) := by
  obtain ⟨R, hR⟩ : ∃ R : Ending → World → Prop, R = (fun e w' => (newE n ≠ 0 ∧ e = .returned (.tuple #[.pointer none, .int .i64 (newE n)]) ∧ Mem [] w w' []) ∨ (newE n = 0 ∧ ∃ b v, e = .returned (.tuple #[.pointer (some ⟨b, 0, none⟩), .int .i64 0]) ∧ Mem [] w w' [⟨40, 2, (obj b), 1, [.int .i64 n, v]⟩, ⟨3, 1, v, (List.length ([] : List Int)), (ivals .i64 ([] : List Int))⟩])) := ⟨_, rfl⟩
  rw [← hR]
  refine GoS.enter (n := 11) Try.func9 (by kernel_rfl) rfl [(0, .int .i64 n)] (by kernel_rfl) (by kernel_rfl) ?_
  have hM0 := Mem.start w
  refine GoS.run [0, 5] [.n, .n, .n, .n, .n, .n, .n, .n, .n, .n, .n] _ [.code (csub (cd Try.f9) [1,0,1]), .code (csub (cd Try.f9) [1,1])] [(0, .int .i64 n), (5, .bool (decide (n < 0)))] w (by kernel_rfl) .nil ?_
  refine GoS.cond (decide (n < 0)) [.code (csub (cd Try.f9) [1,0,1,0]), .code (csub (cd Try.f9) [1,1])] [.code (csub (cd Try.f9) [1,0,1,1]), .code (csub (cd Try.f9) [1,1])] (by kernel_rfl) (fun h1 => ?_) (fun h1 => ?_)
  ·
    have h1p : n < 0 := of_decide_eq_true h1
    refine GoS.run [2, 3] [.n, .n, .n, .n, .n] _ [.code (csub (cd Try.f9) [1,0,1,0,1]), .code (csub (cd Try.f9) [1,1])] [(2, .pointer none), (3, .int .i64 1)] w (by kernel_rfl) .nil ?_
    refine GoS.ret (fn := Try.f9) (v := (.tuple #[.pointer none, .int .i64 1])) Try.func9 (by kernel_rfl) ?_
    rw [hR]
    have e : newE n = 1 := by unfold newE; (repeat' split) <;> omega
    exact .inl ⟨by omega, by rw [e], hM0⟩
  ·
    have h1p : ¬ (n < 0) := of_decide_eq_false h1
    refine GoS.run [0] [.n] _ [.code (csub (cd Try.f9) [1,1])] [(0, .int .i64 n)] w (by kernel_rfl) .nil ?_
    refine GoS.run [0, 7] [.n, .n, .n, .n, .n, .n] _ [.code (csub (cd Try.f9) [1,1,0,1]), .code (csub (cd Try.f9) [1,1,1])] [(0, .int .i64 n), (7, .bool (decide (n > 1048576)))] w (by kernel_rfl) .nil ?_
    refine GoS.cond (decide (n > 1048576)) [.code (csub (cd Try.f9) [1,1,0,1,0]), .code (csub (cd Try.f9) [1,1,1])] [.code (csub (cd Try.f9) [1,1,0,1,1]), .code (csub (cd Try.f9) [1,1,1])] (by kernel_rfl) (fun h2 => ?_) (fun h2 => ?_)
    ·
      have h2p : n > 1048576 := of_decide_eq_true h2
      refine GoS.run [2, 3] [.n, .n, .n, .n, .n] _ [.code (csub (cd Try.f9) [1,1,0,1,0,1]), .code (csub (cd Try.f9) [1,1,1])] [(2, .pointer none), (3, .int .i64 4)] w (by kernel_rfl) .nil ?_
      refine GoS.ret (fn := Try.f9) (v := (.tuple #[.pointer none, .int .i64 4])) Try.func9 (by kernel_rfl) ?_
      rw [hR]
      have e : newE n = 4 := by unfold newE; (repeat' split) <;> omega
      exact .inl ⟨by omega, by rw [e], hM0⟩
    ·
      have h2p : ¬ (n > 1048576) := of_decide_eq_false h2
      refine GoS.run [0] [.n] _ [.code (csub (cd Try.f9) [1,1,1])] [(0, .int .i64 n)] w (by kernel_rfl) .nil ?_
      obtain ⟨b3, w4, hr5, hM6⟩ := m_box (T := 40) (k := 2) (u := .agg #[.int .i64 n, .slice none 0 0]) rfl rfl hM0
      have hM7 : Mem [] w w4 [⟨40, 2, (obj b3), 1, [.int .i64 n, .slice none 0 0]⟩] := hM6
      have o8 : (Instr.box 40 (.agg #[.int .i64 n, .slice none 0 0])).run Try.prog w = .ok (.pointer (some (⟨b3, 0, none⟩))) w4 := hr5
      refine GoS.run [2, 3] [.n, .n, .n, .n, .u (.pointer (some (⟨b3, 0, none⟩))) (w4), .n, .n, .n] _ [.code (csub (cd Try.f9) [1,1,1,1])] [(2, .pointer (some (⟨b3, 0, none⟩))), (3, .int .i64 0)] w4 (by kernel_rfl) (.cons o8 .nil) ?_
      refine GoS.ret (fn := Try.f9) (v := (.tuple #[.pointer (some (⟨b3, 0, none⟩)), .int .i64 0])) Try.func9 (by kernel_rfl) ?_
      rw [hR]
      have e : newE n = 0 := by unfold newE; (repeat' split) <;> omega
      exact .inr ⟨e, _, _, rfl, (hM7.nilrow 3 1).perm (List.Perm.swap _ _ _)⟩

set_option maxHeartbeats 400000 in
theorem rlive_L (b : Nat) (v : Value) (n : Int) (q : List Int) (d : Int) (w : World) (k1 : Rd w 2 (obj b) 1 [.int .i64 n, v]) (k2 : Rd w 1 v (List.length q) (ivals .i64 q)) (hd : 0 ≤ d ∧ d < n) (R : Ending → World → Prop) (hR : R = (fun e w' => e = .returned (.bool (rlvB n q d)) ∧ w = w')) : ∀ (N : Nat) (j : Nat) (hj : j ≤ q.length) (hs : ∀ m, m < j → q.getD m 0 ≠ d) (hN : q.length - j < N), GoS Try.prog 16 R 34 [.code (csub (cd Try.f16) [1,1,0,1,0,0]), .inLoop (csub (cd Try.f16) [1,1,0,1,0,0]), .inBlock 0, .code (csub (cd Try.f16) [1,1,1])] [(0, .pointer (some (⟨b, 0, none⟩))), (1, .int .i64 d), (5, .int .i64 ((j : Nat) : Int))] w := by
  intro N
  induction N with
  | zero => intro j hj hs hN; exact absurd hN (Nat.not_lt_zero _)
  | succ N ih =>
    intro j hj hs hN
    have hlen : q.length ≤ 9223372036854775807 := rd_len k2
    have o1 : (Instr.loadAt 38 (.pointer (some (⟨b, 1, none⟩)))).run Try.prog w = .ok (v) w := c_load pE38 k1 (cel_obj b 1) rfl
    have o2 : (Builtin.len_ #[38] 3 #[v]).run Try.prog w = .ok (.int .i64 (((List.length q) : Nat) : Int)) w := f_slen sT38 k2 3 _
    refine GoS.run [0, 1, 5, 22] [.n, .n, .n, .n, .n, .n, .n, .h (v), .h (.int .i64 (((List.length q) : Nat) : Int)), .n, .n] _ [.code (csub (cd Try.f16) [1,1,0,1,0,0,0,1]), .code (csub (cd Try.f16) [1,1,0,1,0,0,1]), .inLoop (csub (cd Try.f16) [1,1,0,1,0,0]), .inBlock 0, .code (csub (cd Try.f16) [1,1,1])] [(0, .pointer (some (⟨b, 0, none⟩))), (1, .int .i64 d), (5, .int .i64 ((j : Nat) : Int)), (22, .bool (decide (((j : Nat) : Int) < (((List.length q) : Nat) : Int))))] w (by kernel_rfl) (.cons o1 (.cons o2 .nil)) ?_
    refine GoS.cond (decide (((j : Nat) : Int) < (((List.length q) : Nat) : Int))) [.code (csub (cd Try.f16) [1,1,0,1,0,0,0,1,0]), .code (csub (cd Try.f16) [1,1,0,1,0,0,1]), .inLoop (csub (cd Try.f16) [1,1,0,1,0,0]), .inBlock 0, .code (csub (cd Try.f16) [1,1,1])] [.code (csub (cd Try.f16) [1,1,0,1,0,0,0,1,1]), .code (csub (cd Try.f16) [1,1,0,1,0,0,1]), .inLoop (csub (cd Try.f16) [1,1,0,1,0,0]), .inBlock 0, .code (csub (cd Try.f16) [1,1,1])] (by kernel_rfl) (fun h3 => ?_) (fun h3 => ?_)
    ·
      have h3p : ((j : Nat) : Int) < (((List.length q) : Nat) : Int) := of_decide_eq_true h3
      refine GoS.run [0, 1, 5] [.n] _ [.code (csub (cd Try.f16) [1,1,0,1,0,0,1]), .inLoop (csub (cd Try.f16) [1,1,0,1,0,0]), .inBlock 0, .code (csub (cd Try.f16) [1,1,1])] [(0, .pointer (some (⟨b, 0, none⟩))), (1, .int .i64 d), (5, .int .i64 ((j : Nat) : Int))] w (by kernel_rfl) .nil ?_
      have o7 : (Instr.loadAt 38 (.pointer (some (⟨b, 1, none⟩)))).run Try.prog w = .ok (v) w := c_load pE38 k1 (cel_obj b 1) rfl
      obtain ⟨p4, hp5, hq6⟩ := rd_at (i := ((j : Nat) : Int)) sT38 k2 j (by omega) (by first | omega | (dsimp only; omega))
      have o8 : (Instr.indexAt 38 (v) (.int .i64 ((j : Nat) : Int))).run Try.prog w = .ok (.pointer (some p4)) w := hq6 _ _
      have o9 : (Instr.loadAt 3 (.pointer (some p4))).run Try.prog w = .ok (.int .i64 (List.getD q j 0)) w := at_load pE3 k2 hp5 (ivals_at (by first | omega | (dsimp only; omega)))
      refine GoS.run [0, 1, 5, 33] [.n, .n, .n, .n, .n, .n, .n, .h (v), .n, .h (.pointer (some p4)), .h (.int .i64 (List.getD q j 0)), .n, .n, .n] _ [.code (csub (cd Try.f16) [1,1,0,1,0,0,1,0,0,1]), .inBlock 1, .code (csub (cd Try.f16) [1,1,0,1,0,0,1,1]), .inLoop (csub (cd Try.f16) [1,1,0,1,0,0]), .inBlock 0, .code (csub (cd Try.f16) [1,1,1])] [(0, .pointer (some (⟨b, 0, none⟩))), (1, .int .i64 d), (5, .int .i64 ((j : Nat) : Int)), (33, .bool ((List.getD q j 0) == d))] w (by kernel_rfl) (.cons o7 (.cons o8 (.cons o9 .nil))) ?_
      refine GoS.cond ((List.getD q j 0) == d) [.code (csub (cd Try.f16) [1,1,0,1,0,0,1,0,0,1,0]), .inBlock 1, .code (csub (cd Try.f16) [1,1,0,1,0,0,1,1]), .inLoop (csub (cd Try.f16) [1,1,0,1,0,0]), .inBlock 0, .code (csub (cd Try.f16) [1,1,1])] [.code (csub (cd Try.f16) [1,1,0,1,0,0,1,0,0,1,1]), .inBlock 1, .code (csub (cd Try.f16) [1,1,0,1,0,0,1,1]), .inLoop (csub (cd Try.f16) [1,1,0,1,0,0]), .inBlock 0, .code (csub (cd Try.f16) [1,1,1])] (by kernel_rfl) (fun h10 => ?_) (fun h10 => ?_)
      ·
        have h10p : (List.getD q j 0) = d := eq_of_beq h10
        refine GoS.run [4] [.n, .n, .n, .n] _ [.code (csub (cd Try.f16) [1,1,0,1,0,0,1,0,0,1,0,1]), .inBlock 1, .code (csub (cd Try.f16) [1,1,0,1,0,0,1,1]), .inLoop (csub (cd Try.f16) [1,1,0,1,0,0]), .inBlock 0, .code (csub (cd Try.f16) [1,1,1])] [(4, .bool false)] w (by kernel_rfl) .nil ?_
        refine GoS.ret (fn := Try.f16) (v := (.bool false)) Try.func16 (by kernel_rfl) ?_
        rw [hR]
        exact ⟨ret_bool (rlvB_hit (j := j) (by omega) (by omega)).symm, rfl⟩
      ·
        have h10p : ¬ ((List.getD q j 0) = d) := p_ne h10
        refine GoS.run [0, 1, 5] [.n] _ [.inBlock 1, .code (csub (cd Try.f16) [1,1,0,1,0,0,1,1]), .inLoop (csub (cd Try.f16) [1,1,0,1,0,0]), .inBlock 0, .code (csub (cd Try.f16) [1,1,1])] [(0, .pointer (some (⟨b, 0, none⟩))), (1, .int .i64 d), (5, .int .i64 ((j : Nat) : Int))] w (by kernel_rfl) .nil ?_
        have o11 : (binOp .add 3 (.int .i64 ((j : Nat) : Int)) (.int .i64 1)).run Try.prog w = .ok (.int .i64 (((j + 1) : Nat) : Int)) w := f_add (by rw [show ((j : Nat) : Int) + 1 = (((j + 1) : Nat) : Int) by omega]; exact IntWalk.i64_in _ (by omega))
        refine GoS.run [0, 1, 5] [.n, .n, .n, .h (.int .i64 (((j + 1) : Nat) : Int)), .n, .n, .n] _ [.code (csub (cd Try.f16) [1,1,0,1,0,0]), .inLoop (csub (cd Try.f16) [1,1,0,1,0,0]), .inBlock 0, .code (csub (cd Try.f16) [1,1,1])] [(0, .pointer (some (⟨b, 0, none⟩))), (1, .int .i64 d), (5, .int .i64 (((j + 1) : Nat) : Int))] w (by kernel_rfl) (.cons o11 .nil) ?_
        exact ih (j + 1) (by omega) (fun m hm => by rcases Nat.lt_succ_iff_lt_or_eq.1 hm with h | h; exact hs m h; subst h; omega) (by omega)
    ·
      have h3p : ¬ (((j : Nat) : Int) < (((List.length q) : Nat) : Int)) := of_decide_eq_false h3
      refine GoS.run [4] [.n, .n, .n, .n, .n] _ [.code (csub (cd Try.f16) [1,1,1,1])] [(4, .bool true)] w (by kernel_rfl) .nil ?_
      refine GoS.ret (fn := Try.f16) (v := (.bool true)) Try.func16 (by kernel_rfl) ?_
      rw [hR]
      obtain rfl : j = q.length := by omega
      exact ⟨ret_bool (rlvB_miss hd.1 hd.2 hs).symm, rfl⟩

set_option maxHeartbeats 400000 in
theorem rlive_c (b : Nat) (v : Value) (n : Int) (q : List Int) (d : Int) (w : World) (k1 : Rd w 2 (obj b) 1 [.int .i64 n, v]) (k2 : Rd w 1 v (List.length q) (ivals .i64 q)) :
    Calls Try.prog 16 #[.pointer (some (⟨b, 0, none⟩)), .int .i64 d] w (fun e w' => e = .returned (.bool (rlvB n q d)) ∧ w = w') := by
  obtain ⟨R, hR⟩ : ∃ R : Ending → World → Prop, R = (fun e w' => e = .returned (.bool (rlvB n q d)) ∧ w = w') := ⟨_, rfl⟩
  rw [← hR]
  refine GoS.enter (n := 34) Try.func16 (by kernel_rfl) rfl [(0, .pointer (some (⟨b, 0, none⟩))), (1, .int .i64 d)] (by kernel_rfl) (by kernel_rfl) ?_
  refine GoS.run [0, 1, 8] [.n, .n, .n, .n, .n, .n, .n, .n, .n, .n] _ [.inRegion (cops (csub (cd Try.f16) [1,0,0])) [3,4,5,6,7,8,9], .code (csub (cd Try.f16) [1,0,1]), .code (csub (cd Try.f16) [1,1])] [(0, .pointer (some (⟨b, 0, none⟩))), (1, .int .i64 d), (8, .bool (decide (d < 0)))] w (by kernel_rfl) .nil ?_
  refine GoS.fork 8 (decide (d < 0)) (by kernel_rfl) (fun h1 => ?_) (fun h1 => ?_)
  ·
    have h1p : d < 0 := of_decide_eq_true h1
    refine GoS.run [0, 1, 15] [.n, .n, .n, .n, .n, .n, .n] _ [.inRegion (cops (csub (cd Try.f16) [1,0,0])) [], .code (csub (cd Try.f16) [1,0,1]), .code (csub (cd Try.f16) [1,1])] [(0, .pointer (some (⟨b, 0, none⟩))), (1, .int .i64 d), (15, .bool true)] w (by kernel_rfl) .nil ?_
    refine GoS.run [4] [.n, .n, .n, .n, .n, .n] _ [.code (csub (cd Try.f16) [1,0,1,0,1]), .code (csub (cd Try.f16) [1,1])] [(4, .bool false)] w (by kernel_rfl) .nil ?_
    refine GoS.ret (fn := Try.f16) (v := (.bool false)) Try.func16 (by kernel_rfl) ?_
    rw [hR]
    exact ⟨ret_bool (rlvB_out (by omega)).symm, rfl⟩
  ·
    have h1p : ¬ (d < 0) := of_decide_eq_false h1
    have o2 : (Instr.loadAt 3 (.pointer (some (⟨b, 0, none⟩)))).run Try.prog w = .ok (.int .i64 n) w := c_load pE3 k1 (cel_obj b 0) rfl
    refine GoS.run [0, 1, 15] [.n, .n, .n, .n, .h (.int .i64 n), .n, .n] _ [.inRegion (cops (csub (cd Try.f16) [1,0,0])) [], .code (csub (cd Try.f16) [1,0,1]), .code (csub (cd Try.f16) [1,1])] [(0, .pointer (some (⟨b, 0, none⟩))), (1, .int .i64 d), (15, .bool (decide (d ≥ n)))] w (by kernel_rfl) (.cons o2 .nil) ?_
    refine GoS.run [0, 1, 15] [.n] _ [.code (csub (cd Try.f16) [1,0,1]), .code (csub (cd Try.f16) [1,1])] [(0, .pointer (some (⟨b, 0, none⟩))), (1, .int .i64 d), (15, .bool (decide (d ≥ n)))] w (by kernel_rfl) .nil ?_
    refine GoS.cond (decide (d ≥ n)) [.code (csub (cd Try.f16) [1,0,1,0]), .code (csub (cd Try.f16) [1,1])] [.code (csub (cd Try.f16) [1,0,1,1]), .code (csub (cd Try.f16) [1,1])] (by kernel_rfl) (fun h3 => ?_) (fun h3 => ?_)
    ·
      have h3p : d ≥ n := of_decide_eq_true h3
      refine GoS.run [4] [.n, .n, .n, .n] _ [.code (csub (cd Try.f16) [1,0,1,0,1]), .code (csub (cd Try.f16) [1,1])] [(4, .bool false)] w (by kernel_rfl) .nil ?_
      refine GoS.ret (fn := Try.f16) (v := (.bool false)) Try.func16 (by kernel_rfl) ?_
      rw [hR]
      exact ⟨ret_bool (rlvB_out (by omega)).symm, rfl⟩
    ·
      have h3p : ¬ (d ≥ n) := of_decide_eq_false h3
      refine GoS.run [0, 1] [.n] _ [.code (csub (cd Try.f16) [1,1])] [(0, .pointer (some (⟨b, 0, none⟩))), (1, .int .i64 d)] w (by kernel_rfl) .nil ?_
      refine GoS.run [0, 1, 5] [.n, .n, .n, .n, .n, .n, .n] _ [.code (csub (cd Try.f16) [1,1,0,1,0,0]), .inLoop (csub (cd Try.f16) [1,1,0,1,0,0]), .inBlock 0, .code (csub (cd Try.f16) [1,1,1])] [(0, .pointer (some (⟨b, 0, none⟩))), (1, .int .i64 d), (5, .int .i64 0)] w (by kernel_rfl) .nil ?_
      exact rlive_L b v n q d w k1 k2 ⟨by omega, by omega⟩ R hR (q.length + 1) 0 (by omega) (fun m hm => absurd hm (Nat.not_lt_zero _)) (by omega)

set_option maxHeartbeats 400000 in
theorem rkill_c {S : List Nat} {w0 : World} (b : Nat) (v : Value) (n : Int) (q : List Int) (hg : q.length ≤ 2097152) (d : Int) (w : World) (hM : Mem S w0 w [⟨40, 2, (obj b), 1, [.int .i64 n, v]⟩, ⟨3, 1, v, (List.length q), (ivals .i64 q)⟩]) :
    Calls Try.prog 13 #[.pointer (some (⟨b, 0, none⟩)), .int .i64 d] w (fun e w' => e = .returned (.bool (rlvB n q d)) ∧ ∃ v, Mem S w0 w' [⟨40, 2, (obj b), 1, [.int .i64 n, v]⟩, ⟨3, 1, v, (List.length (killR n q d)), (ivals .i64 (killR n q d))⟩]) := by
  obtain ⟨R, hR⟩ : ∃ R : Ending → World → Prop, R = (fun e w' => e = .returned (.bool (rlvB n q d)) ∧ ∃ v, Mem S w0 w' [⟨40, 2, (obj b), 1, [.int .i64 n, v]⟩, ⟨3, 1, v, (List.length (killR n q d)), (ivals .i64 (killR n q d))⟩]) := ⟨_, rfl⟩
  rw [← hR]
  refine GoS.enter (n := 19) Try.func13 (by kernel_rfl) rfl [(0, .pointer (some (⟨b, 0, none⟩))), (1, .int .i64 d)] (by kernel_rfl) (by kernel_rfl) ?_
  refine GoS.run [0, 1, 5, 6] [.n, .n, .n, .n, .n, .n, .n, .n, .n] _ [.inRegion (cops (csub (cd Try.f13) [1,0,0])) [2,3], .code (csub (cd Try.f13) [1,0,1]), .code (csub (cd Try.f13) [1,1])] [(0, .pointer (some (⟨b, 0, none⟩))), (1, .int .i64 d), (5, .pointer (some (⟨b, 0, none⟩))), (6, .int .i64 d)] w (by kernel_rfl) .nil ?_
  refine GoS.call [0, 1] 16 #[.pointer (some (⟨b, 0, none⟩)), .int .i64 d] (some 7) [.inRegion (cops (csub (cd Try.f13) [1,0,0])) [3], .code (csub (cd Try.f13) [1,0,1]), .code (csub (cd Try.f13) [1,1])] [(0, .pointer (some (⟨b, 0, none⟩))), (1, .int .i64 d)] (by kernel_rfl) (rlive_c b v n q d w (hM.rd 0 rfl) (hM.rd 1 rfl)) ?_
  rintro _ _ ⟨rfl, rfl⟩
  refine ⟨_, rfl, ?_⟩
  refine GoS.run [0, 1, 8] [.n, .n] _ [.code (csub (cd Try.f13) [1,0,1]), .code (csub (cd Try.f13) [1,1])] [(0, .pointer (some (⟨b, 0, none⟩))), (1, .int .i64 d), (8, .bool (!(rlvB n q d)))] w (by kernel_rfl) .nil ?_
  refine GoS.cond (!(rlvB n q d)) [.code (csub (cd Try.f13) [1,0,1,0]), .code (csub (cd Try.f13) [1,1])] [.code (csub (cd Try.f13) [1,0,1,1]), .code (csub (cd Try.f13) [1,1])] (by kernel_rfl) (fun h1 => ?_) (fun h1 => ?_)
  ·
    refine GoS.run [4] [.n, .n, .n, .n] _ [.code (csub (cd Try.f13) [1,0,1,0,1]), .code (csub (cd Try.f13) [1,1])] [(4, .bool false)] w (by kernel_rfl) .nil ?_
    refine GoS.ret (fn := Try.f13) (v := (.bool false)) Try.func13 (by kernel_rfl) ?_
    rw [hR]
    exact ⟨ret_bool (p_nt2 h1).symm, _, hM.cast (by rw [killR_no (p_nt2 h1)])⟩
  ·
    have h1p : (0 : Int) ≤ d ∧ (d : Int) < n := rlvB_rng (p_nt h1)
    refine GoS.run [0, 1] [.n] _ [.code (csub (cd Try.f13) [1,1])] [(0, .pointer (some (⟨b, 0, none⟩))), (1, .int .i64 d)] w (by kernel_rfl) .nil ?_
    have o15 : (Instr.loadAt 38 (.pointer (some (⟨b, 1, none⟩)))).run Try.prog w = .ok (v) w := c_load pE38 (hM.rd 0 rfl) (cel_obj b 1) rfl
    obtain ⟨v2, w3, hr4, hM5⟩ := m_lit sT38 hM (n := 1) (parts := #[(0, .int .i64 d)]) (cs := [.int .i64 d]) (by decide) (by kernel_rfl) rfl
    have o16 : (Instr.buildSlice 38 1 #[(0, .int .i64 d)]).run Try.prog w = .ok v2 w3 := hr4
    obtain ⟨v6, w7, hr8, hM9⟩ := m_append sT38 hM5 2 rfl (hM5.rd 0 rfl) (by intro u hu; simp at hu; rcases hu with rfl <;> rfl) (by (try dsimp only); omega) (by (try dsimp only); omega) 38
    have hM10 : Mem S w0 w7 [⟨3, 1, v2, 1, [.int .i64 d]⟩, ⟨40, 2, (obj b), 1, [.int .i64 n, v]⟩, ⟨3, 1, v6, (List.length (q ++ ([d] : List Int))), (ivals .i64 (q ++ ([d] : List Int)))⟩] := hM9.cast (by simp [ivals, svals, bvals, nvals, u8s, Nat.add_assoc])
    have o17 : (Builtin.append_ #[38, 38] 38 #[v, v2]).run Try.prog w3 = .ok v6 w7 := hr8
    obtain ⟨w11, hr12, hM13⟩ := c_store (u := v6) (by kernel_rfl) hM10 1 rfl (cel_obj b 1) (by decide) (rd_one (hM10.rd 2 rfl)) (rd_cells (hM10.rd 2 rfl))
    have hM14 : Mem S w0 w11 [⟨3, 1, v2, 1, [.int .i64 d]⟩, ⟨40, 2, (obj b), 1, [.int .i64 n, v6]⟩, ⟨3, 1, v6, (List.length (q ++ ([d] : List Int))), (ivals .i64 (q ++ ([d] : List Int)))⟩] := hM13
    have o18 : (Instr.storeAt 38 (.pointer (some (⟨b, 1, none⟩))) (v6)).run Try.prog w7 = .ok () w11 ∧ undef = undef := ⟨hr12, rfl⟩
    have hM19 : Mem S w0 w11 [⟨40, 2, (obj b), 1, [.int .i64 n, v6]⟩, ⟨3, 1, v6, (List.length (q ++ ([d] : List Int))), (ivals .i64 (q ++ ([d] : List Int)))⟩] := hM14.sub (List.Sublist.cons _ (List.Sublist.cons_cons _ (List.Sublist.cons_cons _ (List.Sublist.refl _))))
    refine GoS.run [4] [.n, .n, .n, .n, .n, .n, .h (v), .n, .u (v2) (w3), .u (v6) (w7), .n, .n, .u (undef) (w11), .n, .n, .n, .n, .n] _ [.code (csub (cd Try.f13) [1,1,1,1])] [(4, .bool true)] w11 (by kernel_rfl) (.cons o15 (.cons o16 (.cons o17 (.cons o18 .nil)))) ?_
    refine GoS.ret (fn := Try.f13) (v := (.bool true)) Try.func13 (by kernel_rfl) ?_
    rw [hR]
    exact ⟨ret_bool (p_nf2 h1).symm, _, hM19.cast (by rw [killR_yes (p_nf2 h1)])⟩

set_option maxHeartbeats 400000 in
theorem rcopy_c (b : Nat) (v : Value) (n : Int) (q : List Int) (hg : q.length ≤ 2097152) (w : World) (k1 : Rd w 2 (obj b) 1 [.int .i64 n, v]) (k2 : Rd w 1 v (List.length q) (ivals .i64 q)) :
    Calls Try.prog 11 #[.pointer (some (⟨b, 0, none⟩))] w (fun e w' => ∃ b v, e = .returned (.pointer (some ⟨b, 0, none⟩)) ∧ Mem [] w w' [⟨40, 2, (obj b), 1, [.int .i64 n, v]⟩, ⟨3, 1, v, (List.length q), (ivals .i64 q)⟩]) := by
  obtain ⟨R, hR⟩ : ∃ R : Ending → World → Prop, R = (fun e w' => ∃ b v, e = .returned (.pointer (some ⟨b, 0, none⟩)) ∧ Mem [] w w' [⟨40, 2, (obj b), 1, [.int .i64 n, v]⟩, ⟨3, 1, v, (List.length q), (ivals .i64 q)⟩]) := ⟨_, rfl⟩
  rw [← hR]
  refine GoS.enter (n := 15) Try.func11 (by kernel_rfl) rfl [(0, .pointer (some (⟨b, 0, none⟩)))] (by kernel_rfl) (by kernel_rfl) ?_
  have hM0 := Mem.start w
  refine GoS.run [0] [.n, .n, .n, .n, .n] _ [.code (csub (cd Try.f11) [1,0]), .code (csub (cd Try.f11) [1,1])] [(0, .pointer (some (⟨b, 0, none⟩)))] w (by kernel_rfl) .nil ?_
  obtain ⟨w1, hw2⟩ : ∃ w_, (w).drewN 1 = w_ := ⟨_, rfl⟩
  refine GoS.held (fun W_ => Mem [] w W_ []) [] 1 (by kernel_rfl) (by kernel_rfl) 13 (by kernel_rfl) ?_
  rw [hw2]
  have hM3 : Mem [] w w1 [] := hw2 ▸ hM0.ext (Kept.drewN _ _ 1)
  have hS4 : Mem [] w w1 [] := hM3.sub (List.Sublist.refl _)
  refine GoH.takeV 0 (.pointer (some (⟨b, 0, none⟩))) (.pointer (some (⟨b, 0, none⟩))) (some 3) (fun W_ => by kernel_rfl) rfl hS4 ?_
  refine GoH.takeV 1 (.pointer (some (⟨b, 0, none⟩))) (.pointer (some (⟨b, 0, none⟩))) (some 4) (fun W_ => by kernel_rfl) rfl hS4 ?_
  refine GoH.takeV 2 (.pointer (some (⟨b, 0, none⟩))) (.pointer (some (⟨b, 0, none⟩))) (some 5) (fun W_ => by kernel_rfl) rfl hS4 ?_
  refine GoH.takeF 3 (.int .i64 n) (fun W_ => (Instr.loadAt 3 (.pointer (some (⟨b, 0, none⟩)))).run Try.prog W_ = .ok (.int .i64 n) W_) (some 6) (fun W_ => by kernel_rfl) (fun W_ hW_ => c_load pE3 (k1.kept0 hW_.kept) (cel_obj b 0) rfl) hS4 ?_
  refine GoH.takeV 5 (.pointer (some (⟨b, 0, none⟩))) (.pointer (some (⟨b, 0, none⟩))) (some 8) (fun W_ => by kernel_rfl) rfl hS4 ?_
  refine GoH.takeV 6 (.pointer (some (⟨b, 0, none⟩))) (.pointer (some (⟨b, 0, none⟩))) (some 9) (fun W_ => by kernel_rfl) rfl hS4 ?_
  refine GoH.takeV 7 (.pointer (some (⟨b, 1, none⟩))) (.pointer (some (⟨b, 1, none⟩))) (some 10) (fun W_ => by kernel_rfl) rfl hS4 ?_
  refine GoH.takeF 8 (v) (fun W_ => (Instr.loadAt 38 (.pointer (some (⟨b, 1, none⟩)))).run Try.prog W_ = .ok (v) W_) (some 11) (fun W_ => by kernel_rfl) (fun W_ hW_ => c_load pE38 (k1.kept0 hW_.kept) (cel_obj b 1) rfl) hS4 ?_
  obtain ⟨v5, w6, hr7, hM8⟩ := m_lit sT38 hM3 (n := 0) (parts := #[]) (cs := []) (by decide) (by kernel_rfl) rfl
  have hS9 : Mem [] w w6 [] := hM8.sub (List.Sublist.cons _ (List.Sublist.refl _))
  refine GoH.stepF 4 (v5) (w6) ((Instr.buildSlice 38 0 #[]).run Try.prog w1 = .ok v5 w6) (some 7) (by kernel_rfl) (hr7) (.inr hS9) ?_
  obtain ⟨v10, w11, hr12, hM13⟩ := m_append sT38 hM8 0 rfl (k2.kept0 hM8.kept) (ivals_one .i64 q) (by (try dsimp only); omega) (by (try dsimp only); omega) 38
  have hM14 : Mem [] w w11 [⟨3, 1, v10, (List.length q), (ivals .i64 q)⟩] := hM13.cast (by simp [ivals, svals, bvals, nvals, u8s, Nat.add_assoc])
  have hS15 : Mem [] w w11 [] := hM14.sub (List.Sublist.cons _ (List.Sublist.refl _))
  refine GoH.stepF 9 (v10) (w11) ((Builtin.append_ #[38, 38] 38 #[v5, v]).run Try.prog w6 = .ok v10 w11) (some 12) (by kernel_rfl) (hr12) (.inr hS15) ?_
  have hS16 : Mem [] w w11 [] := hM14.sub (List.Sublist.cons _ (List.Sublist.refl _))
  refine GoH.stepF 10 (.agg #[.int .i64 n, v10]) (w11) ((Instr.build 40 #[(0, .int .i64 n), (1, v10)]).run Try.prog w11 = .ok (.agg #[.int .i64 n, v10]) w11) (some 13) (by kernel_rfl) ((by obtain ⟨a0_, m0_, c0_, e0_⟩ : ∃ a m c, v10 = Value.slice a m c := rd_form (hM14.rd 0 rfl); rw [e0_]; kernel_rfl)) (.inr hS16) ?_
  obtain ⟨b17, w18, hr19, hM20⟩ := m_box (T := 40) (k := 2) (u := .agg #[.int .i64 n, v10]) rfl rfl hM14
  have hM21 : Mem [] w w18 [⟨40, 2, (obj b17), 1, [.int .i64 n, v10]⟩, ⟨3, 1, v10, (List.length q), (ivals .i64 q)⟩] := hM20
  have hS22 : Mem [] w w18 [] := hM21.sub (List.Sublist.cons _ (List.Sublist.cons _ (List.Sublist.refl _)))
  refine GoH.stepF 11 (.pointer (some (⟨b17, 0, none⟩))) (w18) ((Instr.box 40 (.agg #[.int .i64 n, v10])).run Try.prog w11 = .ok (.pointer (some (⟨b17, 0, none⟩))) w18) (some 14) (by kernel_rfl) (hr19) (.inr hS22) ?_
  refine GoH.takeV 12 (.pointer (some (⟨b17, 0, none⟩))) (.pointer (some (⟨b17, 0, none⟩))) (some 2) (fun W_ => by kernel_rfl) rfl hS22 ?_
  refine GoH.done [2] [(2, .pointer (some (⟨b17, 0, none⟩)))] (by kernel_rfl) (by kernel_rfl) ?_
  refine GoS.ret (fn := Try.f11) (v := (.pointer (some (⟨b17, 0, none⟩)))) Try.func11 (by kernel_rfl) ?_
  rw [hR]
  exact ⟨_, _, rfl, hM21⟩


end Go.Proofs.Ytiifhlhmkpcaeaa
