/-
  The walks of One and Same, of the reference.
-/
import Derived.Test.YthimiheeheaaaaaPosA
namespace Go.Proofs.Ythimiheeheaaaaa
open Go Go.Gw Go.NumP Go.LiveP Go.PackP Go.PostP Go.RowKit
set_option linter.unusedVariables false
set_option linter.unusedSimpArgs false


set_option maxHeartbeats 400000 in
theorem one_L (p q : Int × List Int) (x y : Value) {w0 : World} (hx : Rd w0 1 x p.2.length (ivals .i64 p.2)) (hy : Rd w0 1 y q.2.length (ivals .i64 q.2)) (hd : p.1 = q.1) (hpq : p.2.length = q.2.length) (b1 b2 : Nat) (R : Ending → World → Prop) (hR : R = (fun e w' => e = .returned (.bool (decide (p = q))) ∧ Mem [] w0 w' [])) : ∀ (N : Nat) (k : Nat) (w : World) (hk : k ≤ p.2.length) (hw : ∀ j, j < k → p.2.getD j 0 = q.2.getD j 0) (hM : Mem [] w0 w [⟨40, 2, (obj b1), 1, [.int .i64 (p.1), x]⟩, ⟨40, 2, (obj b2), 1, [.int .i64 (q.1), y]⟩]) (hN : p.2.length - k < N), GoS Try.prog 24 R 38 [.code (csub (cd Try.f24) [1,1,0,1,0,0]), .inLoop (csub (cd Try.f24) [1,1,0,1,0,0]), .inBlock 0, .code (csub (cd Try.f24) [1,1,1])] [(2, .pointer (some (⟨b1, 0, none⟩))), (3, .pointer (some (⟨b2, 0, none⟩))), (5, .int .i64 ((k : Nat) : Int))] w := by
  intro N
  induction N with
  | zero => intro k w hk hw hM hN; exact absurd hN (Nat.not_lt_zero _)
  | succ N ih =>
    intro k w hk hw hM hN
    have hll := rd_len hx
    have hlm := rd_len hy
    simp only [maxLen] at hll hlm
    have o1 : (Instr.loadAt 38 (.pointer (some (⟨b1, 1, none⟩)))).run Try.prog w = .ok (x) w := c_load pE38 (hM.rd 0 rfl) (cel_obj b1 1) rfl
    have o2 : (Builtin.len_ #[38] 3 #[x]).run Try.prog w = .ok (.int .i64 (((List.length (p.2)) : Nat) : Int)) w := f_slen sT38 (hx.kept0 hM.kept) 3 _
    refine GoS.run [2, 3, 5, 24] [.n, .n, .n, .n, .n, .h (x), .h (.int .i64 (((List.length (p.2)) : Nat) : Int)), .n, .n] _ [.code (csub (cd Try.f24) [1,1,0,1,0,0,0,1]), .code (csub (cd Try.f24) [1,1,0,1,0,0,1]), .inLoop (csub (cd Try.f24) [1,1,0,1,0,0]), .inBlock 0, .code (csub (cd Try.f24) [1,1,1])] [(2, .pointer (some (⟨b1, 0, none⟩))), (3, .pointer (some (⟨b2, 0, none⟩))), (5, .int .i64 ((k : Nat) : Int)), (24, .bool (decide (((k : Nat) : Int) < (((List.length (p.2)) : Nat) : Int))))] w (by kernel_rfl) (.cons o1 (.cons o2 .nil)) ?_
    refine GoS.cond (decide (((k : Nat) : Int) < (((List.length (p.2)) : Nat) : Int))) [.code (csub (cd Try.f24) [1,1,0,1,0,0,0,1,0]), .code (csub (cd Try.f24) [1,1,0,1,0,0,1]), .inLoop (csub (cd Try.f24) [1,1,0,1,0,0]), .inBlock 0, .code (csub (cd Try.f24) [1,1,1])] [.code (csub (cd Try.f24) [1,1,0,1,0,0,0,1,1]), .code (csub (cd Try.f24) [1,1,0,1,0,0,1]), .inLoop (csub (cd Try.f24) [1,1,0,1,0,0]), .inBlock 0, .code (csub (cd Try.f24) [1,1,1])] (by kernel_rfl) (fun h3 => ?_) (fun h3 => ?_)
    ·
      have h3p : ((k : Nat) : Int) < (((List.length (p.2)) : Nat) : Int) := of_decide_eq_true h3
      refine GoS.run [2, 3, 5] [.n] _ [.code (csub (cd Try.f24) [1,1,0,1,0,0,1]), .inLoop (csub (cd Try.f24) [1,1,0,1,0,0]), .inBlock 0, .code (csub (cd Try.f24) [1,1,1])] [(2, .pointer (some (⟨b1, 0, none⟩))), (3, .pointer (some (⟨b2, 0, none⟩))), (5, .int .i64 ((k : Nat) : Int))] w (by kernel_rfl) .nil ?_
      refine GoS.run [2, 3, 5] [.n, .n, .n] _ [.code (csub (cd Try.f24) [1,1,0,1,0,0,1,0,0,0]), .code (csub (cd Try.f24) [1,1,0,1,0,0,1,0,0,1]), .inBlock 1, .code (csub (cd Try.f24) [1,1,0,1,0,0,1,1]), .inLoop (csub (cd Try.f24) [1,1,0,1,0,0]), .inBlock 0, .code (csub (cd Try.f24) [1,1,1])] [(2, .pointer (some (⟨b1, 0, none⟩))), (3, .pointer (some (⟨b2, 0, none⟩))), (5, .int .i64 ((k : Nat) : Int))] w (by kernel_rfl) .nil ?_
      obtain ⟨p4, hp5, hq6⟩ := rd_at (i := ((k : Nat) : Int)) sT38 (hx.kept0 hM.kept) k (by omega) (by first | omega | (dsimp only; omega))
      obtain ⟨p7, hp8, hq9⟩ := rd_at (i := ((k : Nat) : Int)) sT38 (hy.kept0 hM.kept) k (by omega) (by first | omega | (dsimp only; omega))
      refine GoS.drawC (fun W_ => Kept [] w W_) 6 (by kernel_rfl) [2, 3, 5, 37] [.u (.pointer (some (⟨b1, 1, none⟩))) w, .h (x), .u (.int .i64 ((k : Nat) : Int)) w, .h (.pointer (some p4)), .h (.int .i64 (List.getD (p.2) k 0)), .u (.pointer (some (⟨b2, 1, none⟩))) w, .h (y), .u (.int .i64 ((k : Nat) : Int)) w, .h (.pointer (some p7)), .h (.int .i64 (List.getD (q.2) k 0)), .u (.bool ((List.getD (p.2) k 0) != (List.getD (q.2) k 0))) w] (fun W_ => [(Instr.loadAt 38 (.pointer (some (⟨b1, 1, none⟩)))).run Try.prog W_ = .ok (x) W_, (Instr.indexAt 38 (x) (.int .i64 ((k : Nat) : Int))).run Try.prog W_ = .ok (.pointer (some p4)) W_, (Instr.loadAt 3 (.pointer (some p4))).run Try.prog W_ = .ok (.int .i64 (List.getD (p.2) k 0)) W_, (Instr.loadAt 38 (.pointer (some (⟨b2, 1, none⟩)))).run Try.prog W_ = .ok (y) W_, (Instr.indexAt 38 (y) (.int .i64 ((k : Nat) : Int))).run Try.prog W_ = .ok (.pointer (some p7)) W_, (Instr.loadAt 3 (.pointer (some p7))).run Try.prog W_ = .ok (.int .i64 (List.getD (q.2) k 0)) W_]) [(.pointer (some (⟨b1, 1, none⟩)), .pointer (some (⟨b1, 1, none⟩))), (.int .i64 ((k : Nat) : Int), .int .i64 ((k : Nat) : Int)), (.pointer (some (⟨b2, 1, none⟩)), .pointer (some (⟨b2, 1, none⟩))), (.int .i64 ((k : Nat) : Int), .int .i64 ((k : Nat) : Int)), (.bool ((List.getD (p.2) k 0) != (List.getD (q.2) k 0)), .bool ((List.getD (p.2) k 0) != (List.getD (q.2) k 0)))] [(2, .pointer (some (⟨b1, 0, none⟩))), (3, .pointer (some (⟨b2, 0, none⟩))), (5, .int .i64 ((k : Nat) : Int)), (37, .bool ((List.getD (p.2) k 0) != (List.getD (q.2) k 0)))] (by kernel_rfl) (by kernel_rfl) ([(37, .bool ((List.getD (p.2) k 0) != (List.getD (q.2) k 0))), (36, .int .i64 (List.getD (q.2) k 0)), (35, .pointer (some p7)), (34, .int .i64 ((k : Nat) : Int)), (33, y), (32, .pointer (some (⟨b2, 1, none⟩))), (31, .int .i64 (List.getD (p.2) k 0)), (30, .pointer (some p4)), (29, .int .i64 ((k : Nat) : Int)), (28, x), (27, .pointer (some (⟨b1, 1, none⟩)))] ++ [(2, .pointer (some (⟨b1, 0, none⟩))), (3, .pointer (some (⟨b2, 0, none⟩))), (5, .int .i64 ((k : Nat) : Int))]) (fun W_ => by kernel_rfl) (by kernel_rfl) (.cons rfl (.cons rfl (.cons rfl (.cons rfl (.cons rfl Obs.nil))))) (Kept.drewN _ _ 1) (fun W_ hW_ => (.cons (c_load pE38 ((hM.rd 0 rfl).kept0 hW_) (cel_obj b1 1) rfl) (.cons (hq6 _ _) (.cons (at_load pE3 ((hx.kept0 hM.kept).kept0 hW_) hp5 (ivals_at (by first | omega | (dsimp only; omega)))) (.cons (c_load pE38 ((hM.rd 1 rfl).kept0 hW_) (cel_obj b2 1) rfl) (.cons (hq9 _ _) (.cons (at_load pE3 ((hy.kept0 hM.kept).kept0 hW_) hp8 (ivals_at (by first | omega | (dsimp only; omega)))) Obs.nil))))))) (fun w10 hw11 => ?_)
      have hM12 := hM.ext hw11
      refine GoS.cond ((List.getD (p.2) k 0) != (List.getD (q.2) k 0)) [.code (csub (cd Try.f24) [1,1,0,1,0,0,1,0,0,1,0]), .inBlock 1, .code (csub (cd Try.f24) [1,1,0,1,0,0,1,1]), .inLoop (csub (cd Try.f24) [1,1,0,1,0,0]), .inBlock 0, .code (csub (cd Try.f24) [1,1,1])] [.code (csub (cd Try.f24) [1,1,0,1,0,0,1,0,0,1,1]), .inBlock 1, .code (csub (cd Try.f24) [1,1,0,1,0,0,1,1]), .inLoop (csub (cd Try.f24) [1,1,0,1,0,0]), .inBlock 0, .code (csub (cd Try.f24) [1,1,1])] (by kernel_rfl) (fun h13 => ?_) (fun h13 => ?_)
      ·
        have h13p : ¬ ((List.getD (p.2) k 0) = (List.getD (q.2) k 0)) := bne_iff_ne.1 h13
        refine GoS.run [4] [.n, .n, .n, .n] _ [.code (csub (cd Try.f24) [1,1,0,1,0,0,1,0,0,1,0,1]), .inBlock 1, .code (csub (cd Try.f24) [1,1,0,1,0,0,1,1]), .inLoop (csub (cd Try.f24) [1,1,0,1,0,0]), .inBlock 0, .code (csub (cd Try.f24) [1,1,1])] [(4, .bool false)] w10 (by kernel_rfl) .nil ?_
        refine GoS.ret (fn := Try.f24) (v := (.bool false)) Try.func24 (by kernel_rfl) ?_
        rw [hR]
        exact ⟨ret_bool (decide_eq_false (pr_ne2 (lst_ne h13p))).symm, hM12.sub (List.nil_sublist _)⟩
      ·
        have h13p : (List.getD (p.2) k 0) = (List.getD (q.2) k 0) := p_eq h13
        refine GoS.run [2, 3, 5] [.n] _ [.inBlock 1, .code (csub (cd Try.f24) [1,1,0,1,0,0,1,1]), .inLoop (csub (cd Try.f24) [1,1,0,1,0,0]), .inBlock 0, .code (csub (cd Try.f24) [1,1,1])] [(2, .pointer (some (⟨b1, 0, none⟩))), (3, .pointer (some (⟨b2, 0, none⟩))), (5, .int .i64 ((k : Nat) : Int))] w10 (by kernel_rfl) .nil ?_
        have o14 : (binOp .add 3 (.int .i64 ((k : Nat) : Int)) (.int .i64 1)).run Try.prog w10 = .ok (.int .i64 (((k + 1) : Nat) : Int)) w10 := f_add (by rw [show ((k : Nat) : Int) + 1 = (((k + 1) : Nat) : Int) by omega]; exact IntWalk.i64_in _ (by omega))
        refine GoS.run [2, 3, 5] [.n, .n, .n, .h (.int .i64 (((k + 1) : Nat) : Int)), .n, .n, .n] _ [.code (csub (cd Try.f24) [1,1,0,1,0,0]), .inLoop (csub (cd Try.f24) [1,1,0,1,0,0]), .inBlock 0, .code (csub (cd Try.f24) [1,1,1])] [(2, .pointer (some (⟨b1, 0, none⟩))), (3, .pointer (some (⟨b2, 0, none⟩))), (5, .int .i64 (((k + 1) : Nat) : Int))] w10 (by kernel_rfl) (.cons o14 .nil) ?_
        exact ih (k + 1) _ (by omega) (fun j hj => by rcases Nat.lt_succ_iff_lt_or_eq.1 hj with h | h; exact hw j h; subst h; exact h13p) hM12 (by omega)
    ·
      have h3p : ¬ (((k : Nat) : Int) < (((List.length (p.2)) : Nat) : Int)) := of_decide_eq_false h3
      refine GoS.run [4] [.n, .n, .n, .n, .n] _ [.code (csub (cd Try.f24) [1,1,1,1])] [(4, .bool true)] w (by kernel_rfl) .nil ?_
      refine GoS.ret (fn := Try.f24) (v := (.bool true)) Try.func24 (by kernel_rfl) ?_
      rw [hR]
      have e := lst_ext hpq (by intro j hj; exact hw j (by omega))
      exact ⟨ret_bool (decide_eq_true (pr_eq hd e)).symm, hM.sub (List.nil_sublist _)⟩

set_option maxHeartbeats 400000 in
theorem one_c (p q : Int × List Int) (x y : Value) {w : World} (hx : Rd w 1 x p.2.length (ivals .i64 p.2)) (hy : Rd w 1 y q.2.length (ivals .i64 q.2)) :
    Calls Try.prog 24 #[.agg #[.int .i64 (p.1), x], .agg #[.int .i64 (q.1), y]] w (fun e w' => e = .returned (.bool (decide (p = q))) ∧ Mem [] w w' []) := by
  have hll := rd_len hx
  have hlm := rd_len hy
  simp only [maxLen] at hll hlm
  obtain ⟨R, hR⟩ : ∃ R : Ending → World → Prop, R = (fun e w' => e = .returned (.bool (decide (p = q))) ∧ Mem [] w w' []) := ⟨_, rfl⟩
  rw [← hR]
  refine GoS.enter (n := 38) Try.func24 (by kernel_rfl) rfl [(0, .agg #[.int .i64 (p.1), x]), (1, .agg #[.int .i64 (q.1), y])] (by kernel_rfl) (by kernel_rfl) ?_
  have hM0 := Mem.start w
  obtain ⟨b1, w2, hr3, hM4⟩ := m_box (T := 40) (k := 2) (u := .agg #[.int .i64 (p.1), x]) rfl rfl hM0
  have hM5 : Mem [] w w2 [⟨40, 2, (obj b1), 1, [.int .i64 (p.1), x]⟩] := hM4
  have o11 : (Instr.box 40 (.agg #[.int .i64 (p.1), x])).run Try.prog w = .ok (.pointer (some (⟨b1, 0, none⟩))) w2 := hr3
  obtain ⟨b6, w7, hr8, hM9⟩ := m_box (T := 40) (k := 2) (u := .agg #[.int .i64 (q.1), y]) rfl rfl hM5
  have hM10 : Mem [] w w7 [⟨40, 2, (obj b6), 1, [.int .i64 (q.1), y]⟩, ⟨40, 2, (obj b1), 1, [.int .i64 (p.1), x]⟩] := hM9
  have o12 : (Instr.box 40 (.agg #[.int .i64 (q.1), y])).run Try.prog w2 = .ok (.pointer (some (⟨b6, 0, none⟩))) w7 := hr8
  have o13 : (Instr.loadAt 3 (.pointer (some (⟨b1, 0, none⟩)))).run Try.prog w7 = .ok (.int .i64 (p.1)) w7 := c_load pE3 (hM10.rd 1 rfl) (cel_obj b1 0) rfl
  have o14 : (Instr.loadAt 3 (.pointer (some (⟨b6, 0, none⟩)))).run Try.prog w7 = .ok (.int .i64 (q.1)) w7 := c_load pE3 (hM10.rd 0 rfl) (cel_obj b6 0) rfl
  refine GoS.run [2, 3, 11] [.n, .n, .u (.pointer (some (⟨b1, 0, none⟩))) (w2), .u (.pointer (some (⟨b6, 0, none⟩))) (w7), .n, .n, .n, .n, .n, .n, .h (.int .i64 (p.1)), .n, .h (.int .i64 (q.1)), .n, .n] _ [.inRegion (cops (csub (cd Try.f24) [1,0,0])) [6,7,8,9,10,11,12,13], .code (csub (cd Try.f24) [1,0,1]), .code (csub (cd Try.f24) [1,1])] [(2, .pointer (some (⟨b1, 0, none⟩))), (3, .pointer (some (⟨b6, 0, none⟩))), (11, .bool (p.1 != q.1))] w7 (by kernel_rfl) (.cons o11 (.cons o12 (.cons o13 (.cons o14 .nil)))) ?_
  refine GoS.fork 11 (p.1 != q.1) (by kernel_rfl) (fun h15 => ?_) (fun h15 => ?_)
  ·
    have h15p : ¬ (p.1 = q.1) := bne_iff_ne.1 h15
    refine GoS.run [2, 3, 19] [.n, .n, .n, .n, .n, .n, .n, .n] _ [.inRegion (cops (csub (cd Try.f24) [1,0,0])) [], .code (csub (cd Try.f24) [1,0,1]), .code (csub (cd Try.f24) [1,1])] [(2, .pointer (some (⟨b1, 0, none⟩))), (3, .pointer (some (⟨b6, 0, none⟩))), (19, .bool true)] w7 (by kernel_rfl) .nil ?_
    have hM20 : Mem [] w w7 [] := hM10.sub (List.Sublist.cons _ (List.Sublist.cons _ (List.Sublist.refl _)))
    refine GoS.run [4] [.n, .n, .n, .n, .n, .n] _ [.code (csub (cd Try.f24) [1,0,1,0,1]), .code (csub (cd Try.f24) [1,1])] [(4, .bool false)] w7 (by kernel_rfl) .nil ?_
    refine GoS.ret (fn := Try.f24) (v := (.bool false)) Try.func24 (by kernel_rfl) ?_
    rw [hR]
    exact ⟨ret_bool (decide_eq_false (pr_ne1 h15p)).symm, hM20.sub (List.nil_sublist _)⟩
  ·
    have h15p : p.1 = q.1 := p_eq h15
    have o16 : (Instr.loadAt 38 (.pointer (some (⟨b1, 1, none⟩)))).run Try.prog w7 = .ok (x) w7 := c_load pE38 (hM10.rd 1 rfl) (cel_obj b1 1) rfl
    have o17 : (Builtin.len_ #[38] 3 #[x]).run Try.prog w7 = .ok (.int .i64 (((List.length (p.2)) : Nat) : Int)) w7 := f_slen sT38 (hx.kept0 hM10.kept) 3 _
    have o18 : (Instr.loadAt 38 (.pointer (some (⟨b6, 1, none⟩)))).run Try.prog w7 = .ok (y) w7 := c_load pE38 (hM10.rd 0 rfl) (cel_obj b6 1) rfl
    have o19 : (Builtin.len_ #[38] 3 #[y]).run Try.prog w7 = .ok (.int .i64 (((List.length (q.2)) : Nat) : Int)) w7 := f_slen sT38 (hy.kept0 hM10.kept) 3 _
    refine GoS.run [2, 3, 19] [.n, .h (x), .h (.int .i64 (((List.length (p.2)) : Nat) : Int)), .n, .h (y), .h (.int .i64 (((List.length (q.2)) : Nat) : Int)), .n, .n] _ [.inRegion (cops (csub (cd Try.f24) [1,0,0])) [], .code (csub (cd Try.f24) [1,0,1]), .code (csub (cd Try.f24) [1,1])] [(2, .pointer (some (⟨b1, 0, none⟩))), (3, .pointer (some (⟨b6, 0, none⟩))), (19, .bool ((((List.length (p.2)) : Nat) : Int) != (((List.length (q.2)) : Nat) : Int)))] w7 (by kernel_rfl) (.cons o16 (.cons o17 (.cons o18 (.cons o19 .nil)))) ?_
    refine GoS.run [2, 3, 19] [.n] _ [.code (csub (cd Try.f24) [1,0,1]), .code (csub (cd Try.f24) [1,1])] [(2, .pointer (some (⟨b1, 0, none⟩))), (3, .pointer (some (⟨b6, 0, none⟩))), (19, .bool ((((List.length (p.2)) : Nat) : Int) != (((List.length (q.2)) : Nat) : Int)))] w7 (by kernel_rfl) .nil ?_
    refine GoS.cond ((((List.length (p.2)) : Nat) : Int) != (((List.length (q.2)) : Nat) : Int)) [.code (csub (cd Try.f24) [1,0,1,0]), .code (csub (cd Try.f24) [1,1])] [.code (csub (cd Try.f24) [1,0,1,1]), .code (csub (cd Try.f24) [1,1])] (by kernel_rfl) (fun h21 => ?_) (fun h21 => ?_)
    ·
      have h21p : ¬ ((((List.length (p.2)) : Nat) : Int) = (((List.length (q.2)) : Nat) : Int)) := bne_iff_ne.1 h21
      have hM22 : Mem [] w w7 [] := hM10.sub (List.Sublist.cons _ (List.Sublist.cons _ (List.Sublist.refl _)))
      refine GoS.run [4] [.n, .n, .n, .n] _ [.code (csub (cd Try.f24) [1,0,1,0,1]), .code (csub (cd Try.f24) [1,1])] [(4, .bool false)] w7 (by kernel_rfl) .nil ?_
      refine GoS.ret (fn := Try.f24) (v := (.bool false)) Try.func24 (by kernel_rfl) ?_
      rw [hR]
      exact ⟨ret_bool (decide_eq_false (pr_ne2 (fun z => h21p (by rw [z])))).symm, hM22.sub (List.nil_sublist _)⟩
    ·
      have h21p : (((List.length (p.2)) : Nat) : Int) = (((List.length (q.2)) : Nat) : Int) := p_eq h21
      refine GoS.run [2, 3] [.n] _ [.code (csub (cd Try.f24) [1,1])] [(2, .pointer (some (⟨b1, 0, none⟩))), (3, .pointer (some (⟨b6, 0, none⟩)))] w7 (by kernel_rfl) .nil ?_
      refine GoS.run [2, 3, 5] [.n, .n, .n, .n, .n, .n, .n] _ [.code (csub (cd Try.f24) [1,1,0,1,0,0]), .inLoop (csub (cd Try.f24) [1,1,0,1,0,0]), .inBlock 0, .code (csub (cd Try.f24) [1,1,1])] [(2, .pointer (some (⟨b1, 0, none⟩))), (3, .pointer (some (⟨b6, 0, none⟩))), (5, .int .i64 0)] w7 (by kernel_rfl) .nil ?_
      have hM23 : Mem [] w w7 [⟨40, 2, (obj b1), 1, [.int .i64 (p.1), x]⟩, ⟨40, 2, (obj b6), 1, [.int .i64 (q.1), y]⟩] := hM10.perm ((List.Perm.cons _ (List.Perm.refl _)).trans (List.Perm.swap _ _ _))
      exact one_L p q x y hx hy (by omega) (by omega) b1 b6 R hR (p.2.length + 1) 0 w7 (by omega) (by intro j hj; omega) hM23 (by omega)

theorem one_yes (p q : Int × List Int) (x y : Value) {w : World} (hx : Rd w 1 x p.2.length (ivals .i64 p.2)) (hy : Rd w 1 y q.2.length (ivals .i64 q.2)) (h : p = q) :
    Calls Try.prog 24 #[.agg #[.int .i64 (p.1), x], .agg #[.int .i64 (q.1), y]] w (fun e w' => e = .returned (.bool true) ∧ Mem [] w w' []) := by
  have := one_c p q x y hx hy
  rwa [decide_eq_true h] at this

set_option maxHeartbeats 400000 in
theorem same_L {w0 : World} (u : Value) (L : PS) (X : Nat → Value) (hu : Rd w0 2 u L.length (pcells L X)) (hX : ∀ j, j < L.length → Rd w0 1 (X j) (L.getD j zp).2.length (ivals .i64 (L.getD j zp).2)) (u2 : Value) (M : PS) (Y : Nat → Value) (hu2 : Rd w0 2 u2 M.length (pcells M Y)) (hY : ∀ j, j < M.length → Rd w0 1 (Y j) (M.getD j zp).2.length (ivals .i64 (M.getD j zp).2)) (hLM : L.length = M.length) (R : Ending → World → Prop) (hR : R = (fun e w' => e = .returned (.bool (decide (L = M))) ∧ Mem [] w0 w' [])) : ∀ (N : Nat) (k : Nat) (w : World) (hk : k ≤ L.length) (hw : ∀ j, j < k → L.getD j zp = M.getD j zp) (hM : Mem [] w0 w []) (hN : L.length - k < N), GoS Try.prog 16 R 27 [.code (csub (cd Try.f16) [1,1,0,1,0,0]), .inLoop (csub (cd Try.f16) [1,1,0,1,0,0]), .inBlock 0, .code (csub (cd Try.f16) [1,1,1])] [(0, u), (1, u2), (5, .int .i64 ((k : Nat) : Int))] w := by
  intro N
  induction N with
  | zero => intro k w hk hw hM hN; exact absurd hN (Nat.not_lt_zero _)
  | succ N ih =>
    intro k w hk hw hM hN
    have hLl := rd_len hu
    simp only [maxLen] at hLl
    have hMl := rd_len hu2
    simp only [maxLen] at hMl
    have o1 : (Builtin.len_ #[22] 3 #[u]).run Try.prog w = .ok (.int .i64 (((List.length L) : Nat) : Int)) w := f_slen sT22 (hu.kept0 hM.kept) 3 _
    refine GoS.run [0, 1, 5, 14] [.n, .n, .n, .n, .n, .h (.int .i64 (((List.length L) : Nat) : Int)), .n, .n] _ [.code (csub (cd Try.f16) [1,1,0,1,0,0,0,1]), .code (csub (cd Try.f16) [1,1,0,1,0,0,1]), .inLoop (csub (cd Try.f16) [1,1,0,1,0,0]), .inBlock 0, .code (csub (cd Try.f16) [1,1,1])] [(0, u), (1, u2), (5, .int .i64 ((k : Nat) : Int)), (14, .bool (decide (((k : Nat) : Int) < (((List.length L) : Nat) : Int))))] w (by kernel_rfl) (.cons o1 .nil) ?_
    refine GoS.cond (decide (((k : Nat) : Int) < (((List.length L) : Nat) : Int))) [.code (csub (cd Try.f16) [1,1,0,1,0,0,0,1,0]), .code (csub (cd Try.f16) [1,1,0,1,0,0,1]), .inLoop (csub (cd Try.f16) [1,1,0,1,0,0]), .inBlock 0, .code (csub (cd Try.f16) [1,1,1])] [.code (csub (cd Try.f16) [1,1,0,1,0,0,0,1,1]), .code (csub (cd Try.f16) [1,1,0,1,0,0,1]), .inLoop (csub (cd Try.f16) [1,1,0,1,0,0]), .inBlock 0, .code (csub (cd Try.f16) [1,1,1])] (by kernel_rfl) (fun h2 => ?_) (fun h2 => ?_)
    ·
      have h2p : ((k : Nat) : Int) < (((List.length L) : Nat) : Int) := of_decide_eq_true h2
      refine GoS.run [0, 1, 5] [.n] _ [.code (csub (cd Try.f16) [1,1,0,1,0,0,1]), .inLoop (csub (cd Try.f16) [1,1,0,1,0,0]), .inBlock 0, .code (csub (cd Try.f16) [1,1,1])] [(0, u), (1, u2), (5, .int .i64 ((k : Nat) : Int))] w (by kernel_rfl) .nil ?_
      refine GoS.run [0, 1, 5] [.n, .n, .n] _ [.code (csub (cd Try.f16) [1,1,0,1,0,0,1,0,0,0]), .code (csub (cd Try.f16) [1,1,0,1,0,0,1,0,0,1]), .inBlock 1, .code (csub (cd Try.f16) [1,1,0,1,0,0,1,1]), .inLoop (csub (cd Try.f16) [1,1,0,1,0,0]), .inBlock 0, .code (csub (cd Try.f16) [1,1,1])] [(0, u), (1, u2), (5, .int .i64 ((k : Nat) : Int))] w (by kernel_rfl) .nil ?_
      obtain ⟨p3, hp4, hq5⟩ := rd_at (i := ((k : Nat) : Int)) sT22 (hu.kept0 hM.kept) k (by omega) (by first | omega | (dsimp only; omega))
      obtain ⟨p6, hp7, hq8⟩ := rd_at (i := ((k : Nat) : Int)) sT22 (hu2.kept0 hM.kept) k (by omega) (by first | omega | (dsimp only; omega))
      refine GoS.drawC (fun W_ => Kept [] w W_) 6 (by kernel_rfl) [0, 1, 5, 26] [.u (u) w, .u (.int .i64 ((k : Nat) : Int)) w, .h (.pointer (some p3)), .h (.agg #[.int .i64 ((List.getD L k zp).1), (X k)]), .u (u2) w, .u (.int .i64 ((k : Nat) : Int)) w, .h (.pointer (some p6)), .h (.agg #[.int .i64 ((List.getD M k zp).1), (Y k)]), .h (.bool (decide ((List.getD L k zp) = (List.getD M k zp)))), .u (.bool (!(decide ((List.getD L k zp) = (List.getD M k zp))))) w] (fun W_ => [(Instr.indexAt 22 (u) (.int .i64 ((k : Nat) : Int))).run Try.prog W_ = .ok (.pointer (some p3)) W_, (Instr.loadAt 40 (.pointer (some p3))).run Try.prog W_ = .ok (.agg #[.int .i64 ((List.getD L k zp).1), (X k)]) W_, (Instr.indexAt 22 (u2) (.int .i64 ((k : Nat) : Int))).run Try.prog W_ = .ok (.pointer (some p6)) W_, (Instr.loadAt 40 (.pointer (some p6))).run Try.prog W_ = .ok (.agg #[.int .i64 ((List.getD M k zp).1), (Y k)]) W_, (W_ = W_) ∧ Calls Try.prog 24 #[.agg #[.int .i64 ((List.getD L k zp).1), (X k)], .agg #[.int .i64 ((List.getD M k zp).1), (Y k)]] W_ (fun e W2 => e = .returned (.bool (decide ((List.getD L k zp) = (List.getD M k zp)))) ∧ (fun W_ => Kept [] w W_) W2)]) [(u, u), (.int .i64 ((k : Nat) : Int), .int .i64 ((k : Nat) : Int)), (u2, u2), (.int .i64 ((k : Nat) : Int), .int .i64 ((k : Nat) : Int)), (.bool (!(decide ((List.getD L k zp) = (List.getD M k zp)))), .bool (!(decide ((List.getD L k zp) = (List.getD M k zp)))))] [(0, u), (1, u2), (5, .int .i64 ((k : Nat) : Int)), (26, .bool (!(decide ((List.getD L k zp) = (List.getD M k zp)))))] (by kernel_rfl) (by kernel_rfl) ([(26, .bool (!(decide ((List.getD L k zp) = (List.getD M k zp))))), (25, .bool (decide ((List.getD L k zp) = (List.getD M k zp)))), (24, .agg #[.int .i64 ((List.getD M k zp).1), (Y k)]), (23, .pointer (some p6)), (22, .int .i64 ((k : Nat) : Int)), (21, u2), (20, .agg #[.int .i64 ((List.getD L k zp).1), (X k)]), (19, .pointer (some p3)), (18, .int .i64 ((k : Nat) : Int)), (17, u)] ++ [(0, u), (1, u2), (5, .int .i64 ((k : Nat) : Int))]) (fun W_ => by kernel_rfl) (by kernel_rfl) (.cons rfl (.cons rfl (.cons rfl (.cons rfl (.cons rfl Obs.nil))))) (Kept.drewN _ _ 1) (fun W_ hW_ => (.cons (hq5 _ _) (.cons (p_loads aE40 ((hu.kept0 hM.kept).kept0 hW_) hp4 (by first | omega | (dsimp only; omega))) (.cons (hq8 _ _) (.cons (p_loads aE40 ((hu2.kept0 hM.kept).kept0 hW_) hp7 (by first | omega | (dsimp only; omega))) (.cons (⟨rfl, Calls.mono (one_c (List.getD L k zp) (List.getD M k zp) (X k) (Y k) (((hX k (by omega)).kept0 hM.kept).kept0 hW_) (((hY k (by omega)).kept0 hM.kept).kept0 hW_)) (fun e W2 h => ⟨h.1, Kept.trans hW_ h.2.kept⟩)⟩) Obs.nil)))))) (fun w9 hw10 => ?_)
      have hM11 := hM.ext hw10
      refine GoS.cond (!(decide ((List.getD L k zp) = (List.getD M k zp)))) [.code (csub (cd Try.f16) [1,1,0,1,0,0,1,0,0,1,0]), .inBlock 1, .code (csub (cd Try.f16) [1,1,0,1,0,0,1,1]), .inLoop (csub (cd Try.f16) [1,1,0,1,0,0]), .inBlock 0, .code (csub (cd Try.f16) [1,1,1])] [.code (csub (cd Try.f16) [1,1,0,1,0,0,1,0,0,1,1]), .inBlock 1, .code (csub (cd Try.f16) [1,1,0,1,0,0,1,1]), .inLoop (csub (cd Try.f16) [1,1,0,1,0,0]), .inBlock 0, .code (csub (cd Try.f16) [1,1,1])] (by kernel_rfl) (fun h12 => ?_) (fun h12 => ?_)
      ·
        have h12p : ¬ ((List.getD L k zp) = (List.getD M k zp)) := of_decide_eq_false (p_nf h12)
        refine GoS.run [4] [.n, .n, .n, .n] _ [.code (csub (cd Try.f16) [1,1,0,1,0,0,1,0,0,1,0,1]), .inBlock 1, .code (csub (cd Try.f16) [1,1,0,1,0,0,1,1]), .inLoop (csub (cd Try.f16) [1,1,0,1,0,0]), .inBlock 0, .code (csub (cd Try.f16) [1,1,1])] [(4, .bool false)] w9 (by kernel_rfl) .nil ?_
        refine GoS.ret (fn := Try.f16) (v := (.bool false)) Try.func16 (by kernel_rfl) ?_
        rw [hR]
        exact ⟨ret_bool (decide_eq_false (ps_ne h12p)).symm, hM11⟩
      ·
        have h12p : (List.getD L k zp) = (List.getD M k zp) := of_decide_eq_true (p_nt h12)
        refine GoS.run [0, 1, 5] [.n] _ [.inBlock 1, .code (csub (cd Try.f16) [1,1,0,1,0,0,1,1]), .inLoop (csub (cd Try.f16) [1,1,0,1,0,0]), .inBlock 0, .code (csub (cd Try.f16) [1,1,1])] [(0, u), (1, u2), (5, .int .i64 ((k : Nat) : Int))] w9 (by kernel_rfl) .nil ?_
        have o13 : (binOp .add 3 (.int .i64 ((k : Nat) : Int)) (.int .i64 1)).run Try.prog w9 = .ok (.int .i64 (((k + 1) : Nat) : Int)) w9 := f_add (by rw [show ((k : Nat) : Int) + 1 = (((k + 1) : Nat) : Int) by omega]; exact IntWalk.i64_in _ (by omega))
        refine GoS.run [0, 1, 5] [.n, .n, .n, .h (.int .i64 (((k + 1) : Nat) : Int)), .n, .n, .n] _ [.code (csub (cd Try.f16) [1,1,0,1,0,0]), .inLoop (csub (cd Try.f16) [1,1,0,1,0,0]), .inBlock 0, .code (csub (cd Try.f16) [1,1,1])] [(0, u), (1, u2), (5, .int .i64 (((k + 1) : Nat) : Int))] w9 (by kernel_rfl) (.cons o13 .nil) ?_
        exact ih (k + 1) _ (by omega) (fun j hj => by rcases Nat.lt_succ_iff_lt_or_eq.1 hj with h | h; exact hw j h; subst h; exact h12p) hM11 (by omega)
    ·
      have h2p : ¬ (((k : Nat) : Int) < (((List.length L) : Nat) : Int)) := of_decide_eq_false h2
      refine GoS.run [4] [.n, .n, .n, .n, .n] _ [.code (csub (cd Try.f16) [1,1,1,1])] [(4, .bool true)] w (by kernel_rfl) .nil ?_
      refine GoS.ret (fn := Try.f16) (v := (.bool true)) Try.func16 (by kernel_rfl) ?_
      rw [hR]
      have e := ps_ext hLM (by intro j hj; exact hw j (by omega))
      exact ⟨ret_bool (decide_eq_true e).symm, hM⟩

set_option maxHeartbeats 400000 in
theorem same_c {w : World} (u : Value) (L : PS) (X : Nat → Value) (hu : Rd w 2 u L.length (pcells L X)) (hX : ∀ j, j < L.length → Rd w 1 (X j) (L.getD j zp).2.length (ivals .i64 (L.getD j zp).2)) (u2 : Value) (M : PS) (Y : Nat → Value) (hu2 : Rd w 2 u2 M.length (pcells M Y)) (hY : ∀ j, j < M.length → Rd w 1 (Y j) (M.getD j zp).2.length (ivals .i64 (M.getD j zp).2)) :
    Calls Try.prog 16 #[u, u2] w (fun e w' => e = .returned (.bool (decide (L = M))) ∧ Mem [] w w' []) := by
  have hLl := rd_len hu
  simp only [maxLen] at hLl
  have hMl := rd_len hu2
  simp only [maxLen] at hMl
  obtain ⟨R, hR⟩ : ∃ R : Ending → World → Prop, R = (fun e w' => e = .returned (.bool (decide (L = M))) ∧ Mem [] w w' []) := ⟨_, rfl⟩
  rw [← hR]
  refine GoS.enter (n := 27) Try.func16 (by kernel_rfl) rfl [(0, u), (1, u2)] (by kernel_rfl) (by kernel_rfl) ?_
  have hM0 := Mem.start w
  have o1 : (Builtin.len_ #[22] 3 #[u]).run Try.prog w = .ok (.int .i64 (((List.length L) : Nat) : Int)) w := f_slen sT22 (hu.kept0 hM0.kept) 3 _
  have o2 : (Builtin.len_ #[22] 3 #[u2]).run Try.prog w = .ok (.int .i64 (((List.length M) : Nat) : Int)) w := f_slen sT22 (hu2.kept0 hM0.kept) 3 _
  refine GoS.run [0, 1, 10] [.n, .n, .n, .n, .n, .n, .n, .n, .h (.int .i64 (((List.length L) : Nat) : Int)), .n, .h (.int .i64 (((List.length M) : Nat) : Int)), .n, .n] _ [.code (csub (cd Try.f16) [1,0,1]), .code (csub (cd Try.f16) [1,1])] [(0, u), (1, u2), (10, .bool ((((List.length L) : Nat) : Int) != (((List.length M) : Nat) : Int)))] w (by kernel_rfl) (.cons o1 (.cons o2 .nil)) ?_
  refine GoS.cond ((((List.length L) : Nat) : Int) != (((List.length M) : Nat) : Int)) [.code (csub (cd Try.f16) [1,0,1,0]), .code (csub (cd Try.f16) [1,1])] [.code (csub (cd Try.f16) [1,0,1,1]), .code (csub (cd Try.f16) [1,1])] (by kernel_rfl) (fun h3 => ?_) (fun h3 => ?_)
  ·
    have h3p : ¬ ((((List.length L) : Nat) : Int) = (((List.length M) : Nat) : Int)) := bne_iff_ne.1 h3
    refine GoS.run [4] [.n, .n, .n, .n] _ [.code (csub (cd Try.f16) [1,0,1,0,1]), .code (csub (cd Try.f16) [1,1])] [(4, .bool false)] w (by kernel_rfl) .nil ?_
    refine GoS.ret (fn := Try.f16) (v := (.bool false)) Try.func16 (by kernel_rfl) ?_
    rw [hR]
    exact ⟨ret_bool (decide_eq_false (fun z => h3p (by rw [z]))).symm, hM0⟩
  ·
    have h3p : (((List.length L) : Nat) : Int) = (((List.length M) : Nat) : Int) := p_eq h3
    refine GoS.run [0, 1] [.n] _ [.code (csub (cd Try.f16) [1,1])] [(0, u), (1, u2)] w (by kernel_rfl) .nil ?_
    refine GoS.run [0, 1, 5] [.n, .n, .n, .n, .n, .n, .n] _ [.code (csub (cd Try.f16) [1,1,0,1,0,0]), .inLoop (csub (cd Try.f16) [1,1,0,1,0,0]), .inBlock 0, .code (csub (cd Try.f16) [1,1,1])] [(0, u), (1, u2), (5, .int .i64 0)] w (by kernel_rfl) .nil ?_
    exact same_L u L X hu hX u2 M Y hu2 hY (by omega) R hR (L.length + 1) 0 w (by omega) (by intro j hj; omega) hM0 (by omega)

theorem same_yes {w : World} (u : Value) (L : PS) (X : Nat → Value) (hu : Rd w 2 u L.length (pcells L X)) (hX : ∀ j, j < L.length → Rd w 1 (X j) (L.getD j zp).2.length (ivals .i64 (L.getD j zp).2)) (u2 : Value) (M : PS) (Y : Nat → Value) (hu2 : Rd w 2 u2 M.length (pcells M Y)) (hY : ∀ j, j < M.length → Rd w 1 (Y j) (M.getD j zp).2.length (ivals .i64 (M.getD j zp).2)) (h : L = M) :
    Calls Try.prog 16 #[u, u2] w (fun e w' => e = .returned (.bool true) ∧ Mem [] w w' []) := by
  have := same_c u L X hu hX u2 M Y hu2 hY
  rwa [decide_eq_true h] at this


end Go.Proofs.Ythimiheeheaaaaa
