/-
  The walk of Numbers.
-/
import Derived.Test.YtehpfcpobemjfaaPackA
namespace Go.Proofs.Ytehpfcpobemjfaa
open Go Go.Gw Go.NumP Go.LiveP Go.PackP Go.RowKit
set_option linter.unusedVariables false
set_option linter.unusedSimpArgs false


set_option maxHeartbeats 400000 in
theorem numbers_L (v u : Value) (l m : List Int) {w0 : World} (hv : Rd w0 1 v l.length (ivals .i64 l)) (hu : Rd w0 1 u m.length (ivals .i64 m)) (hlm : l.length = m.length) (R : Ending → World → Prop) (hR : R = (fun e w' => e = .returned (.bool (decide (l = m))) ∧ Dr w0 w')) : ∀ (N : Nat) (k : Nat) (w : World) (hk : k ≤ l.length) (hw : ∀ j, j < k → l.getD j 0 = m.getD j 0) (hD : Dr w0 w) (hN : l.length - k < N), GoS Try.prog 11 R 26 [.code (csub (cd Try.f11) [1,1,0,1,0,0]), .inLoop (csub (cd Try.f11) [1,1,0,1,0,0]), .inBlock 0, .code (csub (cd Try.f11) [1,1,1])] [(0, v), (1, u), (5, .int .i64 ((k : Nat) : Int))] w := by
  intro N
  induction N with
  | zero => intro k w hk hw hD hN; exact absurd hN (Nat.not_lt_zero _)
  | succ N ih =>
    intro k w hk hw hD hN
    have hlen := rd_len hv
    simp only [maxLen] at hlen
    have o1 : (Builtin.len_ #[22] 3 #[v]).run Try.prog w = .ok (.int .i64 (((List.length l) : Nat) : Int)) w := f_slen sT22 (hv.dr hD) 3 _
    refine GoS.run [0, 1, 5, 14] [.n, .n, .n, .n, .n, .h (.int .i64 (((List.length l) : Nat) : Int)), .n, .n] _ [.code (csub (cd Try.f11) [1,1,0,1,0,0,0,1]), .code (csub (cd Try.f11) [1,1,0,1,0,0,1]), .inLoop (csub (cd Try.f11) [1,1,0,1,0,0]), .inBlock 0, .code (csub (cd Try.f11) [1,1,1])] [(0, v), (1, u), (5, .int .i64 ((k : Nat) : Int)), (14, .bool (decide (((k : Nat) : Int) < (((List.length l) : Nat) : Int))))] w (by kernel_rfl) (.cons o1 .nil) ?_
    refine GoS.cond (decide (((k : Nat) : Int) < (((List.length l) : Nat) : Int))) [.code (csub (cd Try.f11) [1,1,0,1,0,0,0,1,0]), .code (csub (cd Try.f11) [1,1,0,1,0,0,1]), .inLoop (csub (cd Try.f11) [1,1,0,1,0,0]), .inBlock 0, .code (csub (cd Try.f11) [1,1,1])] [.code (csub (cd Try.f11) [1,1,0,1,0,0,0,1,1]), .code (csub (cd Try.f11) [1,1,0,1,0,0,1]), .inLoop (csub (cd Try.f11) [1,1,0,1,0,0]), .inBlock 0, .code (csub (cd Try.f11) [1,1,1])] (by kernel_rfl) (fun h2 => ?_) (fun h2 => ?_)
    ·
      have h2p : ((k : Nat) : Int) < (((List.length l) : Nat) : Int) := of_decide_eq_true h2
      refine GoS.run [0, 1, 5] [.n] _ [.code (csub (cd Try.f11) [1,1,0,1,0,0,1]), .inLoop (csub (cd Try.f11) [1,1,0,1,0,0]), .inBlock 0, .code (csub (cd Try.f11) [1,1,1])] [(0, v), (1, u), (5, .int .i64 ((k : Nat) : Int))] w (by kernel_rfl) .nil ?_
      refine GoS.run [0, 1, 5] [.n, .n, .n] _ [.code (csub (cd Try.f11) [1,1,0,1,0,0,1,0,0,0]), .code (csub (cd Try.f11) [1,1,0,1,0,0,1,0,0,1]), .inBlock 1, .code (csub (cd Try.f11) [1,1,0,1,0,0,1,1]), .inLoop (csub (cd Try.f11) [1,1,0,1,0,0]), .inBlock 0, .code (csub (cd Try.f11) [1,1,1])] [(0, v), (1, u), (5, .int .i64 ((k : Nat) : Int))] w (by kernel_rfl) .nil ?_
      obtain ⟨p3, hp4, hq5⟩ := rd_at (i := ((k : Nat) : Int)) sT22 (hv.dr hD) k (by omega) (by first | omega | (dsimp only; omega))
      obtain ⟨p6, hp7, hq8⟩ := rd_at (i := ((k : Nat) : Int)) sT22 (hu.dr hD) k (by omega) (by first | omega | (dsimp only; omega))
      refine GoS.drawC (fun W_ => Dr w W_) 6 (by kernel_rfl) [0, 1, 5, 25] [.u (v) w, .u (.int .i64 ((k : Nat) : Int)) w, .h (.pointer (some p3)), .h (.int .i64 (List.getD l k 0)), .u (u) w, .u (.int .i64 ((k : Nat) : Int)) w, .h (.pointer (some p6)), .h (.int .i64 (List.getD m k 0)), .u (.bool ((List.getD l k 0) != (List.getD m k 0))) w] (fun W_ => [(Instr.indexAt 22 (v) (.int .i64 ((k : Nat) : Int))).run Try.prog W_ = .ok (.pointer (some p3)) W_, (Instr.loadAt 3 (.pointer (some p3))).run Try.prog W_ = .ok (.int .i64 (List.getD l k 0)) W_, (Instr.indexAt 22 (u) (.int .i64 ((k : Nat) : Int))).run Try.prog W_ = .ok (.pointer (some p6)) W_, (Instr.loadAt 3 (.pointer (some p6))).run Try.prog W_ = .ok (.int .i64 (List.getD m k 0)) W_]) [(v, v), (.int .i64 ((k : Nat) : Int), .int .i64 ((k : Nat) : Int)), (u, u), (.int .i64 ((k : Nat) : Int), .int .i64 ((k : Nat) : Int)), (.bool ((List.getD l k 0) != (List.getD m k 0)), .bool ((List.getD l k 0) != (List.getD m k 0)))] [(0, v), (1, u), (5, .int .i64 ((k : Nat) : Int)), (25, .bool ((List.getD l k 0) != (List.getD m k 0)))] (by kernel_rfl) (by kernel_rfl) ([(25, .bool ((List.getD l k 0) != (List.getD m k 0))), (24, .int .i64 (List.getD m k 0)), (23, .pointer (some p6)), (22, .int .i64 ((k : Nat) : Int)), (21, u), (20, .int .i64 (List.getD l k 0)), (19, .pointer (some p3)), (18, .int .i64 ((k : Nat) : Int)), (17, v)] ++ [(0, v), (1, u), (5, .int .i64 ((k : Nat) : Int))]) (fun W_ => by kernel_rfl) (by kernel_rfl) (.cons rfl (.cons rfl (.cons rfl (.cons rfl (.cons rfl Obs.nil))))) ⟨1, rfl⟩ (fun W_ hW_ => (.cons (hq5 _ _) (.cons (at_load pE3 ((hv.dr hD).dr hW_) hp4 (ivals_at (by first | omega | (dsimp only; omega)))) (.cons (hq8 _ _) (.cons (at_load pE3 ((hu.dr hD).dr hW_) hp7 (ivals_at (by first | omega | (dsimp only; omega)))) Obs.nil))))) (fun w9 hw10 => ?_)
      have hD11 := hD.trans hw10
      refine GoS.cond ((List.getD l k 0) != (List.getD m k 0)) [.code (csub (cd Try.f11) [1,1,0,1,0,0,1,0,0,1,0]), .inBlock 1, .code (csub (cd Try.f11) [1,1,0,1,0,0,1,1]), .inLoop (csub (cd Try.f11) [1,1,0,1,0,0]), .inBlock 0, .code (csub (cd Try.f11) [1,1,1])] [.code (csub (cd Try.f11) [1,1,0,1,0,0,1,0,0,1,1]), .inBlock 1, .code (csub (cd Try.f11) [1,1,0,1,0,0,1,1]), .inLoop (csub (cd Try.f11) [1,1,0,1,0,0]), .inBlock 0, .code (csub (cd Try.f11) [1,1,1])] (by kernel_rfl) (fun h12 => ?_) (fun h12 => ?_)
      ·
        have h12p : ¬ ((List.getD l k 0) = (List.getD m k 0)) := bne_iff_ne.1 h12
        refine GoS.run [4] [.n, .n, .n, .n] _ [.code (csub (cd Try.f11) [1,1,0,1,0,0,1,0,0,1,0,1]), .inBlock 1, .code (csub (cd Try.f11) [1,1,0,1,0,0,1,1]), .inLoop (csub (cd Try.f11) [1,1,0,1,0,0]), .inBlock 0, .code (csub (cd Try.f11) [1,1,1])] [(4, .bool false)] w9 (by kernel_rfl) .nil ?_
        refine GoS.ret (fn := Try.f11) (v := (.bool false)) Try.func11 (by kernel_rfl) ?_
        rw [hR]
        exact ⟨ret_bool (decide_eq_false (lst_ne (bne_iff_ne.1 h12))).symm, hD11⟩
      ·
        have h12p : (List.getD l k 0) = (List.getD m k 0) := p_eq h12
        refine GoS.run [0, 1, 5] [.n] _ [.inBlock 1, .code (csub (cd Try.f11) [1,1,0,1,0,0,1,1]), .inLoop (csub (cd Try.f11) [1,1,0,1,0,0]), .inBlock 0, .code (csub (cd Try.f11) [1,1,1])] [(0, v), (1, u), (5, .int .i64 ((k : Nat) : Int))] w9 (by kernel_rfl) .nil ?_
        have o13 : (binOp .add 3 (.int .i64 ((k : Nat) : Int)) (.int .i64 1)).run Try.prog w9 = .ok (.int .i64 (((k + 1) : Nat) : Int)) w9 := f_add (by rw [show ((k : Nat) : Int) + 1 = (((k + 1) : Nat) : Int) by omega]; exact IntWalk.i64_in _ (by omega))
        refine GoS.run [0, 1, 5] [.n, .n, .n, .h (.int .i64 (((k + 1) : Nat) : Int)), .n, .n, .n] _ [.code (csub (cd Try.f11) [1,1,0,1,0,0]), .inLoop (csub (cd Try.f11) [1,1,0,1,0,0]), .inBlock 0, .code (csub (cd Try.f11) [1,1,1])] [(0, v), (1, u), (5, .int .i64 (((k + 1) : Nat) : Int))] w9 (by kernel_rfl) (.cons o13 .nil) ?_
        exact ih (k + 1) _ (by omega) (fun j hj => by rcases Nat.lt_succ_iff_lt_or_eq.1 hj with h | h; exact hw j h; subst h; exact h12p) hD11 (by omega)
    ·
      have h2p : ¬ (((k : Nat) : Int) < (((List.length l) : Nat) : Int)) := of_decide_eq_false h2
      refine GoS.run [4] [.n, .n, .n, .n, .n] _ [.code (csub (cd Try.f11) [1,1,1,1])] [(4, .bool true)] w (by kernel_rfl) .nil ?_
      refine GoS.ret (fn := Try.f11) (v := (.bool true)) Try.func11 (by kernel_rfl) ?_
      rw [hR]
      have e := lst_ext hlm (by intro j hj; exact hw j (by omega))
      exact ⟨ret_bool (decide_eq_true e).symm, hD⟩

set_option maxHeartbeats 400000 in
theorem numbers_c (v u : Value) (l m : List Int) (w : World) (hv : Rd w 1 v l.length (ivals .i64 l)) (hu : Rd w 1 u m.length (ivals .i64 m)) :
    Calls Try.prog 11 #[v, u] w (fun e w' => e = .returned (.bool (decide (l = m))) ∧ Dr w w') := by
  obtain ⟨R, hR⟩ : ∃ R : Ending → World → Prop, R = (fun e w' => e = .returned (.bool (decide (l = m))) ∧ Dr w w') := ⟨_, rfl⟩
  rw [← hR]
  refine GoS.enter (n := 26) Try.func11 (by kernel_rfl) rfl [(0, v), (1, u)] (by kernel_rfl) (by kernel_rfl) ?_
  have hD0 := Dr.refl w
  have o1 : (Builtin.len_ #[22] 3 #[v]).run Try.prog w = .ok (.int .i64 (((List.length l) : Nat) : Int)) w := f_slen sT22 (hv.dr hD0) 3 _
  have o2 : (Builtin.len_ #[22] 3 #[u]).run Try.prog w = .ok (.int .i64 (((List.length m) : Nat) : Int)) w := f_slen sT22 (hu.dr hD0) 3 _
  refine GoS.run [0, 1, 10] [.n, .n, .n, .n, .n, .n, .n, .n, .h (.int .i64 (((List.length l) : Nat) : Int)), .n, .h (.int .i64 (((List.length m) : Nat) : Int)), .n, .n] _ [.code (csub (cd Try.f11) [1,0,1]), .code (csub (cd Try.f11) [1,1])] [(0, v), (1, u), (10, .bool ((((List.length l) : Nat) : Int) != (((List.length m) : Nat) : Int)))] w (by kernel_rfl) (.cons o1 (.cons o2 .nil)) ?_
  refine GoS.cond ((((List.length l) : Nat) : Int) != (((List.length m) : Nat) : Int)) [.code (csub (cd Try.f11) [1,0,1,0]), .code (csub (cd Try.f11) [1,1])] [.code (csub (cd Try.f11) [1,0,1,1]), .code (csub (cd Try.f11) [1,1])] (by kernel_rfl) (fun h3 => ?_) (fun h3 => ?_)
  ·
    have h3p : ¬ ((((List.length l) : Nat) : Int) = (((List.length m) : Nat) : Int)) := bne_iff_ne.1 h3
    refine GoS.run [4] [.n, .n, .n, .n] _ [.code (csub (cd Try.f11) [1,0,1,0,1]), .code (csub (cd Try.f11) [1,1])] [(4, .bool false)] w (by kernel_rfl) .nil ?_
    refine GoS.ret (fn := Try.f11) (v := (.bool false)) Try.func11 (by kernel_rfl) ?_
    rw [hR]
    exact ⟨ret_bool (decide_eq_false (by rintro rfl; exact absurd rfl h3p)).symm, hD0⟩
  ·
    have h3p : (((List.length l) : Nat) : Int) = (((List.length m) : Nat) : Int) := p_eq h3
    refine GoS.run [0, 1] [.n] _ [.code (csub (cd Try.f11) [1,1])] [(0, v), (1, u)] w (by kernel_rfl) .nil ?_
    refine GoS.run [0, 1, 5] [.n, .n, .n, .n, .n, .n, .n] _ [.code (csub (cd Try.f11) [1,1,0,1,0,0]), .inLoop (csub (cd Try.f11) [1,1,0,1,0,0]), .inBlock 0, .code (csub (cd Try.f11) [1,1,1])] [(0, v), (1, u), (5, .int .i64 0)] w (by kernel_rfl) .nil ?_
    exact numbers_L v u l m hv hu (by omega) R hR (l.length + 1) 0 w (by omega) (by intro j hj; omega) hD0 (by omega)

theorem numbers_yes (v u : Value) (l m : List Int) (w : World) (hv : Rd w 1 v l.length (ivals .i64 l)) (hu : Rd w 1 u m.length (ivals .i64 m)) (h : l = m) :
    Calls Try.prog 11 #[v, u] w (fun e w' => e = .returned (.bool true) ∧ Dr w w') := by
  have := numbers_c v u l m w hv hu
  rwa [decide_eq_true h] at this


end Go.Proofs.Ytehpfcpobemjfaa
