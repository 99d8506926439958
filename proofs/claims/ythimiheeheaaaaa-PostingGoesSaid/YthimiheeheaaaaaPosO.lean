/-
  The walk of Advance, of the reference.
-/
import Derived.Test.YthimiheeheaaaaaPosM
namespace Go.Proofs.Ythimiheeheaaaaa
open Go Go.Gw Go.NumP Go.LiveP Go.PackP Go.PostP Go.RowKit
set_option linter.unusedVariables false
set_option linter.unusedSimpArgs false


set_option maxHeartbeats 400000 in
theorem radv_L {w0 : World} (u : Value) (L : PS) (X : Nat → Value) (hu : Rd w0 2 u L.length (pcells L X)) (hX : ∀ j, j < L.length → Rd w0 1 (X j) (L.getD j zp).2.length (ivals .i64 (L.getD j zp).2)) (d Z : Int) (R : Ending → World → Prop) (hR : R = (fun e w' => e = .returned (.int .i64 Z) ∧ Mem [] w0 w' [])) : ∀ (N : Nat) (k : Nat) (w : World) (hF : ((fge (dcs L) k d : Nat) : Int) = Z) (hM : Mem [] w0 w []) (hN : L.length - k < N), GoS Try.prog 23 R 25 [.code (csub (cd Try.f23) [1,1,0,0,0]), .inLoop (csub (cd Try.f23) [1,1,0,0,0]), .inBlock 0, .code (csub (cd Try.f23) [1,1,1])] [(0, u), (1, .int .i64 ((k : Nat) : Int)), (2, .int .i64 d)] w := by
  intro N
  induction N with
  | zero => intro k w hF hM hN; exact absurd hN (Nat.not_lt_zero _)
  | succ N ih =>
    intro k w hF hM hN
    have hLl := rd_len hu
    simp only [maxLen] at hLl
    have hdl := dcs_len L
    have o1 : (Builtin.len_ #[22] 3 #[u]).run Try.prog w = .ok (.int .i64 (((List.length L) : Nat) : Int)) w := f_slen sT22 (hu.kept0 hM.kept) 3 _
    refine GoS.run [0, 1, 2, 13] [.n, .n, .n, .n, .n, .h (.int .i64 (((List.length L) : Nat) : Int)), .n, .n] _ [.inRegion (cops (csub (cd Try.f23) [1,1,0,0,0,0,0])) [5,6,7,8,9,10,11,12], .code (csub (cd Try.f23) [1,1,0,0,0,0,1]), .code (csub (cd Try.f23) [1,1,0,0,0,1]), .inLoop (csub (cd Try.f23) [1,1,0,0,0]), .inBlock 0, .code (csub (cd Try.f23) [1,1,1])] [(0, u), (1, .int .i64 ((k : Nat) : Int)), (2, .int .i64 d), (13, .bool (decide (((k : Nat) : Int) < (((List.length L) : Nat) : Int))))] w (by kernel_rfl) (.cons o1 .nil) ?_
    refine GoS.fork 13 (decide (((k : Nat) : Int) < (((List.length L) : Nat) : Int))) (by kernel_rfl) (fun h2 => ?_) (fun h2 => ?_)
    ·
      have h2p : ((k : Nat) : Int) < (((List.length L) : Nat) : Int) := of_decide_eq_true h2
      obtain ⟨p3, hp4, hq5⟩ := rd_at (i := ((k : Nat) : Int)) sT22 (hu.kept0 hM.kept) k (by omega) (by first | omega | (dsimp only; omega))
      have o6 : (Instr.indexAt 22 (u) (.int .i64 ((k : Nat) : Int))).run Try.prog w = .ok (.pointer (some p3)) w := hq5 _ _
      have o7 : (Instr.loadAt 3 (.pointer (some (Addr.add p3 0)))).run Try.prog w = .ok (.int .i64 ((List.getD L k zp).1)) w := c_load pE3 (hu.kept0 hM.kept) (Cel.add (At.cel hp4) 0) (p_at0 (by first | omega | (dsimp only; omega)))
      refine GoS.run [0, 1, 2, 21] [.n, .n, .h (.pointer (some p3)), .n, .h (.int .i64 ((List.getD L k zp).1)), .n, .n, .n] _ [.inRegion (cops (csub (cd Try.f23) [1,1,0,0,0,0,0])) [], .code (csub (cd Try.f23) [1,1,0,0,0,0,1]), .code (csub (cd Try.f23) [1,1,0,0,0,1]), .inLoop (csub (cd Try.f23) [1,1,0,0,0]), .inBlock 0, .code (csub (cd Try.f23) [1,1,1])] [(0, u), (1, .int .i64 ((k : Nat) : Int)), (2, .int .i64 d), (21, .bool (decide ((List.getD L k zp).1 < d)))] w (by kernel_rfl) (.cons o6 (.cons o7 .nil)) ?_
      refine GoS.run [0, 1, 2, 21] [.n] _ [.code (csub (cd Try.f23) [1,1,0,0,0,0,1]), .code (csub (cd Try.f23) [1,1,0,0,0,1]), .inLoop (csub (cd Try.f23) [1,1,0,0,0]), .inBlock 0, .code (csub (cd Try.f23) [1,1,1])] [(0, u), (1, .int .i64 ((k : Nat) : Int)), (2, .int .i64 d), (21, .bool (decide ((List.getD L k zp).1 < d)))] w (by kernel_rfl) .nil ?_
      refine GoS.cond (decide ((List.getD L k zp).1 < d)) [.code (csub (cd Try.f23) [1,1,0,0,0,0,1,0]), .code (csub (cd Try.f23) [1,1,0,0,0,1]), .inLoop (csub (cd Try.f23) [1,1,0,0,0]), .inBlock 0, .code (csub (cd Try.f23) [1,1,1])] [.code (csub (cd Try.f23) [1,1,0,0,0,0,1,1]), .code (csub (cd Try.f23) [1,1,0,0,0,1]), .inLoop (csub (cd Try.f23) [1,1,0,0,0]), .inBlock 0, .code (csub (cd Try.f23) [1,1,1])] (by kernel_rfl) (fun h8 => ?_) (fun h8 => ?_)
      ·
        have h8p : (List.getD L k zp).1 < d := of_decide_eq_true h8
        refine GoS.run [0, 1, 2] [.n] _ [.code (csub (cd Try.f23) [1,1,0,0,0,1]), .inLoop (csub (cd Try.f23) [1,1,0,0,0]), .inBlock 0, .code (csub (cd Try.f23) [1,1,1])] [(0, u), (1, .int .i64 ((k : Nat) : Int)), (2, .int .i64 d)] w (by kernel_rfl) .nil ?_
        have o9 : (binOp .add 3 (.int .i64 ((k : Nat) : Int)) (.int .i64 1)).run Try.prog w = .ok (.int .i64 (((k + 1) : Nat) : Int)) w := f_add (by rw [show ((k : Nat) : Int) + 1 = (((k + 1) : Nat) : Int) by omega]; exact IntWalk.i64_in _ (by omega))
        refine GoS.run [0, 1, 2] [.n, .n, .n, .h (.int .i64 (((k + 1) : Nat) : Int)), .n, .n, .n, .n] _ [.code (csub (cd Try.f23) [1,1,0,0,0]), .inLoop (csub (cd Try.f23) [1,1,0,0,0]), .inBlock 0, .code (csub (cd Try.f23) [1,1,1])] [(0, u), (1, .int .i64 (((k + 1) : Nat) : Int)), (2, .int .i64 d)] w (by kernel_rfl) (.cons o9 .nil) ?_
        exact ih (k + 1) _ (by rw [← hF, fge_lt (l := dcs L) (f := k) (d := d) (by omega) (by rw [dcs_at (by omega)]; omega)]) hM (by omega)
      ·
        have h8p : ¬ ((List.getD L k zp).1 < d) := of_decide_eq_false h8
        refine GoS.run [6] [.n, .n, .n, .n, .n, .n] _ [.code (csub (cd Try.f23) [1,1,1,1])] [(6, .int .i64 ((k : Nat) : Int))] w (by kernel_rfl) .nil ?_
        refine GoS.ret (fn := Try.f23) (v := (.int .i64 ((k : Nat) : Int))) Try.func23 (by kernel_rfl) ?_
        rw [hR]
        have e : fge (dcs L) k d = k := fge_ge (by omega) (by rw [dcs_at (by omega)]; omega)
        exact ⟨by rw [← hF, e], hM⟩
    ·
      have h2p : ¬ (((k : Nat) : Int) < (((List.length L) : Nat) : Int)) := of_decide_eq_false h2
      refine GoS.run [0, 1, 2, 21] [.n, .n, .n, .n, .n, .n, .n, .n] _ [.inRegion (cops (csub (cd Try.f23) [1,1,0,0,0,0,0])) [], .code (csub (cd Try.f23) [1,1,0,0,0,0,1]), .code (csub (cd Try.f23) [1,1,0,0,0,1]), .inLoop (csub (cd Try.f23) [1,1,0,0,0]), .inBlock 0, .code (csub (cd Try.f23) [1,1,1])] [(0, u), (1, .int .i64 ((k : Nat) : Int)), (2, .int .i64 d), (21, .bool false)] w (by kernel_rfl) .nil ?_
      refine GoS.run [6] [.n, .n, .n, .n, .n, .n, .n, .n] _ [.code (csub (cd Try.f23) [1,1,1,1])] [(6, .int .i64 ((k : Nat) : Int))] w (by kernel_rfl) .nil ?_
      refine GoS.ret (fn := Try.f23) (v := (.int .i64 ((k : Nat) : Int))) Try.func23 (by kernel_rfl) ?_
      rw [hR]
      have e : fge (dcs L) k d = k := fge_end (by omega)
      exact ⟨by rw [← hF, e], hM⟩

set_option maxHeartbeats 400000 in
theorem radv_c {w : World} (u : Value) (L : PS) (X : Nat → Value) (hu : Rd w 2 u L.length (pcells L X)) (hX : ∀ j, j < L.length → Rd w 1 (X j) (L.getD j zp).2.length (ivals .i64 (L.getD j zp).2)) (a d : Int) :
    Calls Try.prog 23 #[u, .int .i64 a, .int .i64 d] w (fun e w' => e = .returned (.int .i64 (advP L a d)) ∧ Mem [] w w' []) := by
  have hLl := rd_len hu
  simp only [maxLen] at hLl
  have hdl := dcs_len L
  obtain ⟨R, hR⟩ : ∃ R : Ending → World → Prop, R = (fun e w' => e = .returned (.int .i64 (advP L a d)) ∧ Mem [] w w' []) := ⟨_, rfl⟩
  rw [← hR]
  refine GoS.enter (n := 25) Try.func23 (by kernel_rfl) rfl [(0, u), (1, .int .i64 a), (2, .int .i64 d)] (by kernel_rfl) (by kernel_rfl) ?_
  have hM0 := Mem.start w
  refine GoS.run [0, 1, 2, 8] [.n, .n, .n, .n, .n, .n, .n, .n, .n, .n] _ [.code (csub (cd Try.f23) [1,0,1]), .code (csub (cd Try.f23) [1,1])] [(0, u), (1, .int .i64 a), (2, .int .i64 d), (8, .bool (decide (a < 0)))] w (by kernel_rfl) .nil ?_
  refine GoS.cond (decide (a < 0)) [.code (csub (cd Try.f23) [1,0,1,0]), .code (csub (cd Try.f23) [1,1])] [.code (csub (cd Try.f23) [1,0,1,1]), .code (csub (cd Try.f23) [1,1])] (by kernel_rfl) (fun h1 => ?_) (fun h1 => ?_)
  ·
    have h1p : a < 0 := of_decide_eq_true h1
    refine GoS.run [0, 1, 2] [.n, .n, .n] _ [.code (csub (cd Try.f23) [1,1])] [(0, u), (1, .int .i64 0), (2, .int .i64 d)] w (by kernel_rfl) .nil ?_
    refine GoS.run [0, 1, 2] [.n, .n, .n] _ [.code (csub (cd Try.f23) [1,1,0,0,0]), .inLoop (csub (cd Try.f23) [1,1,0,0,0]), .inBlock 0, .code (csub (cd Try.f23) [1,1,1])] [(0, u), (1, .int .i64 0), (2, .int .i64 d)] w (by kernel_rfl) .nil ?_
    exact radv_L u L X hu hX d _ R hR (L.length + 1) 0 w (by unfold advP; congr 2; omega) hM0 (by omega)
  ·
    have h1p : ¬ (a < 0) := of_decide_eq_false h1
    refine GoS.run [0, 1, 2] [.n] _ [.code (csub (cd Try.f23) [1,1])] [(0, u), (1, .int .i64 a), (2, .int .i64 d)] w (by kernel_rfl) .nil ?_
    refine GoS.run [0, 1, 2] [.n, .n, .n] _ [.code (csub (cd Try.f23) [1,1,0,0,0]), .inLoop (csub (cd Try.f23) [1,1,0,0,0]), .inBlock 0, .code (csub (cd Try.f23) [1,1,1])] [(0, u), (1, .int .i64 a), (2, .int .i64 d)] w (by kernel_rfl) .nil ?_
    obtain ⟨k, rfl⟩ : ∃ k : Nat, a = (k : Int) := ⟨a.toNat, by omega⟩
    exact radv_L u L X hu hX d _ R hR (L.length + 1) k w rfl hM0 (by omega)


end Go.Proofs.Ythimiheeheaaaaa
