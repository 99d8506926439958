/-
  The walk of width, of the reference.
-/
import Derived.Test.YthimiheeheaaaaaPackA
namespace Go.Proofs.Ythimiheeheaaaaa
open Go Go.Gw Go.NumP Go.LiveP Go.PackP Go.RowKit
set_option linter.unusedVariables false
set_option linter.unusedSimpArgs false


set_option maxHeartbeats 400000 in
theorem rwidth_L (n : Int) (hn : n ≤ 9223372036854775807) (w : World) (R : Ending → World → Prop) (hR : R = (fun e w' => e = .returned (.int .i64 ((bitLen n.toNat : Nat) : Int)) ∧ w = w')) : ∀ (N : Nat) (m : Int) (k : Nat) (hk : k + bitLen m.toNat = bitLen n.toNat) (hm : m ≤ 9223372036854775807) (hN : m.toNat < N), GoS Try.prog 46 R 11 [.code (csub (cd Try.f46) [1,1,0,0,0]), .inLoop (csub (cd Try.f46) [1,1,0,0,0]), .inBlock 0, .code (csub (cd Try.f46) [1,1,1])] [(0, .int .i64 m), (3, .int .i64 ((k : Nat) : Int))] w := by
  intro N
  induction N with
  | zero => intro m k hk hm hN; exact absurd hN (Nat.not_lt_zero _)
  | succ N ih =>
    intro m k hk hm hN
    have hb : bitLen n.toNat ≤ 64 := (bitLen_le _ _).2 (by omega)
    refine GoS.run [0, 3, 5] [.n, .n, .n, .n, .n, .n] _ [.code (csub (cd Try.f46) [1,1,0,0,0,0,1]), .code (csub (cd Try.f46) [1,1,0,0,0,1]), .inLoop (csub (cd Try.f46) [1,1,0,0,0]), .inBlock 0, .code (csub (cd Try.f46) [1,1,1])] [(0, .int .i64 m), (3, .int .i64 ((k : Nat) : Int)), (5, .bool (decide (m > 0)))] w (by kernel_rfl) .nil ?_
    refine GoS.cond (decide (m > 0)) [.code (csub (cd Try.f46) [1,1,0,0,0,0,1,0]), .code (csub (cd Try.f46) [1,1,0,0,0,1]), .inLoop (csub (cd Try.f46) [1,1,0,0,0]), .inBlock 0, .code (csub (cd Try.f46) [1,1,1])] [.code (csub (cd Try.f46) [1,1,0,0,0,0,1,1]), .code (csub (cd Try.f46) [1,1,0,0,0,1]), .inLoop (csub (cd Try.f46) [1,1,0,0,0]), .inBlock 0, .code (csub (cd Try.f46) [1,1,1])] (by kernel_rfl) (fun h1 => ?_) (fun h1 => ?_)
    ·
      have h1p : m > 0 := of_decide_eq_true h1
      refine GoS.run [0, 3] [.n] _ [.code (csub (cd Try.f46) [1,1,0,0,0,1]), .inLoop (csub (cd Try.f46) [1,1,0,0,0]), .inBlock 0, .code (csub (cd Try.f46) [1,1,1])] [(0, .int .i64 m), (3, .int .i64 ((k : Nat) : Int))] w (by kernel_rfl) .nil ?_
      have o2 : (binOp .quo 3 (.int .i64 m) (.int .i64 2)).run Try.prog w = .ok (.int .i64 (m / 2)) w := f_quo (by decide) (IntWalk.i64_quo _ _ (by omega))
      have o3 : (binOp .add 3 (.int .i64 ((k : Nat) : Int)) (.int .i64 1)).run Try.prog w = .ok (.int .i64 (((k + 1) : Nat) : Int)) w := f_add (by rw [show ((k : Nat) : Int) + 1 = (((k + 1) : Nat) : Int) by omega]; exact IntWalk.i64_in _ (by omega))
      refine GoS.run [0, 3] [.n, .n, .n, .n, .h (.int .i64 (m / 2)), .n, .n, .n, .n, .h (.int .i64 (((k + 1) : Nat) : Int)), .n, .n, .n, .n] _ [.code (csub (cd Try.f46) [1,1,0,0,0]), .inLoop (csub (cd Try.f46) [1,1,0,0,0]), .inBlock 0, .code (csub (cd Try.f46) [1,1,1])] [(0, .int .i64 (m / 2)), (3, .int .i64 (((k + 1) : Nat) : Int))] w (by kernel_rfl) (.cons o2 (.cons o3 .nil)) ?_
      have e := rwid_half h1p
      exact ih (m / 2) (k + 1) (by omega) (by omega) (by omega)
    ·
      have h1p : ¬ (m > 0) := of_decide_eq_false h1
      refine GoS.run [2] [.n, .n, .n, .n, .n, .n] _ [.code (csub (cd Try.f46) [1,1,1,1])] [(2, .int .i64 ((k : Nat) : Int))] w (by kernel_rfl) .nil ?_
      refine GoS.ret (fn := Try.f46) (v := (.int .i64 ((k : Nat) : Int))) Try.func46 (by kernel_rfl) ?_
      rw [hR]
      have e := rwid_zero h1p
      exact ⟨ret_int (by omega), rfl⟩

set_option maxHeartbeats 400000 in
theorem rwidth_c (n : Int) (hn : n ≤ 9223372036854775807) (w : World) :
    Calls Try.prog 46 #[.int .i64 n] w (fun e w' => e = .returned (.int .i64 ((bitLen n.toNat : Nat) : Int)) ∧ w = w') := by
  obtain ⟨R, hR⟩ : ∃ R : Ending → World → Prop, R = (fun e w' => e = .returned (.int .i64 ((bitLen n.toNat : Nat) : Int)) ∧ w = w') := ⟨_, rfl⟩
  rw [← hR]
  refine GoS.enter (n := 11) Try.func46 (by kernel_rfl) rfl [(0, .int .i64 n)] (by kernel_rfl) (by kernel_rfl) ?_
  refine GoS.run [0, 3] [.n, .n, .n, .n, .n, .n, .n, .n, .n, .n, .n] _ [.code (csub (cd Try.f46) [1,1,0,0,0]), .inLoop (csub (cd Try.f46) [1,1,0,0,0]), .inBlock 0, .code (csub (cd Try.f46) [1,1,1])] [(0, .int .i64 n), (3, .int .i64 0)] w (by kernel_rfl) .nil ?_
  exact rwidth_L n hn w R hR (n.toNat + 1) n 0 (Nat.zero_add _) (by omega) (by omega)


end Go.Proofs.Ythimiheeheaaaaa
