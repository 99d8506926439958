/-
  The walk of the reference's Read.
-/
import Derived.Test.YtiifhlhmkpcaeaaLiveE
namespace Go.Proofs.Ytiifhlhmkpcaeaa
open Go Go.Gw Go.NumP Go.LiveP Go.RowKit
set_option linter.unusedVariables false
set_option linter.unusedSimpArgs false


set_option maxHeartbeats 400000 in
theorem rread_I {w0 : World} (t : List UInt8) (n : Int) (hn : 0 ≤ n ∧ n ≤ 1048576) (ht : t.length ≤ 131072) (b : Nat) (Q : Ending → World → Prop) (hQ : ∀ e w', (badT t n.toNat = true ∧ e = .returned (.tuple #[.pointer none, .int .i64 3]) ∧ Mem [] w0 w' []) ∨ (badT t n.toNat = false ∧ ∃ v, e = .returned (.tuple #[.pointer (some ⟨b, 0, none⟩), .int .i64 0]) ∧ Mem [] w0 w' [⟨40, 2, (obj b), 1, [.int .i64 n, v]⟩, ⟨3, 1, v, (List.length (qT t (8 * t.length))), (ivals .i64 (qT t (8 * t.length)))⟩]) → Q e w') {i : Nat} (hi : i < t.length) (R : Ending → World → Prop) (hR : R = (Q)) : ∀ (N : Nat) (k : Nat) (c : Int) (v : Value) (w : World) (out : ∀ (v : Value) (w : World), (∀ x, x < 8 * (i + 1) → bitT t x = true → (x : Int) < n) → Mem [] w0 w [⟨40, 2, (obj b), 1, [.int .i64 n, v]⟩, ⟨3, 1, v, (List.length (qT t (8 * (i + 1)))), (ivals .i64 (qT t (8 * (i + 1))))⟩] → GoS Try.prog 20 R 82 [.code (csub (cd Try.f20) [1,1,1,1,1,1,1,1,0,1,0,0]), .inLoop (csub (cd Try.f20) [1,1,1,1,1,1,1,1,0,1,0,0]), .inBlock 0, .code (csub (cd Try.f20) [1,1,1,1,1,1,1,1,1])] [(0, .string (sb t)), (4, .int .i64 n), (7, .pointer (some (⟨b, 0, none⟩))), (8, .int .i64 (((i + 1) : Nat) : Int))] w) (hk : k ≤ 8) (hc : c = bl t i / ((2 ^ k : Nat) : Int)) (hcb : 0 ≤ c ∧ c ≤ 255) (hs : ∀ x, x < 8 * i + k → bitT t x = true → (x : Int) < n) (hM : Mem [] w0 w [⟨40, 2, (obj b), 1, [.int .i64 n, v]⟩, ⟨3, 1, v, (List.length (qT t (8 * i + k))), (ivals .i64 (qT t (8 * i + k)))⟩]) (hN : 8 - k < N), GoS Try.prog 20 R 82 [.code (csub (cd Try.f20) [1,1,1,1,1,1,1,1,0,1,0,0,1,0,0,1,1,0,0]), .inLoop (csub (cd Try.f20) [1,1,1,1,1,1,1,1,0,1,0,0,1,0,0,1,1,0,0]), .inBlock 2, .inBlock 1, .code (csub (cd Try.f20) [1,1,1,1,1,1,1,1,0,1,0,0,1,1]), .inLoop (csub (cd Try.f20) [1,1,1,1,1,1,1,1,0,1,0,0]), .inBlock 0, .code (csub (cd Try.f20) [1,1,1,1,1,1,1,1,1])] [(0, .string (sb t)), (4, .int .i64 n), (7, .pointer (some (⟨b, 0, none⟩))), (8, .int .i64 ((i : Nat) : Int)), (9, .int .i64 c), (10, .int .i64 ((k : Nat) : Int))] w := by
  intro N
  induction N with
  | zero => intro k c v w out hk hc hcb hs hM hN; exact absurd hN (Nat.not_lt_zero _)
  | succ N ih =>
    intro k c v w out hk hc hcb hs hM hN
    refine GoS.run [0, 4, 7, 8, 9, 10, 54] [.n, .n, .n, .n, .n, .n] _ [.code (csub (cd Try.f20) [1,1,1,1,1,1,1,1,0,1,0,0,1,0,0,1,1,0,0,0,1]), .code (csub (cd Try.f20) [1,1,1,1,1,1,1,1,0,1,0,0,1,0,0,1,1,0,0,1]), .inLoop (csub (cd Try.f20) [1,1,1,1,1,1,1,1,0,1,0,0,1,0,0,1,1,0,0]), .inBlock 2, .inBlock 1, .code (csub (cd Try.f20) [1,1,1,1,1,1,1,1,0,1,0,0,1,1]), .inLoop (csub (cd Try.f20) [1,1,1,1,1,1,1,1,0,1,0,0]), .inBlock 0, .code (csub (cd Try.f20) [1,1,1,1,1,1,1,1,1])] [(0, .string (sb t)), (4, .int .i64 n), (7, .pointer (some (⟨b, 0, none⟩))), (8, .int .i64 ((i : Nat) : Int)), (9, .int .i64 c), (10, .int .i64 ((k : Nat) : Int)), (54, .bool (decide (((k : Nat) : Int) < 8)))] w (by kernel_rfl) .nil ?_
    refine GoS.cond (decide (((k : Nat) : Int) < 8)) [.code (csub (cd Try.f20) [1,1,1,1,1,1,1,1,0,1,0,0,1,0,0,1,1,0,0,0,1,0]), .code (csub (cd Try.f20) [1,1,1,1,1,1,1,1,0,1,0,0,1,0,0,1,1,0,0,1]), .inLoop (csub (cd Try.f20) [1,1,1,1,1,1,1,1,0,1,0,0,1,0,0,1,1,0,0]), .inBlock 2, .inBlock 1, .code (csub (cd Try.f20) [1,1,1,1,1,1,1,1,0,1,0,0,1,1]), .inLoop (csub (cd Try.f20) [1,1,1,1,1,1,1,1,0,1,0,0]), .inBlock 0, .code (csub (cd Try.f20) [1,1,1,1,1,1,1,1,1])] [.code (csub (cd Try.f20) [1,1,1,1,1,1,1,1,0,1,0,0,1,0,0,1,1,0,0,0,1,1]), .code (csub (cd Try.f20) [1,1,1,1,1,1,1,1,0,1,0,0,1,0,0,1,1,0,0,1]), .inLoop (csub (cd Try.f20) [1,1,1,1,1,1,1,1,0,1,0,0,1,0,0,1,1,0,0]), .inBlock 2, .inBlock 1, .code (csub (cd Try.f20) [1,1,1,1,1,1,1,1,0,1,0,0,1,1]), .inLoop (csub (cd Try.f20) [1,1,1,1,1,1,1,1,0,1,0,0]), .inBlock 0, .code (csub (cd Try.f20) [1,1,1,1,1,1,1,1,1])] (by kernel_rfl) (fun h1 => ?_) (fun h1 => ?_)
    ·
      have h1p : ((k : Nat) : Int) < 8 := of_decide_eq_true h1
      refine GoS.run [0, 4, 7, 8, 9, 10] [.n] _ [.code (csub (cd Try.f20) [1,1,1,1,1,1,1,1,0,1,0,0,1,0,0,1,1,0,0,1]), .inLoop (csub (cd Try.f20) [1,1,1,1,1,1,1,1,0,1,0,0,1,0,0,1,1,0,0]), .inBlock 2, .inBlock 1, .code (csub (cd Try.f20) [1,1,1,1,1,1,1,1,0,1,0,0,1,1]), .inLoop (csub (cd Try.f20) [1,1,1,1,1,1,1,1,0,1,0,0]), .inBlock 0, .code (csub (cd Try.f20) [1,1,1,1,1,1,1,1,1])] [(0, .string (sb t)), (4, .int .i64 n), (7, .pointer (some (⟨b, 0, none⟩))), (8, .int .i64 ((i : Nat) : Int)), (9, .int .i64 c), (10, .int .i64 ((k : Nat) : Int))] w (by kernel_rfl) .nil ?_
      have o3 : (binOp .rem 3 (.int .i64 c) (.int .i64 2)).run Try.prog w = .ok (.int .i64 (c % 2)) w := f_rem (by decide) (IntWalk.rem_in _ _ (by omega))
      refine GoS.run [0, 4, 7, 8, 9, 10, 59] [.n, .n, .n, .n, .n, .n, .h (.int .i64 (c % 2)), .n, .n] _ [.code (csub (cd Try.f20) [1,1,1,1,1,1,1,1,0,1,0,0,1,0,0,1,1,0,0,1,0,0,0,1]), .code (csub (cd Try.f20) [1,1,1,1,1,1,1,1,0,1,0,0,1,0,0,1,1,0,0,1,0,0,1]), .inBlock 3, .code (csub (cd Try.f20) [1,1,1,1,1,1,1,1,0,1,0,0,1,0,0,1,1,0,0,1,1]), .inLoop (csub (cd Try.f20) [1,1,1,1,1,1,1,1,0,1,0,0,1,0,0,1,1,0,0]), .inBlock 2, .inBlock 1, .code (csub (cd Try.f20) [1,1,1,1,1,1,1,1,0,1,0,0,1,1]), .inLoop (csub (cd Try.f20) [1,1,1,1,1,1,1,1,0,1,0,0]), .inBlock 0, .code (csub (cd Try.f20) [1,1,1,1,1,1,1,1,1])] [(0, .string (sb t)), (4, .int .i64 n), (7, .pointer (some (⟨b, 0, none⟩))), (8, .int .i64 ((i : Nat) : Int)), (9, .int .i64 c), (10, .int .i64 ((k : Nat) : Int)), (59, .bool ((c % 2) == 1))] w (by kernel_rfl) (.cons o3 .nil) ?_
      refine GoS.cond ((c % 2) == 1) [.code (csub (cd Try.f20) [1,1,1,1,1,1,1,1,0,1,0,0,1,0,0,1,1,0,0,1,0,0,0,1,0]), .code (csub (cd Try.f20) [1,1,1,1,1,1,1,1,0,1,0,0,1,0,0,1,1,0,0,1,0,0,1]), .inBlock 3, .code (csub (cd Try.f20) [1,1,1,1,1,1,1,1,0,1,0,0,1,0,0,1,1,0,0,1,1]), .inLoop (csub (cd Try.f20) [1,1,1,1,1,1,1,1,0,1,0,0,1,0,0,1,1,0,0]), .inBlock 2, .inBlock 1, .code (csub (cd Try.f20) [1,1,1,1,1,1,1,1,0,1,0,0,1,1]), .inLoop (csub (cd Try.f20) [1,1,1,1,1,1,1,1,0,1,0,0]), .inBlock 0, .code (csub (cd Try.f20) [1,1,1,1,1,1,1,1,1])] [.code (csub (cd Try.f20) [1,1,1,1,1,1,1,1,0,1,0,0,1,0,0,1,1,0,0,1,0,0,0,1,1]), .code (csub (cd Try.f20) [1,1,1,1,1,1,1,1,0,1,0,0,1,0,0,1,1,0,0,1,0,0,1]), .inBlock 3, .code (csub (cd Try.f20) [1,1,1,1,1,1,1,1,0,1,0,0,1,0,0,1,1,0,0,1,1]), .inLoop (csub (cd Try.f20) [1,1,1,1,1,1,1,1,0,1,0,0,1,0,0,1,1,0,0]), .inBlock 2, .inBlock 1, .code (csub (cd Try.f20) [1,1,1,1,1,1,1,1,0,1,0,0,1,1]), .inLoop (csub (cd Try.f20) [1,1,1,1,1,1,1,1,0,1,0,0]), .inBlock 0, .code (csub (cd Try.f20) [1,1,1,1,1,1,1,1,1])] (by kernel_rfl) (fun h4 => ?_) (fun h4 => ?_)
      ·
        have h4p : (c % 2) = 1 := eq_of_beq h4
        have o5 : (binOp .mul 3 (.int .i64 8) (.int .i64 ((i : Nat) : Int))).run Try.prog w = .ok (.int .i64 (((8 * i) : Nat) : Int)) w := f_mul (by rw [show 8 * ((i : Nat) : Int) = (((8 * i) : Nat) : Int) by omega]; exact IntWalk.i64_in _ (by omega))
        have o6 : (binOp .add 3 (.int .i64 (((8 * i) : Nat) : Int)) (.int .i64 ((k : Nat) : Int))).run Try.prog w = .ok (.int .i64 ((((8 * i) + k) : Nat) : Int)) w := f_add (by rw [show (((8 * i) : Nat) : Int) + ((k : Nat) : Int) = ((((8 * i) + k) : Nat) : Int) by omega]; exact IntWalk.i64_in _ (by omega))
        refine GoS.run [0, 4, 7, 8, 9, 10, 65] [.n, .n, .n, .n, .h (.int .i64 (((8 * i) : Nat) : Int)), .n, .h (.int .i64 ((((8 * i) + k) : Nat) : Int)), .n, .n, .n] _ [.code (csub (cd Try.f20) [1,1,1,1,1,1,1,1,0,1,0,0,1,0,0,1,1,0,0,1,0,0,0,1,0,0,1]), .code (csub (cd Try.f20) [1,1,1,1,1,1,1,1,0,1,0,0,1,0,0,1,1,0,0,1,0,0,0,1,0,1]), .code (csub (cd Try.f20) [1,1,1,1,1,1,1,1,0,1,0,0,1,0,0,1,1,0,0,1,0,0,1]), .inBlock 3, .code (csub (cd Try.f20) [1,1,1,1,1,1,1,1,0,1,0,0,1,0,0,1,1,0,0,1,1]), .inLoop (csub (cd Try.f20) [1,1,1,1,1,1,1,1,0,1,0,0,1,0,0,1,1,0,0]), .inBlock 2, .inBlock 1, .code (csub (cd Try.f20) [1,1,1,1,1,1,1,1,0,1,0,0,1,1]), .inLoop (csub (cd Try.f20) [1,1,1,1,1,1,1,1,0,1,0,0]), .inBlock 0, .code (csub (cd Try.f20) [1,1,1,1,1,1,1,1,1])] [(0, .string (sb t)), (4, .int .i64 n), (7, .pointer (some (⟨b, 0, none⟩))), (8, .int .i64 ((i : Nat) : Int)), (9, .int .i64 c), (10, .int .i64 ((k : Nat) : Int)), (65, .bool (decide (((((8 * i) + k) : Nat) : Int) ≥ n)))] w (by kernel_rfl) (.cons o5 (.cons o6 .nil)) ?_
        refine GoS.cond (decide (((((8 * i) + k) : Nat) : Int) ≥ n)) [.code (csub (cd Try.f20) [1,1,1,1,1,1,1,1,0,1,0,0,1,0,0,1,1,0,0,1,0,0,0,1,0,0,1,0]), .code (csub (cd Try.f20) [1,1,1,1,1,1,1,1,0,1,0,0,1,0,0,1,1,0,0,1,0,0,0,1,0,1]), .code (csub (cd Try.f20) [1,1,1,1,1,1,1,1,0,1,0,0,1,0,0,1,1,0,0,1,0,0,1]), .inBlock 3, .code (csub (cd Try.f20) [1,1,1,1,1,1,1,1,0,1,0,0,1,0,0,1,1,0,0,1,1]), .inLoop (csub (cd Try.f20) [1,1,1,1,1,1,1,1,0,1,0,0,1,0,0,1,1,0,0]), .inBlock 2, .inBlock 1, .code (csub (cd Try.f20) [1,1,1,1,1,1,1,1,0,1,0,0,1,1]), .inLoop (csub (cd Try.f20) [1,1,1,1,1,1,1,1,0,1,0,0]), .inBlock 0, .code (csub (cd Try.f20) [1,1,1,1,1,1,1,1,1])] [.code (csub (cd Try.f20) [1,1,1,1,1,1,1,1,0,1,0,0,1,0,0,1,1,0,0,1,0,0,0,1,0,0,1,1]), .code (csub (cd Try.f20) [1,1,1,1,1,1,1,1,0,1,0,0,1,0,0,1,1,0,0,1,0,0,0,1,0,1]), .code (csub (cd Try.f20) [1,1,1,1,1,1,1,1,0,1,0,0,1,0,0,1,1,0,0,1,0,0,1]), .inBlock 3, .code (csub (cd Try.f20) [1,1,1,1,1,1,1,1,0,1,0,0,1,0,0,1,1,0,0,1,1]), .inLoop (csub (cd Try.f20) [1,1,1,1,1,1,1,1,0,1,0,0,1,0,0,1,1,0,0]), .inBlock 2, .inBlock 1, .code (csub (cd Try.f20) [1,1,1,1,1,1,1,1,0,1,0,0,1,1]), .inLoop (csub (cd Try.f20) [1,1,1,1,1,1,1,1,0,1,0,0]), .inBlock 0, .code (csub (cd Try.f20) [1,1,1,1,1,1,1,1,1])] (by kernel_rfl) (fun h7 => ?_) (fun h7 => ?_)
        ·
          have h7p : ((((8 * i) + k) : Nat) : Int) ≥ n := of_decide_eq_true h7
          have hM8 : Mem [] w0 w [] := hM.sub (List.Sublist.cons _ (List.Sublist.cons _ (List.Sublist.refl _)))
          refine GoS.run [2, 3] [.n, .n, .n, .n, .n] _ [.code (csub (cd Try.f20) [1,1,1,1,1,1,1,1,0,1,0,0,1,0,0,1,1,0,0,1,0,0,0,1,0,0,1,0,1]), .code (csub (cd Try.f20) [1,1,1,1,1,1,1,1,0,1,0,0,1,0,0,1,1,0,0,1,0,0,0,1,0,1]), .code (csub (cd Try.f20) [1,1,1,1,1,1,1,1,0,1,0,0,1,0,0,1,1,0,0,1,0,0,1]), .inBlock 3, .code (csub (cd Try.f20) [1,1,1,1,1,1,1,1,0,1,0,0,1,0,0,1,1,0,0,1,1]), .inLoop (csub (cd Try.f20) [1,1,1,1,1,1,1,1,0,1,0,0,1,0,0,1,1,0,0]), .inBlock 2, .inBlock 1, .code (csub (cd Try.f20) [1,1,1,1,1,1,1,1,0,1,0,0,1,1]), .inLoop (csub (cd Try.f20) [1,1,1,1,1,1,1,1,0,1,0,0]), .inBlock 0, .code (csub (cd Try.f20) [1,1,1,1,1,1,1,1,1])] [(2, .pointer none), (3, .int .i64 3)] w (by kernel_rfl) .nil ?_
          refine GoS.ret (fn := Try.f20) (v := (.tuple #[.pointer none, .int .i64 3])) Try.func20 (by kernel_rfl) ?_
          rw [hR]
          exact hQ _ _ (.inl ⟨bad_of (i := 8 * i + k) (by omega) ((bit_half (by omega) hc).trans h4) (by omega), rfl, hM8⟩)
        ·
          have h7p : ¬ (((((8 * i) + k) : Nat) : Int) ≥ n) := of_decide_eq_false h7
          refine GoS.run [0, 4, 7, 8, 9, 10] [.n] _ [.code (csub (cd Try.f20) [1,1,1,1,1,1,1,1,0,1,0,0,1,0,0,1,1,0,0,1,0,0,0,1,0,1]), .code (csub (cd Try.f20) [1,1,1,1,1,1,1,1,0,1,0,0,1,0,0,1,1,0,0,1,0,0,1]), .inBlock 3, .code (csub (cd Try.f20) [1,1,1,1,1,1,1,1,0,1,0,0,1,0,0,1,1,0,0,1,1]), .inLoop (csub (cd Try.f20) [1,1,1,1,1,1,1,1,0,1,0,0,1,0,0,1,1,0,0]), .inBlock 2, .inBlock 1, .code (csub (cd Try.f20) [1,1,1,1,1,1,1,1,0,1,0,0,1,1]), .inLoop (csub (cd Try.f20) [1,1,1,1,1,1,1,1,0,1,0,0]), .inBlock 0, .code (csub (cd Try.f20) [1,1,1,1,1,1,1,1,1])] [(0, .string (sb t)), (4, .int .i64 n), (7, .pointer (some (⟨b, 0, none⟩))), (8, .int .i64 ((i : Nat) : Int)), (9, .int .i64 c), (10, .int .i64 ((k : Nat) : Int))] w (by kernel_rfl) .nil ?_
          have o22 : (Instr.loadAt 38 (.pointer (some (⟨b, 1, none⟩)))).run Try.prog w = .ok (v) w := c_load pE38 (hM.rd 0 rfl) (cel_obj b 1) rfl
          have o23 : (binOp .mul 3 (.int .i64 8) (.int .i64 ((i : Nat) : Int))).run Try.prog w = .ok (.int .i64 (((8 * i) : Nat) : Int)) w := f_mul (by rw [show 8 * ((i : Nat) : Int) = (((8 * i) : Nat) : Int) by omega]; exact IntWalk.i64_in _ (by omega))
          have o24 : (binOp .add 3 (.int .i64 (((8 * i) : Nat) : Int)) (.int .i64 ((k : Nat) : Int))).run Try.prog w = .ok (.int .i64 ((((8 * i) + k) : Nat) : Int)) w := f_add (by rw [show (((8 * i) : Nat) : Int) + ((k : Nat) : Int) = ((((8 * i) + k) : Nat) : Int) by omega]; exact IntWalk.i64_in _ (by omega))
          obtain ⟨v9, w10, hr11, hM12⟩ := m_lit sT38 hM (n := 1) (parts := #[(0, .int .i64 ((((8 * i) + k) : Nat) : Int))]) (cs := [.int .i64 ((((8 * i) + k) : Nat) : Int)]) (by decide) (by kernel_rfl) rfl
          have o25 : (Instr.buildSlice 38 1 #[(0, .int .i64 ((((8 * i) + k) : Nat) : Int))]).run Try.prog w = .ok v9 w10 := hr11
          obtain ⟨v13, w14, hr15, hM16⟩ := m_append sT38 hM12 2 rfl (hM12.rd 0 rfl) (by intro u hu; simp at hu; rcases hu with rfl <;> rfl) (by (try dsimp only); (have q1 := qT_len t (8 * i + k)); omega) (by (try dsimp only); (have q1 := qT_len t (8 * i + k)); omega) 38
          have hM17 : Mem [] w0 w14 [⟨3, 1, v9, 1, [.int .i64 ((((8 * i) + k) : Nat) : Int)]⟩, ⟨40, 2, (obj b), 1, [.int .i64 n, v]⟩, ⟨3, 1, v13, (List.length ((qT t (8 * i + k)) ++ ([((((8 * i) + k) : Nat) : Int)] : List Int))), (ivals .i64 ((qT t (8 * i + k)) ++ ([((((8 * i) + k) : Nat) : Int)] : List Int)))⟩] := hM16.cast (by simp [ivals, svals, bvals, nvals, u8s, Nat.add_assoc])
          have o26 : (Builtin.append_ #[38, 38] 38 #[v, v9]).run Try.prog w10 = .ok v13 w14 := hr15
          obtain ⟨w18, hr19, hM20⟩ := c_store (u := v13) (by kernel_rfl) hM17 1 rfl (cel_obj b 1) (by decide) (rd_one (hM17.rd 2 rfl)) (rd_cells (hM17.rd 2 rfl))
          have hM21 : Mem [] w0 w18 [⟨3, 1, v9, 1, [.int .i64 ((((8 * i) + k) : Nat) : Int)]⟩, ⟨40, 2, (obj b), 1, [.int .i64 n, v13]⟩, ⟨3, 1, v13, (List.length ((qT t (8 * i + k)) ++ ([((((8 * i) + k) : Nat) : Int)] : List Int))), (ivals .i64 ((qT t (8 * i + k)) ++ ([((((8 * i) + k) : Nat) : Int)] : List Int)))⟩] := hM20
          have o27 : (Instr.storeAt 38 (.pointer (some (⟨b, 1, none⟩))) (v13)).run Try.prog w14 = .ok () w18 ∧ undef = undef := ⟨hr19, rfl⟩
          have hM28 : Mem [] w0 w18 [⟨40, 2, (obj b), 1, [.int .i64 n, v13]⟩, ⟨3, 1, v13, (List.length ((qT t (8 * i + k)) ++ ([((((8 * i) + k) : Nat) : Int)] : List Int))), (ivals .i64 ((qT t (8 * i + k)) ++ ([((((8 * i) + k) : Nat) : Int)] : List Int)))⟩] := hM21.sub (List.Sublist.cons _ (List.Sublist.cons_cons _ (List.Sublist.cons_cons _ (List.Sublist.refl _))))
          refine GoS.run [0, 4, 7, 8, 9, 10] [.n, .n, .n, .n, .n, .h (v), .n, .h (.int .i64 (((8 * i) : Nat) : Int)), .n, .h (.int .i64 ((((8 * i) + k) : Nat) : Int)), .u (v9) (w10), .u (v13) (w14), .n, .n, .u (undef) (w18), .n] _ [.code (csub (cd Try.f20) [1,1,1,1,1,1,1,1,0,1,0,0,1,0,0,1,1,0,0,1,0,0,1]), .inBlock 3, .code (csub (cd Try.f20) [1,1,1,1,1,1,1,1,0,1,0,0,1,0,0,1,1,0,0,1,1]), .inLoop (csub (cd Try.f20) [1,1,1,1,1,1,1,1,0,1,0,0,1,0,0,1,1,0,0]), .inBlock 2, .inBlock 1, .code (csub (cd Try.f20) [1,1,1,1,1,1,1,1,0,1,0,0,1,1]), .inLoop (csub (cd Try.f20) [1,1,1,1,1,1,1,1,0,1,0,0]), .inBlock 0, .code (csub (cd Try.f20) [1,1,1,1,1,1,1,1,1])] [(0, .string (sb t)), (4, .int .i64 n), (7, .pointer (some (⟨b, 0, none⟩))), (8, .int .i64 ((i : Nat) : Int)), (9, .int .i64 c), (10, .int .i64 ((k : Nat) : Int))] w18 (by kernel_rfl) (.cons o22 (.cons o23 (.cons o24 (.cons o25 (.cons o26 (.cons o27 .nil)))))) ?_
          have o29 : (binOp .quo 3 (.int .i64 c) (.int .i64 2)).run Try.prog w18 = .ok (.int .i64 (c / 2)) w18 := f_quo (by decide) (IntWalk.i64_quo _ _ (by omega))
          have o30 : (binOp .add 3 (.int .i64 ((k : Nat) : Int)) (.int .i64 1)).run Try.prog w18 = .ok (.int .i64 (((k + 1) : Nat) : Int)) w18 := f_add (by rw [show ((k : Nat) : Int) + 1 = (((k + 1) : Nat) : Int) by omega]; exact IntWalk.i64_in _ (by omega))
          refine GoS.run [0, 4, 7, 8, 9, 10] [.n, .n, .h (.int .i64 (c / 2)), .n, .n, .n, .n, .n, .h (.int .i64 (((k + 1) : Nat) : Int)), .n, .n, .n] _ [.code (csub (cd Try.f20) [1,1,1,1,1,1,1,1,0,1,0,0,1,0,0,1,1,0,0]), .inLoop (csub (cd Try.f20) [1,1,1,1,1,1,1,1,0,1,0,0,1,0,0,1,1,0,0]), .inBlock 2, .inBlock 1, .code (csub (cd Try.f20) [1,1,1,1,1,1,1,1,0,1,0,0,1,1]), .inLoop (csub (cd Try.f20) [1,1,1,1,1,1,1,1,0,1,0,0]), .inBlock 0, .code (csub (cd Try.f20) [1,1,1,1,1,1,1,1,1])] [(0, .string (sb t)), (4, .int .i64 n), (7, .pointer (some (⟨b, 0, none⟩))), (8, .int .i64 ((i : Nat) : Int)), (9, .int .i64 (c / 2)), (10, .int .i64 (((k + 1) : Nat) : Int))] w18 (by kernel_rfl) (.cons o29 (.cons o30 .nil)) ?_
          have hbit := (bit_half (t := t) (i := i) (k := k) (by omega) hc).trans h4
          exact ih (k + 1) (c / 2) _ _ out (by omega) (by rw [hc, half_half]) (by omega) (fun x hx hb => by rcases Nat.lt_succ_iff_lt_or_eq.1 (show x < 8 * i + k + 1 by omega) with h | h; exact hs x h hb; subst h; omega) (hM28.cast (by rw [show 8 * i + (k + 1) = 8 * i + k + 1 by omega, qT_yes hbit])) (by omega)
      ·
        have h4p : ¬ ((c % 2) = 1) := p_ne h4
        refine GoS.run [0, 4, 7, 8, 9, 10] [.n] _ [.code (csub (cd Try.f20) [1,1,1,1,1,1,1,1,0,1,0,0,1,0,0,1,1,0,0,1,0,0,1]), .inBlock 3, .code (csub (cd Try.f20) [1,1,1,1,1,1,1,1,0,1,0,0,1,0,0,1,1,0,0,1,1]), .inLoop (csub (cd Try.f20) [1,1,1,1,1,1,1,1,0,1,0,0,1,0,0,1,1,0,0]), .inBlock 2, .inBlock 1, .code (csub (cd Try.f20) [1,1,1,1,1,1,1,1,0,1,0,0,1,1]), .inLoop (csub (cd Try.f20) [1,1,1,1,1,1,1,1,0,1,0,0]), .inBlock 0, .code (csub (cd Try.f20) [1,1,1,1,1,1,1,1,1])] [(0, .string (sb t)), (4, .int .i64 n), (7, .pointer (some (⟨b, 0, none⟩))), (8, .int .i64 ((i : Nat) : Int)), (9, .int .i64 c), (10, .int .i64 ((k : Nat) : Int))] w (by kernel_rfl) .nil ?_
        have o31 : (binOp .quo 3 (.int .i64 c) (.int .i64 2)).run Try.prog w = .ok (.int .i64 (c / 2)) w := f_quo (by decide) (IntWalk.i64_quo _ _ (by omega))
        have o32 : (binOp .add 3 (.int .i64 ((k : Nat) : Int)) (.int .i64 1)).run Try.prog w = .ok (.int .i64 (((k + 1) : Nat) : Int)) w := f_add (by rw [show ((k : Nat) : Int) + 1 = (((k + 1) : Nat) : Int) by omega]; exact IntWalk.i64_in _ (by omega))
        refine GoS.run [0, 4, 7, 8, 9, 10] [.n, .n, .h (.int .i64 (c / 2)), .n, .n, .n, .n, .n, .h (.int .i64 (((k + 1) : Nat) : Int)), .n, .n, .n] _ [.code (csub (cd Try.f20) [1,1,1,1,1,1,1,1,0,1,0,0,1,0,0,1,1,0,0]), .inLoop (csub (cd Try.f20) [1,1,1,1,1,1,1,1,0,1,0,0,1,0,0,1,1,0,0]), .inBlock 2, .inBlock 1, .code (csub (cd Try.f20) [1,1,1,1,1,1,1,1,0,1,0,0,1,1]), .inLoop (csub (cd Try.f20) [1,1,1,1,1,1,1,1,0,1,0,0]), .inBlock 0, .code (csub (cd Try.f20) [1,1,1,1,1,1,1,1,1])] [(0, .string (sb t)), (4, .int .i64 n), (7, .pointer (some (⟨b, 0, none⟩))), (8, .int .i64 ((i : Nat) : Int)), (9, .int .i64 (c / 2)), (10, .int .i64 (((k + 1) : Nat) : Int))] w (by kernel_rfl) (.cons o31 (.cons o32 .nil)) ?_
        have hbit := (bit_half (t := t) (i := i) (k := k) (by omega) hc).trans h4
        exact ih (k + 1) (c / 2) _ _ out (by omega) (by rw [hc, half_half]) (by omega) (fun x hx hb => by rcases Nat.lt_succ_iff_lt_or_eq.1 (show x < 8 * i + k + 1 by omega) with h | h; exact hs x h hb; subst h; rw [hbit] at hb; cases hb) (hM.cast (by rw [show 8 * i + (k + 1) = 8 * i + k + 1 by omega, qT_no hbit])) (by omega)
    ·
      have h1p : ¬ (((k : Nat) : Int) < 8) := of_decide_eq_false h1
      have o2 : (binOp .add 3 (.int .i64 ((i : Nat) : Int)) (.int .i64 1)).run Try.prog w = .ok (.int .i64 (((i + 1) : Nat) : Int)) w := f_add (by rw [show ((i : Nat) : Int) + 1 = (((i + 1) : Nat) : Int) by omega]; exact IntWalk.i64_in _ (by omega))
      refine GoS.run [0, 4, 7, 8] [.n, .n, .n, .n, .h (.int .i64 (((i + 1) : Nat) : Int)), .n, .n, .n] _ [.code (csub (cd Try.f20) [1,1,1,1,1,1,1,1,0,1,0,0]), .inLoop (csub (cd Try.f20) [1,1,1,1,1,1,1,1,0,1,0,0]), .inBlock 0, .code (csub (cd Try.f20) [1,1,1,1,1,1,1,1,1])] [(0, .string (sb t)), (4, .int .i64 n), (7, .pointer (some (⟨b, 0, none⟩))), (8, .int .i64 (((i + 1) : Nat) : Int))] w (by kernel_rfl) (.cons o2 .nil) ?_
      obtain rfl : k = 8 := by omega
      exact out _ _ (fun x hx hb => hs x (by omega) hb) (hM.cast (by rw [show 8 * i + 8 = 8 * (i + 1) by omega]))

set_option maxHeartbeats 400000 in
theorem rread_L {w0 : World} (t : List UInt8) (n : Int) (hn : 0 ≤ n ∧ n ≤ 1048576) (ht : t.length ≤ 131072) (b : Nat) (Q : Ending → World → Prop) (hQ : ∀ e w', (badT t n.toNat = true ∧ e = .returned (.tuple #[.pointer none, .int .i64 3]) ∧ Mem [] w0 w' []) ∨ (badT t n.toNat = false ∧ ∃ v, e = .returned (.tuple #[.pointer (some ⟨b, 0, none⟩), .int .i64 0]) ∧ Mem [] w0 w' [⟨40, 2, (obj b), 1, [.int .i64 n, v]⟩, ⟨3, 1, v, (List.length (qT t (8 * t.length))), (ivals .i64 (qT t (8 * t.length)))⟩]) → Q e w') (R : Ending → World → Prop) (hR : R = (Q)) : ∀ (N : Nat) (i : Nat) (v : Value) (w : World) (hi : i ≤ t.length) (hs : ∀ x, x < 8 * i → bitT t x = true → (x : Int) < n) (hM : Mem [] w0 w [⟨40, 2, (obj b), 1, [.int .i64 n, v]⟩, ⟨3, 1, v, (List.length (qT t (8 * i))), (ivals .i64 (qT t (8 * i)))⟩]) (hN : t.length - i < N), GoS Try.prog 20 R 82 [.code (csub (cd Try.f20) [1,1,1,1,1,1,1,1,0,1,0,0]), .inLoop (csub (cd Try.f20) [1,1,1,1,1,1,1,1,0,1,0,0]), .inBlock 0, .code (csub (cd Try.f20) [1,1,1,1,1,1,1,1,1])] [(0, .string (sb t)), (4, .int .i64 n), (7, .pointer (some (⟨b, 0, none⟩))), (8, .int .i64 ((i : Nat) : Int))] w := by
  intro N
  induction N with
  | zero => intro i v w hi hs hM hN; exact absurd hN (Nat.not_lt_zero _)
  | succ N ih =>
    intro i v w hi hs hM hN
    have o1 : (Builtin.len_ #[9] 3 #[.string (sb t)]).run Try.prog w = .ok (.int .i64 ((t.length : Nat) : Int)) w := f_len (by kernel_rfl)
    refine GoS.run [0, 4, 7, 8, 46] [.n, .n, .n, .n, .n, .h (.int .i64 ((t.length : Nat) : Int)), .n, .n] _ [.code (csub (cd Try.f20) [1,1,1,1,1,1,1,1,0,1,0,0,0,1]), .code (csub (cd Try.f20) [1,1,1,1,1,1,1,1,0,1,0,0,1]), .inLoop (csub (cd Try.f20) [1,1,1,1,1,1,1,1,0,1,0,0]), .inBlock 0, .code (csub (cd Try.f20) [1,1,1,1,1,1,1,1,1])] [(0, .string (sb t)), (4, .int .i64 n), (7, .pointer (some (⟨b, 0, none⟩))), (8, .int .i64 ((i : Nat) : Int)), (46, .bool (decide (((i : Nat) : Int) < ((t.length : Nat) : Int))))] w (by kernel_rfl) (.cons o1 .nil) ?_
    refine GoS.cond (decide (((i : Nat) : Int) < ((t.length : Nat) : Int))) [.code (csub (cd Try.f20) [1,1,1,1,1,1,1,1,0,1,0,0,0,1,0]), .code (csub (cd Try.f20) [1,1,1,1,1,1,1,1,0,1,0,0,1]), .inLoop (csub (cd Try.f20) [1,1,1,1,1,1,1,1,0,1,0,0]), .inBlock 0, .code (csub (cd Try.f20) [1,1,1,1,1,1,1,1,1])] [.code (csub (cd Try.f20) [1,1,1,1,1,1,1,1,0,1,0,0,0,1,1]), .code (csub (cd Try.f20) [1,1,1,1,1,1,1,1,0,1,0,0,1]), .inLoop (csub (cd Try.f20) [1,1,1,1,1,1,1,1,0,1,0,0]), .inBlock 0, .code (csub (cd Try.f20) [1,1,1,1,1,1,1,1,1])] (by kernel_rfl) (fun h2 => ?_) (fun h2 => ?_)
    ·
      have h2p : ((i : Nat) : Int) < ((t.length : Nat) : Int) := of_decide_eq_true h2
      refine GoS.run [0, 4, 7, 8] [.n] _ [.code (csub (cd Try.f20) [1,1,1,1,1,1,1,1,0,1,0,0,1]), .inLoop (csub (cd Try.f20) [1,1,1,1,1,1,1,1,0,1,0,0]), .inBlock 0, .code (csub (cd Try.f20) [1,1,1,1,1,1,1,1,1])] [(0, .string (sb t)), (4, .int .i64 n), (7, .pointer (some (⟨b, 0, none⟩))), (8, .int .i64 ((i : Nat) : Int))] w (by kernel_rfl) .nil ?_
      have hb3 := bl_bd t i
      have o4 : (Instr.index 9 (.string (sb t)) (.int .i64 ((i : Nat) : Int))).run Try.prog w = .ok (.int .u8 (bl t i)) w := f_index i (by kernel_rfl) (by omega) (by first | omega | (dsimp only; omega))
      have o5 : (convert 5 3 (.int .u8 (bl t i))).run Try.prog w = .ok (.int .i64 (bl t i)) w := f_conv (u := .int .u8) (by kernel_rfl) (by kernel_rfl) (IntWalk.i64_in _ (by omega))
      refine GoS.run [0, 4, 7, 8, 9, 10] [.n, .n, .n, .n, .n, .n, .h (.int .u8 (bl t i)), .h (.int .i64 (bl t i)), .n, .n, .n, .n, .n, .n, .n, .n] _ [.code (csub (cd Try.f20) [1,1,1,1,1,1,1,1,0,1,0,0,1,0,0,1,1,0,0]), .inLoop (csub (cd Try.f20) [1,1,1,1,1,1,1,1,0,1,0,0,1,0,0,1,1,0,0]), .inBlock 2, .inBlock 1, .code (csub (cd Try.f20) [1,1,1,1,1,1,1,1,0,1,0,0,1,1]), .inLoop (csub (cd Try.f20) [1,1,1,1,1,1,1,1,0,1,0,0]), .inBlock 0, .code (csub (cd Try.f20) [1,1,1,1,1,1,1,1,1])] [(0, .string (sb t)), (4, .int .i64 n), (7, .pointer (some (⟨b, 0, none⟩))), (8, .int .i64 ((i : Nat) : Int)), (9, .int .i64 (bl t i)), (10, .int .i64 0)] w (by kernel_rfl) (.cons o4 (.cons o5 .nil)) ?_
      have hb := bl_bd t i
      exact rread_I t n hn ht b Q hQ (i := i) (by omega) R hR 9 0 (bl t i) _ w (fun v w h m => ih (i + 1) v w (by omega) h m (by omega)) (by omega) (by rw [Nat.pow_zero]; omega) (by omega) (fun x hx => hs x (by omega)) hM (by omega)
    ·
      have h2p : ¬ (((i : Nat) : Int) < ((t.length : Nat) : Int)) := of_decide_eq_false h2
      refine GoS.run [2, 3] [.n, .n, .n, .n, .n, .n, .n] _ [.code (csub (cd Try.f20) [1,1,1,1,1,1,1,1,1,1])] [(2, .pointer (some (⟨b, 0, none⟩))), (3, .int .i64 0)] w (by kernel_rfl) .nil ?_
      refine GoS.ret (fn := Try.f20) (v := (.tuple #[.pointer (some (⟨b, 0, none⟩)), .int .i64 0])) Try.func20 (by kernel_rfl) ?_
      rw [hR]
      obtain rfl : i = t.length := by omega
      exact hQ _ _ (.inr ⟨bad_no (fun x hx hb => by have := hs x hx hb; omega), _, rfl, hM⟩)

set_option maxHeartbeats 400000 in
theorem rread_c (s : List UInt8) (w : World) :
    Calls Try.prog 20 #[.string (sb s)] w (fun e w' => (readE s ≠ 0 ∧ e = .returned (.tuple #[.pointer none, .int .i64 (readE s)]) ∧ Mem [] w w' []) ∨ (readE s = 0 ∧ ∃ b v, e = .returned (.tuple #[.pointer (some ⟨b, 0, none⟩), .int .i64 0]) ∧ Mem [] w w' [⟨40, 2, (obj b), 1, [.int .i64 ((cntP s).1), v]⟩, ⟨3, 1, v, (List.length (readQ s)), (ivals .i64 (readQ s))⟩])) := by
  have hcb := cntP_bd s
  obtain ⟨R, hR⟩ : ∃ R : Ending → World → Prop, R = (fun e w' => (readE s ≠ 0 ∧ e = .returned (.tuple #[.pointer none, .int .i64 (readE s)]) ∧ Mem [] w w' []) ∨ (readE s = 0 ∧ ∃ b v, e = .returned (.tuple #[.pointer (some ⟨b, 0, none⟩), .int .i64 0]) ∧ Mem [] w w' [⟨40, 2, (obj b), 1, [.int .i64 ((cntP s).1), v]⟩, ⟨3, 1, v, (List.length (readQ s)), (ivals .i64 (readQ s))⟩])) := ⟨_, rfl⟩
  rw [← hR]
  refine GoS.enter (n := 82) Try.func20 (by kernel_rfl) rfl [(0, .string (sb s))] (by kernel_rfl) (by kernel_rfl) ?_
  have hM0 := Mem.start w
  refine GoS.run [0, 12] [.n, .n, .n, .n, .n, .n, .n, .n] _ [.inRegion (cops (csub (cd Try.f20) [1,0])) [1,2,3,4,5,6,7,8], .code (csub (cd Try.f20) [1,1])] [(0, .string (sb s)), (12, .string (sb s))] w (by kernel_rfl) .nil ?_
  refine GoS.call [0] 26 #[.string (sb s)] (some 13) [.inRegion (cops (csub (cd Try.f20) [1,0])) [2,3,4,5,6,7,8], .code (csub (cd Try.f20) [1,1])] [(0, .string (sb s))] (by kernel_rfl) (rreadcount_c s w) ?_
  rintro _ w1 ⟨rfl, m2⟩
  refine ⟨_, rfl, ?_⟩
  have hM3 := Mem.join hM0 m2
  refine GoS.run [0, 4, 5, 6, 18] [.n, .n, .n, .n, .n, .n, .n, .n, .n, .n, .n, .n, .n, .n] _ [.code (csub (cd Try.f20) [1,1,0,1]), .code (csub (cd Try.f20) [1,1,1])] [(0, .string (sb s)), (4, .int .i64 ((cntP s).1)), (5, .int .i64 ((cntP s).2.1)), (6, .int .i64 ((cntP s).2.2)), (18, .bool ((cntP s).2.2 != 0))] w1 (by kernel_rfl) .nil ?_
  refine GoS.cond ((cntP s).2.2 != 0) [.code (csub (cd Try.f20) [1,1,0,1,0]), .code (csub (cd Try.f20) [1,1,1])] [.code (csub (cd Try.f20) [1,1,0,1,1]), .code (csub (cd Try.f20) [1,1,1])] (by kernel_rfl) (fun h4 => ?_) (fun h4 => ?_)
  ·
    have h4p : ¬ ((cntP s).2.2 = 0) := bne_iff_ne.1 h4
    refine GoS.run [2, 3] [.n, .n, .n, .n, .n, .n] _ [.code (csub (cd Try.f20) [1,1,0,1,0,1]), .code (csub (cd Try.f20) [1,1,1])] [(2, .pointer none), (3, .int .i64 ((cntP s).2.2))] w1 (by kernel_rfl) .nil ?_
    refine GoS.ret (fn := Try.f20) (v := (.tuple #[.pointer none, .int .i64 ((cntP s).2.2)])) Try.func20 (by kernel_rfl) ?_
    rw [hR]
    have hcb := cntP_bd s
    have hl : (cntR s).length = (List.drop (cntP s).2.1.toNat s).length := rfl
    have e : readE s = (cntP s).2.2 := by unfold readE; rw [if_pos (by omega)]
    exact .inl ⟨by omega, by rw [e], hM3⟩
  ·
    have h4p : (cntP s).2.2 = 0 := p_eq h4
    refine GoS.run [0, 4, 5] [.n] _ [.code (csub (cd Try.f20) [1,1,1])] [(0, .string (sb s)), (4, .int .i64 ((cntP s).1)), (5, .int .i64 ((cntP s).2.1))] w1 (by kernel_rfl) .nil ?_
    refine GoS.run [0, 4, 5, 21] [.n, .n, .n] _ [.inRegion (cops (csub (cd Try.f20) [1,1,1,0])) [1,2,3,4,5,6], .code (csub (cd Try.f20) [1,1,1,1])] [(0, .string (sb s)), (4, .int .i64 ((cntP s).1)), (5, .int .i64 ((cntP s).2.1)), (21, .int .i64 ((cntP s).1))] w1 (by kernel_rfl) .nil ?_
    refine GoS.call [0, 4, 5] 9 #[.int .i64 ((cntP s).1)] (some 22) [.inRegion (cops (csub (cd Try.f20) [1,1,1,0])) [2,3,4,5,6], .code (csub (cd Try.f20) [1,1,1,1])] [(0, .string (sb s)), (4, .int .i64 ((cntP s).1)), (5, .int .i64 ((cntP s).2.1))] (by kernel_rfl) (rnew_c ((cntP s).1) w1) ?_
    rintro _ w5 (⟨hn10, rfl, m6⟩ | ⟨hn10, b8, v9, rfl, m6⟩)
    ·
      refine ⟨_, rfl, ?_⟩
      have hM7 := Mem.join hM3 m6
      refine GoS.run [0, 4, 5, 6, 7, 26] [.n, .n, .n, .n, .n, .n, .n, .n, .n, .n, .n, .n] _ [.code (csub (cd Try.f20) [1,1,1,1,0,1]), .code (csub (cd Try.f20) [1,1,1,1,1])] [(0, .string (sb s)), (4, .int .i64 ((cntP s).1)), (5, .int .i64 ((cntP s).2.1)), (6, .int .i64 (newE ((cntP s).1))), (7, .pointer none), (26, .bool ((newE ((cntP s).1)) != 0))] w5 (by kernel_rfl) .nil ?_
      refine GoS.cond ((newE ((cntP s).1)) != 0) [.code (csub (cd Try.f20) [1,1,1,1,0,1,0]), .code (csub (cd Try.f20) [1,1,1,1,1])] [.code (csub (cd Try.f20) [1,1,1,1,0,1,1]), .code (csub (cd Try.f20) [1,1,1,1,1])] (by kernel_rfl) (fun h11 => ?_) (fun h11 => ?_)
      ·
        have h11p : ¬ ((newE ((cntP s).1)) = 0) := bne_iff_ne.1 h11
        refine GoS.run [2, 3] [.n, .n, .n, .n, .n, .n] _ [.code (csub (cd Try.f20) [1,1,1,1,0,1,0,1]), .code (csub (cd Try.f20) [1,1,1,1,1])] [(2, .pointer none), (3, .int .i64 (newE ((cntP s).1)))] w5 (by kernel_rfl) .nil ?_
        refine GoS.ret (fn := Try.f20) (v := (.tuple #[.pointer none, .int .i64 (newE ((cntP s).1))])) Try.func20 (by kernel_rfl) ?_
        rw [hR]
        have hcb := cntP_bd s
        have hl : (cntR s).length = (List.drop (cntP s).2.1.toNat s).length := rfl
        have e : readE s = newE (cntP s).1 := by unfold readE; rw [if_neg (by omega), if_pos (by assumption)]
        exact .inl ⟨by rw [e]; assumption, by rw [e], hM7⟩
      ·
        exact absurd (p_eq h11) (by assumption)
    ·
      refine ⟨_, rfl, ?_⟩
      have hM7 := Mem.join hM3 m6
      have hn10k := newE_ok hn10
      have o12 : (Instr.sliceAt 9 (.string (sb s)) (some (.int .i64 ((cntP s).2.1))) none none).run Try.prog w5 = .ok (.string (sb (List.drop (Int.toNat ((cntP s).2.1)) s))) w5 := f_slice_lo (Int.toNat ((cntP s).2.1)) (by kernel_rfl) (by omega) (by first | omega | (have q := cntP_bd s; omega))
      have o13 : (Builtin.len_ #[9] 3 #[.string (sb (List.drop (Int.toNat ((cntP s).2.1)) s))]).run Try.prog w5 = .ok (.int .i64 (((List.drop (Int.toNat ((cntP s).2.1)) s).length : Nat) : Int)) w5 := f_len (by kernel_rfl)
      have o14 : (binOp .add 3 (.int .i64 ((cntP s).1)) (.int .i64 7)).run Try.prog w5 = .ok (.int .i64 ((cntP s).1 + 7)) w5 := f_add (IntWalk.i64_in _ (by omega))
      have o15 : (binOp .quo 3 (.int .i64 ((cntP s).1 + 7)) (.int .i64 8)).run Try.prog w5 = .ok (.int .i64 (((cntP s).1 + 7) / 8)) w5 := f_quo (by decide) (IntWalk.i64_quo _ _ (by omega))
      refine GoS.run [0, 4, 7, 36] [.n, .n, .n, .n, .n, .n, .n, .n, .n, .n, .n, .n, .n, .n, .n, .n, .n, .n, .h (.string (sb (List.drop (Int.toNat ((cntP s).2.1)) s))), .n, .n, .n, .n, .n, .n, .h (.int .i64 (((List.drop (Int.toNat ((cntP s).2.1)) s).length : Nat) : Int)), .n, .h (.int .i64 ((cntP s).1 + 7)), .h (.int .i64 (((cntP s).1 + 7) / 8)), .n, .n] _ [.code (csub (cd Try.f20) [1,1,1,1,1,1,0,1]), .code (csub (cd Try.f20) [1,1,1,1,1,1,1])] [(0, .string (sb (List.drop (Int.toNat ((cntP s).2.1)) s))), (4, .int .i64 ((cntP s).1)), (7, .pointer (some (⟨b8, 0, none⟩))), (36, .bool (decide ((((List.drop (Int.toNat ((cntP s).2.1)) s).length : Nat) : Int) < (((cntP s).1 + 7) / 8))))] w5 (by kernel_rfl) (.cons o12 (.cons o13 (.cons o14 (.cons o15 .nil)))) ?_
      refine GoS.cond (decide ((((List.drop (Int.toNat ((cntP s).2.1)) s).length : Nat) : Int) < (((cntP s).1 + 7) / 8))) [.code (csub (cd Try.f20) [1,1,1,1,1,1,0,1,0]), .code (csub (cd Try.f20) [1,1,1,1,1,1,1])] [.code (csub (cd Try.f20) [1,1,1,1,1,1,0,1,1]), .code (csub (cd Try.f20) [1,1,1,1,1,1,1])] (by kernel_rfl) (fun h16 => ?_) (fun h16 => ?_)
      ·
        have h16p : (((List.drop (Int.toNat ((cntP s).2.1)) s).length : Nat) : Int) < (((cntP s).1 + 7) / 8) := of_decide_eq_true h16
        have hM17 : Mem [] w w5 [] := hM7.sub (List.Sublist.cons _ (List.Sublist.cons _ (List.Sublist.refl _)))
        refine GoS.run [2, 3] [.n, .n, .n, .n, .n] _ [.code (csub (cd Try.f20) [1,1,1,1,1,1,0,1,0,1]), .code (csub (cd Try.f20) [1,1,1,1,1,1,1])] [(2, .pointer none), (3, .int .i64 2)] w5 (by kernel_rfl) .nil ?_
        refine GoS.ret (fn := Try.f20) (v := (.tuple #[.pointer none, .int .i64 2])) Try.func20 (by kernel_rfl) ?_
        rw [hR]
        have hcb := cntP_bd s
        have hl : (cntR s).length = (List.drop (cntP s).2.1.toNat s).length := rfl
        have e : readE s = 2 := by unfold readE; rw [if_neg (by omega), if_neg (by omega), if_pos (by omega)]
        exact .inl ⟨by omega, by rw [e], hM17⟩
      ·
        have h16p : ¬ ((((List.drop (Int.toNat ((cntP s).2.1)) s).length : Nat) : Int) < (((cntP s).1 + 7) / 8)) := of_decide_eq_false h16
        refine GoS.run [0, 4, 7] [.n] _ [.code (csub (cd Try.f20) [1,1,1,1,1,1,1])] [(0, .string (sb (List.drop (Int.toNat ((cntP s).2.1)) s))), (4, .int .i64 ((cntP s).1)), (7, .pointer (some (⟨b8, 0, none⟩)))] w5 (by kernel_rfl) .nil ?_
        have o18 : (Builtin.len_ #[9] 3 #[.string (sb (List.drop (Int.toNat ((cntP s).2.1)) s))]).run Try.prog w5 = .ok (.int .i64 (((List.drop (Int.toNat ((cntP s).2.1)) s).length : Nat) : Int)) w5 := f_len (by kernel_rfl)
        have o19 : (binOp .add 3 (.int .i64 ((cntP s).1)) (.int .i64 7)).run Try.prog w5 = .ok (.int .i64 ((cntP s).1 + 7)) w5 := f_add (IntWalk.i64_in _ (by omega))
        have o20 : (binOp .quo 3 (.int .i64 ((cntP s).1 + 7)) (.int .i64 8)).run Try.prog w5 = .ok (.int .i64 (((cntP s).1 + 7) / 8)) w5 := f_quo (by decide) (IntWalk.i64_quo _ _ (by omega))
        refine GoS.run [0, 4, 7, 42] [.n, .n, .n, .n, .h (.int .i64 (((List.drop (Int.toNat ((cntP s).2.1)) s).length : Nat) : Int)), .n, .h (.int .i64 ((cntP s).1 + 7)), .h (.int .i64 (((cntP s).1 + 7) / 8)), .n, .n] _ [.code (csub (cd Try.f20) [1,1,1,1,1,1,1,0,1]), .code (csub (cd Try.f20) [1,1,1,1,1,1,1,1])] [(0, .string (sb (List.drop (Int.toNat ((cntP s).2.1)) s))), (4, .int .i64 ((cntP s).1)), (7, .pointer (some (⟨b8, 0, none⟩))), (42, .bool (decide ((((List.drop (Int.toNat ((cntP s).2.1)) s).length : Nat) : Int) > (((cntP s).1 + 7) / 8))))] w5 (by kernel_rfl) (.cons o18 (.cons o19 (.cons o20 .nil))) ?_
        refine GoS.cond (decide ((((List.drop (Int.toNat ((cntP s).2.1)) s).length : Nat) : Int) > (((cntP s).1 + 7) / 8))) [.code (csub (cd Try.f20) [1,1,1,1,1,1,1,0,1,0]), .code (csub (cd Try.f20) [1,1,1,1,1,1,1,1])] [.code (csub (cd Try.f20) [1,1,1,1,1,1,1,0,1,1]), .code (csub (cd Try.f20) [1,1,1,1,1,1,1,1])] (by kernel_rfl) (fun h21 => ?_) (fun h21 => ?_)
        ·
          have h21p : (((List.drop (Int.toNat ((cntP s).2.1)) s).length : Nat) : Int) > (((cntP s).1 + 7) / 8) := of_decide_eq_true h21
          have hM22 : Mem [] w w5 [] := hM7.sub (List.Sublist.cons _ (List.Sublist.cons _ (List.Sublist.refl _)))
          refine GoS.run [2, 3] [.n, .n, .n, .n, .n] _ [.code (csub (cd Try.f20) [1,1,1,1,1,1,1,0,1,0,1]), .code (csub (cd Try.f20) [1,1,1,1,1,1,1,1])] [(2, .pointer none), (3, .int .i64 5)] w5 (by kernel_rfl) .nil ?_
          refine GoS.ret (fn := Try.f20) (v := (.tuple #[.pointer none, .int .i64 5])) Try.func20 (by kernel_rfl) ?_
          rw [hR]
          have hcb := cntP_bd s
          have hl : (cntR s).length = (List.drop (cntP s).2.1.toNat s).length := rfl
          have e : readE s = 5 := by unfold readE; rw [if_neg (by omega), if_neg (by omega), if_neg (by omega), if_pos (by omega)]
          exact .inl ⟨by omega, by rw [e], hM22⟩
        ·
          have h21p : ¬ ((((List.drop (Int.toNat ((cntP s).2.1)) s).length : Nat) : Int) > (((cntP s).1 + 7) / 8)) := of_decide_eq_false h21
          refine GoS.run [0, 4, 7] [.n] _ [.code (csub (cd Try.f20) [1,1,1,1,1,1,1,1])] [(0, .string (sb (List.drop (Int.toNat ((cntP s).2.1)) s))), (4, .int .i64 ((cntP s).1)), (7, .pointer (some (⟨b8, 0, none⟩)))] w5 (by kernel_rfl) .nil ?_
          refine GoS.run [0, 4, 7, 8] [.n, .n, .n, .n, .n, .n, .n] _ [.code (csub (cd Try.f20) [1,1,1,1,1,1,1,1,0,1,0,0]), .inLoop (csub (cd Try.f20) [1,1,1,1,1,1,1,1,0,1,0,0]), .inBlock 0, .code (csub (cd Try.f20) [1,1,1,1,1,1,1,1,1])] [(0, .string (sb (List.drop (Int.toNat ((cntP s).2.1)) s))), (4, .int .i64 ((cntP s).1)), (7, .pointer (some (⟨b8, 0, none⟩))), (8, .int .i64 0)] w5 (by kernel_rfl) .nil ?_
          have hl : (cntR s).length = (List.drop (cntP s).2.1.toNat s).length := rfl
          refine rread_L (cntR s) (cntP s).1 (by omega) (by omega) b8 R (fun e w1 h => ?_) R rfl ((cntR s).length + 1) 0 _ w5 (by omega) (fun x hx => absurd hx (Nat.not_lt_zero _)) (hM7.cast (by rw [show qT (cntR s) (8 * 0) = [] by simp [qT]]; rfl)) (by omega)
          rw [hR]
          rcases h with ⟨h1, h2, h3⟩ | ⟨h1, v, h2, h3⟩
          · have e : readE s = 3 := by unfold readE; rw [if_neg (by omega), if_neg (by omega), if_neg (by omega), if_neg (by omega), if_pos h1]
            exact .inl ⟨by omega, by rw [e]; exact h2, h3⟩
          · have e : readE s = 0 := by unfold readE; rw [if_neg (by omega), if_neg (by omega), if_neg (by omega), if_neg (by omega), if_neg (by rw [h1]; simp)]
            exact .inr ⟨e, _, _, h2, h3⟩


end Go.Proofs.Ytiifhlhmkpcaeaa
