/-
  The walk of Read of a set.
-/
import Derived.Test.YtiifhlhmkpcaeaaLiveD
import Derived.Test.YtiifhlhmkpcaeaaLiveR
namespace Go.Proofs.Ytiifhlhmkpcaeaa
open Go Go.Gw Go.NumP Go.LiveP Go.RowKit
set_option linter.unusedVariables false
set_option linter.unusedSimpArgs false


set_option maxHeartbeats 400000 in
theorem lread_L {w0 : World} (t : List UInt8) (n : Nat) (hn : n ≤ 1048576) (ht : t.length ≤ 131072) (b : Nat) (v : Value) (Q : Ending → World → Prop) (hQ : ∀ e w', (badT t n = true ∧ e = .returned (.tuple #[.pointer none, .int .i64 3]) ∧ Mem [] w0 w' []) ∨ (badT t n = false ∧ e = .returned (.tuple #[.pointer (some ⟨b, 0, none⟩), .int .i64 0]) ∧ Mem [] w0 w' [⟨49, 2, (obj b), 1, [v, .int .i64 (((lft (maskT t n (8 * t.length))) : Nat) : Int)]⟩, ⟨4, 1, v, (List.length (maskT t n (8 * t.length))), (bvals (maskT t n (8 * t.length)))⟩]) → Q e w') (R : Ending → World → Prop) (hR : R = (Q)) : ∀ (N : Nat) (i : Nat) (w : World) (hi : i ≤ 8 * t.length) (hs : ∀ x, x < i → bitT t x = true → x < n) (hM : Mem [] w0 w [⟨49, 2, (obj b), 1, [v, .int .i64 (((lft (maskT t n i)) : Nat) : Int)]⟩, ⟨4, 1, v, (List.length (maskT t n i)), (bvals (maskT t n i))⟩]) (hN : 8 * t.length - i < N), GoS Try.prog 19 R 67 [.code (csub (cd Try.f19) [1,1,1,1,1,1,1,1,0,1,0,0]), .inLoop (csub (cd Try.f19) [1,1,1,1,1,1,1,1,0,1,0,0]), .inBlock 1, .code (csub (cd Try.f19) [1,1,1,1,1,1,1,1,1])] [(7, .pointer (some (⟨b, 0, none⟩))), (8, .string (sb t)), (46, .int .i64 (((8 * t.length) : Nat) : Int)), (47, .int .i64 ((i : Nat) : Int))] w := by
  intro N
  induction N with
  | zero => intro i w hi hs hM hN; exact absurd hN (Nat.not_lt_zero _)
  | succ N ih =>
    intro i w hi hs hM hN
    refine GoS.run [7, 8, 46, 47, 48] [.n, .n, .n, .n, .n] _ [.code (csub (cd Try.f19) [1,1,1,1,1,1,1,1,0,1,0,0,1,0]), .code (csub (cd Try.f19) [1,1,1,1,1,1,1,1,0,1,0,0,1,1]), .inLoop (csub (cd Try.f19) [1,1,1,1,1,1,1,1,0,1,0,0]), .inBlock 1, .code (csub (cd Try.f19) [1,1,1,1,1,1,1,1,1])] [(7, .pointer (some (⟨b, 0, none⟩))), (8, .string (sb t)), (46, .int .i64 (((8 * t.length) : Nat) : Int)), (47, .int .i64 ((i : Nat) : Int)), (48, .bool (decide (((i : Nat) : Int) < (((8 * t.length) : Nat) : Int))))] w (by kernel_rfl) .nil ?_
    refine GoS.cond (decide (((i : Nat) : Int) < (((8 * t.length) : Nat) : Int))) [.code (csub (cd Try.f19) [1,1,1,1,1,1,1,1,0,1,0,0,1,0,0]), .code (csub (cd Try.f19) [1,1,1,1,1,1,1,1,0,1,0,0,1,1]), .inLoop (csub (cd Try.f19) [1,1,1,1,1,1,1,1,0,1,0,0]), .inBlock 1, .code (csub (cd Try.f19) [1,1,1,1,1,1,1,1,1])] [.code (csub (cd Try.f19) [1,1,1,1,1,1,1,1,0,1,0,0,1,0,1]), .code (csub (cd Try.f19) [1,1,1,1,1,1,1,1,0,1,0,0,1,1]), .inLoop (csub (cd Try.f19) [1,1,1,1,1,1,1,1,0,1,0,0]), .inBlock 1, .code (csub (cd Try.f19) [1,1,1,1,1,1,1,1,1])] (by kernel_rfl) (fun h1 => ?_) (fun h1 => ?_)
    ·
      have h1p : ((i : Nat) : Int) < (((8 * t.length) : Nat) : Int) := of_decide_eq_true h1
      refine GoS.run [7, 8, 46, 47] [.n] _ [.code (csub (cd Try.f19) [1,1,1,1,1,1,1,1,0,1,0,0,1,1]), .inLoop (csub (cd Try.f19) [1,1,1,1,1,1,1,1,0,1,0,0]), .inBlock 1, .code (csub (cd Try.f19) [1,1,1,1,1,1,1,1,1])] [(7, .pointer (some (⟨b, 0, none⟩))), (8, .string (sb t)), (46, .int .i64 (((8 * t.length) : Nat) : Int)), (47, .int .i64 ((i : Nat) : Int))] w (by kernel_rfl) .nil ?_
      have o3 : (binOp .quo 3 (.int .i64 ((i : Nat) : Int)) (.int .i64 8)).run Try.prog w = .ok (.int .i64 (((i / 8) : Nat) : Int)) w := f_quo (by decide) ((IntWalk.i64_quo _ _ (by omega)).trans (by omega))
      have hb2 := bl_bd t (i / 8)
      have o4 : (Instr.index 9 (.string (sb t)) (.int .i64 (((i / 8) : Nat) : Int))).run Try.prog w = .ok (.int .u8 (bl t (i / 8))) w := f_index (i / 8) (by kernel_rfl) (by omega) (by omega)
      have o5 : (binOp .rem 3 (.int .i64 ((i : Nat) : Int)) (.int .i64 8)).run Try.prog w = .ok (.int .i64 (((i % 8) : Nat) : Int)) w := f_rem (by decide) ((IntWalk.rem_in _ _ (by omega)).trans (by omega))
      have o6 : (binOp .shr 5 (.int .u8 (bl t (i / 8))) (.int .i64 (((i % 8) : Nat) : Int))).run Try.prog w = .ok (.int .u8 ((bl t (i / 8)) / ((2 ^ (i % 8) : Nat) : Int))) w := f_shr (by omega) (shr8 (by omega))
      have o7 : (binOp .and 5 (.int .u8 ((bl t (i / 8)) / ((2 ^ (i % 8) : Nat) : Int))) (.int .u8 1)).run Try.prog w = .ok (.int .u8 (((bl t (i / 8)) / ((2 ^ (i % 8) : Nat) : Int)) % 2)) w := f_and (and_u8 _ 1 1 (by decide) (by decide))
      refine GoS.run [7, 8, 10, 46, 47, 59] [.n, .n, .n, .n, .n, .n, .n, .n, .n, .n, .n, .h (.int .i64 (((i / 8) : Nat) : Int)), .h (.int .u8 (bl t (i / 8))), .n, .h (.int .i64 (((i % 8) : Nat) : Int)), .h (.int .u8 ((bl t (i / 8)) / ((2 ^ (i % 8) : Nat) : Int))), .h (.int .u8 (((bl t (i / 8)) / ((2 ^ (i % 8) : Nat) : Int)) % 2)), .n, .n] _ [.inRegion (cops (csub (cd Try.f19) [1,1,1,1,1,1,1,1,0,1,0,0,1,1,0,0,1,0])) [10,11,12,13,14], .code (csub (cd Try.f19) [1,1,1,1,1,1,1,1,0,1,0,0,1,1,0,0,1,1]), .inBlock 2, .code (csub (cd Try.f19) [1,1,1,1,1,1,1,1,0,1,0,0,1,1,1]), .inLoop (csub (cd Try.f19) [1,1,1,1,1,1,1,1,0,1,0,0]), .inBlock 1, .code (csub (cd Try.f19) [1,1,1,1,1,1,1,1,1])] [(7, .pointer (some (⟨b, 0, none⟩))), (8, .string (sb t)), (10, .int .i64 ((i : Nat) : Int)), (46, .int .i64 (((8 * t.length) : Nat) : Int)), (47, .int .i64 ((i : Nat) : Int)), (59, .bool ((((bl t (i / 8)) / ((2 ^ (i % 8) : Nat) : Int)) % 2) == 1))] w (by kernel_rfl) (.cons o3 (.cons o4 (.cons o5 (.cons o6 (.cons o7 .nil))))) ?_
      refine GoS.fork 59 ((((bl t (i / 8)) / ((2 ^ (i % 8) : Nat) : Int)) % 2) == 1) (by kernel_rfl) (fun h8 => ?_) (fun h8 => ?_)
      ·
        have h8p : (((bl t (i / 8)) / ((2 ^ (i % 8) : Nat) : Int)) % 2) = 1 := eq_of_beq h8
        refine GoS.run [7, 8, 46, 47, 59, 60, 61] [.n, .n] _ [.inRegion (cops (csub (cd Try.f19) [1,1,1,1,1,1,1,1,0,1,0,0,1,1,0,0,1,0])) [12,13,14], .code (csub (cd Try.f19) [1,1,1,1,1,1,1,1,0,1,0,0,1,1,0,0,1,1]), .inBlock 2, .code (csub (cd Try.f19) [1,1,1,1,1,1,1,1,0,1,0,0,1,1,1]), .inLoop (csub (cd Try.f19) [1,1,1,1,1,1,1,1,0,1,0,0]), .inBlock 1, .code (csub (cd Try.f19) [1,1,1,1,1,1,1,1,1])] [(7, .pointer (some (⟨b, 0, none⟩))), (8, .string (sb t)), (46, .int .i64 (((8 * t.length) : Nat) : Int)), (47, .int .i64 ((i : Nat) : Int)), (59, .bool true), (60, .pointer (some (⟨b, 0, none⟩))), (61, .int .i64 ((i : Nat) : Int))] w (by kernel_rfl) .nil ?_
        have hM9 : Mem [] w0 w [⟨4, 1, v, (List.length (maskT t n i)), (bvals (maskT t n i))⟩, ⟨49, 2, (obj b), 1, [v, .int .i64 (((lft (maskT t n i)) : Nat) : Int)]⟩] := hM.perm ((List.Perm.cons _ (List.Perm.refl _)).trans (List.Perm.swap _ _ _))
        have hM10 : Mem [] w0 w [⟨49, 2, (obj b), 1, [v, .int .i64 (((lft (maskT t n i)) : Nat) : Int)]⟩, ⟨4, 1, v, (List.length (maskT t n i)), (bvals (maskT t n i))⟩] := hM9.perm ((List.Perm.cons _ (List.Perm.refl _)).trans (List.Perm.swap _ _ _))
        refine GoS.call [7, 8, 46, 47, 59] 12 #[.pointer (some (⟨b, 0, none⟩)), .int .i64 ((i : Nat) : Int)] (some 62) [.inRegion (cops (csub (cd Try.f19) [1,1,1,1,1,1,1,1,0,1,0,0,1,1,0,0,1,0])) [13,14], .code (csub (cd Try.f19) [1,1,1,1,1,1,1,1,0,1,0,0,1,1,0,0,1,1]), .inBlock 2, .code (csub (cd Try.f19) [1,1,1,1,1,1,1,1,0,1,0,0,1,1,1]), .inLoop (csub (cd Try.f19) [1,1,1,1,1,1,1,1,0,1,0,0]), .inBlock 1, .code (csub (cd Try.f19) [1,1,1,1,1,1,1,1,1])] [(7, .pointer (some (⟨b, 0, none⟩))), (8, .string (sb t)), (46, .int .i64 (((8 * t.length) : Nat) : Int)), (47, .int .i64 ((i : Nat) : Int)), (59, .bool true)] (by kernel_rfl) (kill_c b v (maskT t n i) (by rw [maskT_len]; omega) ((i : Nat) : Int) w (Mem.lend (R := [⟨49, 2, (obj b), 1, [v, .int .i64 (((lft (maskT t n i)) : Nat) : Int)]⟩, ⟨4, 1, v, (List.length (maskT t n i)), (bvals (maskT t n i))⟩]) (L := []) hM10)) ?_
        rintro _ w11 ⟨rfl, m12⟩
        refine ⟨_, rfl, ?_⟩
        have hM13 : Mem [] w0 w11 [⟨49, 2, (obj b), 1, [v, .int .i64 (((lft (killG (maskT t n i) ((i : Nat) : Int))) : Nat) : Int)]⟩, ⟨4, 1, v, (List.length (killG (maskT t n i) ((i : Nat) : Int))), (bvals (killG (maskT t n i) ((i : Nat) : Int)))⟩] := Mem.back (R := [⟨49, 2, (obj b), 1, [v, .int .i64 (((lft (maskT t n i)) : Nat) : Int)]⟩, ⟨4, 1, v, (List.length (maskT t n i)), (bvals (maskT t n i))⟩]) (L := []) hM10 m12
        refine GoS.run [7, 8, 46, 47, 64] [.n, .n] _ [.inRegion (cops (csub (cd Try.f19) [1,1,1,1,1,1,1,1,0,1,0,0,1,1,0,0,1,0])) [], .code (csub (cd Try.f19) [1,1,1,1,1,1,1,1,0,1,0,0,1,1,0,0,1,1]), .inBlock 2, .code (csub (cd Try.f19) [1,1,1,1,1,1,1,1,0,1,0,0,1,1,1]), .inLoop (csub (cd Try.f19) [1,1,1,1,1,1,1,1,0,1,0,0]), .inBlock 1, .code (csub (cd Try.f19) [1,1,1,1,1,1,1,1,1])] [(7, .pointer (some (⟨b, 0, none⟩))), (8, .string (sb t)), (46, .int .i64 (((8 * t.length) : Nat) : Int)), (47, .int .i64 ((i : Nat) : Int)), (64, .bool (!(lvB (maskT t n i) ((i : Nat) : Int))))] w11 (by kernel_rfl) .nil ?_
        refine GoS.run [7, 8, 46, 47, 64] [.n] _ [.code (csub (cd Try.f19) [1,1,1,1,1,1,1,1,0,1,0,0,1,1,0,0,1,1]), .inBlock 2, .code (csub (cd Try.f19) [1,1,1,1,1,1,1,1,0,1,0,0,1,1,1]), .inLoop (csub (cd Try.f19) [1,1,1,1,1,1,1,1,0,1,0,0]), .inBlock 1, .code (csub (cd Try.f19) [1,1,1,1,1,1,1,1,1])] [(7, .pointer (some (⟨b, 0, none⟩))), (8, .string (sb t)), (46, .int .i64 (((8 * t.length) : Nat) : Int)), (47, .int .i64 ((i : Nat) : Int)), (64, .bool (!(lvB (maskT t n i) ((i : Nat) : Int))))] w11 (by kernel_rfl) .nil ?_
        refine GoS.cond (!(lvB (maskT t n i) ((i : Nat) : Int))) [.code (csub (cd Try.f19) [1,1,1,1,1,1,1,1,0,1,0,0,1,1,0,0,1,1,0]), .inBlock 2, .code (csub (cd Try.f19) [1,1,1,1,1,1,1,1,0,1,0,0,1,1,1]), .inLoop (csub (cd Try.f19) [1,1,1,1,1,1,1,1,0,1,0,0]), .inBlock 1, .code (csub (cd Try.f19) [1,1,1,1,1,1,1,1,1])] [.code (csub (cd Try.f19) [1,1,1,1,1,1,1,1,0,1,0,0,1,1,0,0,1,1,1]), .inBlock 2, .code (csub (cd Try.f19) [1,1,1,1,1,1,1,1,0,1,0,0,1,1,1]), .inLoop (csub (cd Try.f19) [1,1,1,1,1,1,1,1,0,1,0,0]), .inBlock 1, .code (csub (cd Try.f19) [1,1,1,1,1,1,1,1,1])] (by kernel_rfl) (fun h14 => ?_) (fun h14 => ?_)
        ·
          have hM15 : Mem [] w0 w11 [] := hM13.sub (List.Sublist.cons _ (List.Sublist.cons _ (List.Sublist.refl _)))
          refine GoS.run [2, 3] [.n, .n, .n, .n, .n] _ [.code (csub (cd Try.f19) [1,1,1,1,1,1,1,1,0,1,0,0,1,1,0,0,1,1,0,1]), .inBlock 2, .code (csub (cd Try.f19) [1,1,1,1,1,1,1,1,0,1,0,0,1,1,1]), .inLoop (csub (cd Try.f19) [1,1,1,1,1,1,1,1,0,1,0,0]), .inBlock 1, .code (csub (cd Try.f19) [1,1,1,1,1,1,1,1,1])] [(2, .pointer none), (3, .int .i64 3)] w11 (by kernel_rfl) .nil ?_
          refine GoS.ret (fn := Try.f19) (v := (.tuple #[.pointer none, .int .i64 3])) Try.func19 (by kernel_rfl) ?_
          rw [hR]
          exact hQ _ _ (.inl ⟨bad_kill (by omega) h8 (p_nt2 h14), rfl, hM15⟩)
        ·
          have h14p : (0 : Int) ≤ ((i : Nat) : Int) ∧ (((i : Nat) : Int) : Int) < ((List.length (maskT t n i) : Nat) : Int) := ⟨(lvB_yes (p_nt h14)).1, (lvB_yes (p_nt h14)).2.1⟩
          have h14p1 : 1 ≤ lft (maskT t n i) := lft_pos (p_nt h14)
          refine GoS.run [7, 8, 46, 47] [.n] _ [.inBlock 2, .code (csub (cd Try.f19) [1,1,1,1,1,1,1,1,0,1,0,0,1,1,1]), .inLoop (csub (cd Try.f19) [1,1,1,1,1,1,1,1,0,1,0,0]), .inBlock 1, .code (csub (cd Try.f19) [1,1,1,1,1,1,1,1,1])] [(7, .pointer (some (⟨b, 0, none⟩))), (8, .string (sb t)), (46, .int .i64 (((8 * t.length) : Nat) : Int)), (47, .int .i64 ((i : Nat) : Int))] w11 (by kernel_rfl) .nil ?_
          have o16 : (binOp .add 3 (.int .i64 ((i : Nat) : Int)) (.int .i64 1)).run Try.prog w11 = .ok (.int .i64 (((i + 1) : Nat) : Int)) w11 := f_add (by rw [show ((i : Nat) : Int) + 1 = (((i + 1) : Nat) : Int) by omega]; exact IntWalk.i64_in _ (by omega))
          refine GoS.run [7, 8, 46, 47] [.n, .n, .h (.int .i64 (((i + 1) : Nat) : Int)), .n, .n, .n] _ [.code (csub (cd Try.f19) [1,1,1,1,1,1,1,1,0,1,0,0]), .inLoop (csub (cd Try.f19) [1,1,1,1,1,1,1,1,0,1,0,0]), .inBlock 1, .code (csub (cd Try.f19) [1,1,1,1,1,1,1,1,1])] [(7, .pointer (some (⟨b, 0, none⟩))), (8, .string (sb t)), (46, .int .i64 (((8 * t.length) : Nat) : Int)), (47, .int .i64 (((i + 1) : Nat) : Int))] w11 (by kernel_rfl) (.cons o16 .nil) ?_
          have hlv := lvB_yes (p_nf2 h14)
          rw [maskT_len] at hlv
          exact ih (i + 1) _ (by omega) (fun x hx hbx => by rcases Nat.lt_succ_iff_lt_or_eq.1 hx with h | h; exact hs x h hbx; subst h; omega) (hM13.cast (by rw [mask_kill h8 (p_nf2 h14)])) (by omega)
      ·
        have h8p : ¬ ((((bl t (i / 8)) / ((2 ^ (i % 8) : Nat) : Int)) % 2) = 1) := p_ne h8
        refine GoS.run [7, 8, 46, 47, 64] [.n, .n, .n, .n, .n] _ [.inRegion (cops (csub (cd Try.f19) [1,1,1,1,1,1,1,1,0,1,0,0,1,1,0,0,1,0])) [], .code (csub (cd Try.f19) [1,1,1,1,1,1,1,1,0,1,0,0,1,1,0,0,1,1]), .inBlock 2, .code (csub (cd Try.f19) [1,1,1,1,1,1,1,1,0,1,0,0,1,1,1]), .inLoop (csub (cd Try.f19) [1,1,1,1,1,1,1,1,0,1,0,0]), .inBlock 1, .code (csub (cd Try.f19) [1,1,1,1,1,1,1,1,1])] [(7, .pointer (some (⟨b, 0, none⟩))), (8, .string (sb t)), (46, .int .i64 (((8 * t.length) : Nat) : Int)), (47, .int .i64 ((i : Nat) : Int)), (64, .bool false)] w (by kernel_rfl) .nil ?_
        have o17 : (binOp .add 3 (.int .i64 ((i : Nat) : Int)) (.int .i64 1)).run Try.prog w = .ok (.int .i64 (((i + 1) : Nat) : Int)) w := f_add (by rw [show ((i : Nat) : Int) + 1 = (((i + 1) : Nat) : Int) by omega]; exact IntWalk.i64_in _ (by omega))
        refine GoS.run [7, 8, 46, 47] [.n, .n, .n, .n, .n, .h (.int .i64 (((i + 1) : Nat) : Int)), .n, .n, .n] _ [.code (csub (cd Try.f19) [1,1,1,1,1,1,1,1,0,1,0,0]), .inLoop (csub (cd Try.f19) [1,1,1,1,1,1,1,1,0,1,0,0]), .inBlock 1, .code (csub (cd Try.f19) [1,1,1,1,1,1,1,1,1])] [(7, .pointer (some (⟨b, 0, none⟩))), (8, .string (sb t)), (46, .int .i64 (((8 * t.length) : Nat) : Int)), (47, .int .i64 (((i + 1) : Nat) : Int))] w (by kernel_rfl) (.cons o17 .nil) ?_
        exact ih (i + 1) _ (by omega) (fun x hx hbx => by rcases Nat.lt_succ_iff_lt_or_eq.1 hx with h | h; exact hs x h hbx; subst h; exact absurd hbx (by rw [show bitT t x = false from h8]; simp)) (hM.cast (by rw [mask_skip h8])) (by omega)
    ·
      have h1p : ¬ (((i : Nat) : Int) < (((8 * t.length) : Nat) : Int)) := of_decide_eq_false h1
      refine GoS.run [2, 3] [.n, .n, .n, .n, .n, .n, .n] _ [.code (csub (cd Try.f19) [1,1,1,1,1,1,1,1,1,1])] [(2, .pointer (some (⟨b, 0, none⟩))), (3, .int .i64 0)] w (by kernel_rfl) .nil ?_
      refine GoS.ret (fn := Try.f19) (v := (.tuple #[.pointer (some (⟨b, 0, none⟩)), .int .i64 0])) Try.func19 (by kernel_rfl) ?_
      rw [hR]
      obtain rfl : i = 8 * t.length := by omega
      exact hQ _ _ (.inr ⟨bad_no hs, rfl, hM⟩)

set_option maxHeartbeats 400000 in
theorem lread_c (s : List UInt8) (w : World) :
    Calls Try.prog 19 #[.string (sb s)] w (fun e w' => (readE s ≠ 0 ∧ e = .returned (.tuple #[.pointer none, .int .i64 (readE s)]) ∧ Mem [] w w' []) ∨ (readE s = 0 ∧ ∃ b v, e = .returned (.tuple #[.pointer (some ⟨b, 0, none⟩), .int .i64 0]) ∧ Mem [] w w' [⟨49, 2, (obj b), 1, [v, .int .i64 (((lft (readG s)) : Nat) : Int)]⟩, ⟨4, 1, v, (List.length (readG s)), (bvals (readG s))⟩])) := by
  obtain ⟨R, hR⟩ : ∃ R : Ending → World → Prop, R = (fun e w' => (readE s ≠ 0 ∧ e = .returned (.tuple #[.pointer none, .int .i64 (readE s)]) ∧ Mem [] w w' []) ∨ (readE s = 0 ∧ ∃ b v, e = .returned (.tuple #[.pointer (some ⟨b, 0, none⟩), .int .i64 0]) ∧ Mem [] w w' [⟨49, 2, (obj b), 1, [v, .int .i64 (((lft (readG s)) : Nat) : Int)]⟩, ⟨4, 1, v, (List.length (readG s)), (bvals (readG s))⟩])) := ⟨_, rfl⟩
  rw [← hR]
  refine GoS.enter (n := 67) Try.func19 (by kernel_rfl) rfl [(0, .string (sb s))] (by kernel_rfl) (by kernel_rfl) ?_
  have hM0 := Mem.start w
  refine GoS.run [11] [.n, .n, .n, .n, .n, .n, .n, .n] _ [.inRegion (cops (csub (cd Try.f19) [1,0])) [1,2], .code (csub (cd Try.f19) [1,1])] [(11, .string (sb s))] w (by kernel_rfl) .nil ?_
  refine GoS.call [] 23 #[.string (sb s)] (some 12) [.inRegion (cops (csub (cd Try.f19) [1,0])) [2], .code (csub (cd Try.f19) [1,1])] [] (by kernel_rfl) (at_c s w) ?_
  rintro _ w2 ⟨b1, rfl, m3⟩
  refine ⟨_, rfl, ?_⟩
  have hM4 := Mem.join hM0 m3
  refine GoS.run [4, 14] [.n, .n, .n, .n, .n] _ [.inRegion (cops (csub (cd Try.f19) [1,1,0])) [1,2,3,4,5,6], .code (csub (cd Try.f19) [1,1,1])] [(4, .pointer (some (⟨b1, 0, none⟩))), (14, .pointer (some (⟨b1, 0, none⟩)))] w2 (by kernel_rfl) .nil ?_
  refine GoS.call [4] 24 #[.pointer (some (⟨b1, 0, none⟩))] (some 15) [.inRegion (cops (csub (cd Try.f19) [1,1,0])) [2,3,4,5,6], .code (csub (cd Try.f19) [1,1,1])] [(4, .pointer (some (⟨b1, 0, none⟩)))] (by kernel_rfl) (ccount_c s b1 w2 (Mem.lend (R := [⟨63, 1, (obj b1), 1, [.string (sb s)]⟩]) (L := []) hM4)) ?_
  rintro _ w5 ⟨rfl, m6⟩
  refine ⟨_, rfl, ?_⟩
  have hM7 : Mem [] w w5 [⟨63, 1, (obj b1), 1, [.string (sb (cntR s))]⟩] := Mem.back (R := [⟨63, 1, (obj b1), 1, [.string (sb s)]⟩]) (L := []) hM4 m6
  refine GoS.run [4, 5, 6, 19] [.n, .n, .n, .n, .n, .n, .n, .n, .n, .n, .n, .n] _ [.code (csub (cd Try.f19) [1,1,1,0,1]), .code (csub (cd Try.f19) [1,1,1,1])] [(4, .pointer (some (⟨b1, 0, none⟩))), (5, .int .i64 ((cntP s).1)), (6, .int .i64 ((cntP s).2.2)), (19, .bool ((cntP s).2.2 != 0))] w5 (by kernel_rfl) .nil ?_
  refine GoS.cond ((cntP s).2.2 != 0) [.code (csub (cd Try.f19) [1,1,1,0,1,0]), .code (csub (cd Try.f19) [1,1,1,1])] [.code (csub (cd Try.f19) [1,1,1,0,1,1]), .code (csub (cd Try.f19) [1,1,1,1])] (by kernel_rfl) (fun h8 => ?_) (fun h8 => ?_)
  ·
    have h8p : ¬ ((cntP s).2.2 = 0) := bne_iff_ne.1 h8
    have hM9 : Mem [] w w5 [] := hM7.sub (List.Sublist.cons _ (List.Sublist.refl _))
    refine GoS.run [2, 3] [.n, .n, .n, .n, .n, .n] _ [.code (csub (cd Try.f19) [1,1,1,0,1,0,1]), .code (csub (cd Try.f19) [1,1,1,1])] [(2, .pointer none), (3, .int .i64 ((cntP s).2.2))] w5 (by kernel_rfl) .nil ?_
    refine GoS.ret (fn := Try.f19) (v := (.tuple #[.pointer none, .int .i64 ((cntP s).2.2)])) Try.func19 (by kernel_rfl) ?_
    rw [hR]
    have hcb := cntP_bd s
    have e : readE s = (cntP s).2.2 := by unfold readE; rw [if_pos (by omega)]
    exact .inl ⟨by omega, by rw [e], hM9⟩
  ·
    have h8p : (cntP s).2.2 = 0 := p_eq h8
    refine GoS.run [4, 5] [.n] _ [.code (csub (cd Try.f19) [1,1,1,1])] [(4, .pointer (some (⟨b1, 0, none⟩))), (5, .int .i64 ((cntP s).1))] w5 (by kernel_rfl) .nil ?_
    refine GoS.run [4, 5, 22] [.n, .n, .n] _ [.inRegion (cops (csub (cd Try.f19) [1,1,1,1,0])) [1,2,3,4,5,6], .code (csub (cd Try.f19) [1,1,1,1,1])] [(4, .pointer (some (⟨b1, 0, none⟩))), (5, .int .i64 ((cntP s).1)), (22, .int .i64 ((cntP s).1))] w5 (by kernel_rfl) .nil ?_
    refine GoS.call [4, 5] 8 #[.int .i64 ((cntP s).1)] (some 23) [.inRegion (cops (csub (cd Try.f19) [1,1,1,1,0])) [2,3,4,5,6], .code (csub (cd Try.f19) [1,1,1,1,1])] [(4, .pointer (some (⟨b1, 0, none⟩))), (5, .int .i64 ((cntP s).1))] (by kernel_rfl) (lnew_c ((cntP s).1) w5) ?_
    rintro _ w10 (⟨hn15, rfl, m11⟩ | ⟨hn15, b13, v14, rfl, m11⟩)
    ·
      refine ⟨_, rfl, ?_⟩
      have hM12 := Mem.join hM7 m11
      refine GoS.run [4, 5, 6, 7, 27] [.n, .n, .n, .n, .n, .n, .n, .n, .n, .n, .n, .n] _ [.code (csub (cd Try.f19) [1,1,1,1,1,0,1]), .code (csub (cd Try.f19) [1,1,1,1,1,1])] [(4, .pointer (some (⟨b1, 0, none⟩))), (5, .int .i64 ((cntP s).1)), (6, .int .i64 (newE ((cntP s).1))), (7, .pointer none), (27, .bool ((newE ((cntP s).1)) != 0))] w10 (by kernel_rfl) .nil ?_
      refine GoS.cond ((newE ((cntP s).1)) != 0) [.code (csub (cd Try.f19) [1,1,1,1,1,0,1,0]), .code (csub (cd Try.f19) [1,1,1,1,1,1])] [.code (csub (cd Try.f19) [1,1,1,1,1,0,1,1]), .code (csub (cd Try.f19) [1,1,1,1,1,1])] (by kernel_rfl) (fun h16 => ?_) (fun h16 => ?_)
      ·
        have h16p : ¬ ((newE ((cntP s).1)) = 0) := bne_iff_ne.1 h16
        have hM17 : Mem [] w w10 [] := hM12.sub (List.Sublist.cons _ (List.Sublist.refl _))
        refine GoS.run [2, 3] [.n, .n, .n, .n, .n, .n] _ [.code (csub (cd Try.f19) [1,1,1,1,1,0,1,0,1]), .code (csub (cd Try.f19) [1,1,1,1,1,1])] [(2, .pointer none), (3, .int .i64 (newE ((cntP s).1)))] w10 (by kernel_rfl) .nil ?_
        refine GoS.ret (fn := Try.f19) (v := (.tuple #[.pointer none, .int .i64 (newE ((cntP s).1))])) Try.func19 (by kernel_rfl) ?_
        rw [hR]
        have hcb := cntP_bd s
        have e : readE s = newE (cntP s).1 := by unfold readE; rw [if_neg (by omega), if_pos (by assumption)]
        exact .inl ⟨by rw [e]; assumption, by rw [e], hM17⟩
      ·
        exact absurd (p_eq h16) (by assumption)
    ·
      refine ⟨_, rfl, ?_⟩
      have hM12 := Mem.join hM7 m11
      have hn15k := newE_ok hn15
      refine GoS.run [5, 7, 29] [.n, .n, .n, .n, .n, .n, .n, .n, .n, .n, .n, .n, .n, .n, .n, .n, .n] _ [.inRegion (cops (csub (cd Try.f19) [1,1,1,1,1,1,0])) [1,2], .code (csub (cd Try.f19) [1,1,1,1,1,1,1])] [(5, .int .i64 ((cntP s).1)), (7, .pointer (some (⟨b13, 0, none⟩))), (29, .pointer (some (⟨b1, 0, none⟩)))] w10 (by kernel_rfl) .nil ?_
      have hM18 : Mem [] w w10 [⟨63, 1, (obj b1), 1, [.string (sb (cntR s))]⟩, ⟨49, 2, (obj b13), 1, [v14, .int .i64 (((lft (List.replicate (Int.toNat ((cntP s).1)) false)) : Nat) : Int)]⟩, ⟨4, 1, v14, (List.length (List.replicate (Int.toNat ((cntP s).1)) false)), (bvals (List.replicate (Int.toNat ((cntP s).1)) false))⟩] := hM12.perm ((List.Perm.cons _ ((List.Perm.cons _ (List.Perm.refl _)).trans (List.Perm.swap _ _ _))).trans (List.Perm.swap _ _ _))
      refine GoS.call [5, 7] 25 #[.pointer (some (⟨b1, 0, none⟩))] (some 30) [.inRegion (cops (csub (cd Try.f19) [1,1,1,1,1,1,0])) [2], .code (csub (cd Try.f19) [1,1,1,1,1,1,1])] [(5, .int .i64 ((cntP s).1)), (7, .pointer (some (⟨b13, 0, none⟩)))] (by kernel_rfl) (crest_c (cntR s) b1 w10 (Mem.lend (R := [⟨63, 1, (obj b1), 1, [.string (sb (cntR s))]⟩]) (L := [⟨49, 2, (obj b13), 1, [v14, .int .i64 (((lft (List.replicate (Int.toNat ((cntP s).1)) false)) : Nat) : Int)]⟩, ⟨4, 1, v14, (List.length (List.replicate (Int.toNat ((cntP s).1)) false)), (bvals (List.replicate (Int.toNat ((cntP s).1)) false))⟩]) hM18)) ?_
      rintro _ w19 ⟨rfl, m20⟩
      refine ⟨_, rfl, ?_⟩
      have hM21 : Mem [] w w19 [⟨63, 1, (obj b1), 1, [.string (sb (cntR s))]⟩, ⟨49, 2, (obj b13), 1, [v14, .int .i64 (((lft (List.replicate (Int.toNat ((cntP s).1)) false)) : Nat) : Int)]⟩, ⟨4, 1, v14, (List.length (List.replicate (Int.toNat ((cntP s).1)) false)), (bvals (List.replicate (Int.toNat ((cntP s).1)) false))⟩] := Mem.back (R := [⟨63, 1, (obj b1), 1, [.string (sb (cntR s))]⟩]) (L := [⟨49, 2, (obj b13), 1, [v14, .int .i64 (((lft (List.replicate (Int.toNat ((cntP s).1)) false)) : Nat) : Int)]⟩, ⟨4, 1, v14, (List.length (List.replicate (Int.toNat ((cntP s).1)) false)), (bvals (List.replicate (Int.toNat ((cntP s).1)) false))⟩]) hM18 m20
      have o22 : (binOp .add 3 (.int .i64 ((cntP s).1)) (.int .i64 7)).run Try.prog w19 = .ok (.int .i64 ((cntP s).1 + 7)) w19 := f_add (IntWalk.i64_in _ (by omega))
      have o23 : (binOp .quo 3 (.int .i64 ((cntP s).1 + 7)) (.int .i64 8)).run Try.prog w19 = .ok (.int .i64 (((cntP s).1 + 7) / 8)) w19 := f_quo (by decide) (IntWalk.i64_quo _ _ (by omega))
      have o24 : (Builtin.len_ #[9] 3 #[.string (sb (cntR s))]).run Try.prog w19 = .ok (.int .i64 (((cntR s).length : Nat) : Int)) w19 := f_len (by kernel_rfl)
      have hM25 : Mem [] w w19 [⟨49, 2, (obj b13), 1, [v14, .int .i64 (((lft (List.replicate (Int.toNat ((cntP s).1)) false)) : Nat) : Int)]⟩, ⟨4, 1, v14, (List.length (List.replicate (Int.toNat ((cntP s).1)) false)), (bvals (List.replicate (Int.toNat ((cntP s).1)) false))⟩] := hM21.sub (List.Sublist.cons _ (List.Sublist.cons_cons _ (List.Sublist.cons_cons _ (List.Sublist.refl _))))
      refine GoS.run [7, 8, 9, 34] [.n, .n, .n, .n, .n, .n, .h (.int .i64 ((cntP s).1 + 7)), .h (.int .i64 (((cntP s).1 + 7) / 8)), .n, .n, .n, .n, .n, .n, .h (.int .i64 (((cntR s).length : Nat) : Int)), .n, .n, .n, .n] _ [.code (csub (cd Try.f19) [1,1,1,1,1,1,1,0,1,0,1]), .inBlock 0, .code (csub (cd Try.f19) [1,1,1,1,1,1,1,1])] [(7, .pointer (some (⟨b13, 0, none⟩))), (8, .string (sb (cntR s))), (9, .int .i64 (((cntP s).1 + 7) / 8)), (34, .bool (decide ((((cntR s).length : Nat) : Int) < (((cntP s).1 + 7) / 8))))] w19 (by kernel_rfl) (.cons o22 (.cons o23 (.cons o24 .nil))) ?_
      refine GoS.cond (decide ((((cntR s).length : Nat) : Int) < (((cntP s).1 + 7) / 8))) [.code (csub (cd Try.f19) [1,1,1,1,1,1,1,0,1,0,1,0]), .inBlock 0, .code (csub (cd Try.f19) [1,1,1,1,1,1,1,1])] [.code (csub (cd Try.f19) [1,1,1,1,1,1,1,0,1,0,1,1]), .inBlock 0, .code (csub (cd Try.f19) [1,1,1,1,1,1,1,1])] (by kernel_rfl) (fun h26 => ?_) (fun h26 => ?_)
      ·
        have h26p : (((cntR s).length : Nat) : Int) < (((cntP s).1 + 7) / 8) := of_decide_eq_true h26
        have hM27 : Mem [] w w19 [] := hM25.sub (List.Sublist.cons _ (List.Sublist.cons _ (List.Sublist.refl _)))
        refine GoS.run [2, 3] [.n, .n, .n, .n, .n] _ [.code (csub (cd Try.f19) [1,1,1,1,1,1,1,0,1,0,1,0,1]), .inBlock 0, .code (csub (cd Try.f19) [1,1,1,1,1,1,1,1])] [(2, .pointer none), (3, .int .i64 2)] w19 (by kernel_rfl) .nil ?_
        refine GoS.ret (fn := Try.f19) (v := (.tuple #[.pointer none, .int .i64 2])) Try.func19 (by kernel_rfl) ?_
        rw [hR]
        have hcb := cntP_bd s
        have e : readE s = 2 := by unfold readE; rw [if_neg (by omega), if_neg (by omega), if_pos (by omega)]
        exact .inl ⟨by omega, by rw [e], hM27⟩
      ·
        have h26p : ¬ ((((cntR s).length : Nat) : Int) < (((cntP s).1 + 7) / 8)) := of_decide_eq_false h26
        have o28 : (Builtin.len_ #[9] 3 #[.string (sb (cntR s))]).run Try.prog w19 = .ok (.int .i64 (((cntR s).length : Nat) : Int)) w19 := f_len (by kernel_rfl)
        refine GoS.run [7, 8, 39] [.n, .n, .n, .h (.int .i64 (((cntR s).length : Nat) : Int)), .n, .n, .n, .n] _ [.code (csub (cd Try.f19) [1,1,1,1,1,1,1,0,1,0,1,1,1]), .inBlock 0, .code (csub (cd Try.f19) [1,1,1,1,1,1,1,1])] [(7, .pointer (some (⟨b13, 0, none⟩))), (8, .string (sb (cntR s))), (39, .bool (decide ((((cntR s).length : Nat) : Int) > (((cntP s).1 + 7) / 8))))] w19 (by kernel_rfl) (.cons o28 .nil) ?_
        refine GoS.cond (decide ((((cntR s).length : Nat) : Int) > (((cntP s).1 + 7) / 8))) [.code (csub (cd Try.f19) [1,1,1,1,1,1,1,0,1,0,1,1,1,0]), .inBlock 0, .code (csub (cd Try.f19) [1,1,1,1,1,1,1,1])] [.code (csub (cd Try.f19) [1,1,1,1,1,1,1,0,1,0,1,1,1,1]), .inBlock 0, .code (csub (cd Try.f19) [1,1,1,1,1,1,1,1])] (by kernel_rfl) (fun h29 => ?_) (fun h29 => ?_)
        ·
          have h29p : (((cntR s).length : Nat) : Int) > (((cntP s).1 + 7) / 8) := of_decide_eq_true h29
          have hM30 : Mem [] w w19 [] := hM25.sub (List.Sublist.cons _ (List.Sublist.cons _ (List.Sublist.refl _)))
          refine GoS.run [2, 3] [.n, .n, .n, .n, .n] _ [.code (csub (cd Try.f19) [1,1,1,1,1,1,1,0,1,0,1,1,1,0,1]), .inBlock 0, .code (csub (cd Try.f19) [1,1,1,1,1,1,1,1])] [(2, .pointer none), (3, .int .i64 5)] w19 (by kernel_rfl) .nil ?_
          refine GoS.ret (fn := Try.f19) (v := (.tuple #[.pointer none, .int .i64 5])) Try.func19 (by kernel_rfl) ?_
          rw [hR]
          have hcb := cntP_bd s
          have e : readE s = 5 := by unfold readE; rw [if_neg (by omega), if_neg (by omega), if_neg (by omega), if_pos (by omega)]
          exact .inl ⟨by omega, by rw [e], hM30⟩
        ·
          have h29p : ¬ ((((cntR s).length : Nat) : Int) > (((cntP s).1 + 7) / 8)) := of_decide_eq_false h29
          refine GoS.run [7, 8] [.n] _ [.inBlock 0, .code (csub (cd Try.f19) [1,1,1,1,1,1,1,1])] [(7, .pointer (some (⟨b13, 0, none⟩))), (8, .string (sb (cntR s)))] w19 (by kernel_rfl) .nil ?_
          have o31 : (Builtin.len_ #[9] 3 #[.string (sb (cntR s))]).run Try.prog w19 = .ok (.int .i64 (((cntR s).length : Nat) : Int)) w19 := f_len (by kernel_rfl)
          have o32 : (binOp .mul 3 (.int .i64 8) (.int .i64 (((cntR s).length : Nat) : Int))).run Try.prog w19 = .ok (.int .i64 (((8 * (cntR s).length) : Nat) : Int)) w19 := f_mul (by rw [show 8 * (((cntR s).length : Nat) : Int) = (((8 * (cntR s).length) : Nat) : Int) by omega]; exact IntWalk.i64_in _ (by omega))
          refine GoS.run [7, 8, 46, 47] [.n, .n, .n, .n, .n, .h (.int .i64 (((cntR s).length : Nat) : Int)), .h (.int .i64 (((8 * (cntR s).length) : Nat) : Int)), .n, .n, .n, .n] _ [.code (csub (cd Try.f19) [1,1,1,1,1,1,1,1,0,1,0,0]), .inLoop (csub (cd Try.f19) [1,1,1,1,1,1,1,1,0,1,0,0]), .inBlock 1, .code (csub (cd Try.f19) [1,1,1,1,1,1,1,1,1])] [(7, .pointer (some (⟨b13, 0, none⟩))), (8, .string (sb (cntR s))), (46, .int .i64 (((8 * (cntR s).length) : Nat) : Int)), (47, .int .i64 0)] w19 (by kernel_rfl) (.cons o31 (.cons o32 .nil)) ?_
          have hnk := newE_ok (by assumption : newE (cntP s).1 = 0)
          have hcb := cntP_bd s
          refine lread_L (cntR s) (Int.toNat (cntP s).1) (by omega) (by omega) b13 v14 R (fun e w1 h => ?_) R rfl (8 * (cntR s).length + 1) 0 w19 (by omega) (fun x hx => absurd hx (Nat.not_lt_zero _)) (hM25.cast (by rw [maskT_zero])) (by omega)
          rw [hR]
          rcases h with ⟨h1, h2, h3⟩ | ⟨h1, h2, h3⟩
          · have e : readE s = 3 := by unfold readE; rw [if_neg (by omega), if_neg (by omega), if_neg (by omega), if_neg (by omega), if_pos h1]
            exact .inl ⟨by omega, by rw [e]; exact h2, h3⟩
          · have e : readE s = 0 := by unfold readE; rw [if_neg (by omega), if_neg (by omega), if_neg (by omega), if_neg (by omega), if_neg (by rw [h1]; simp)]
            exact .inr ⟨e, _, _, h2, h3⟩


end Go.Proofs.Ytiifhlhmkpcaeaa
