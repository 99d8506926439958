/-
  The walks of the reference: one, Encode, guess.
-/
import Derived.Test.YtnhplkkbpmijdaaUtfE
namespace Go.Proofs.Ytnhplkkbpmijdaa
open Go Go.Gw Go.UtfP Go.TokP Go.RowKit
set_option linter.unusedVariables false
set_option linter.unusedSimpArgs false

theorem oT71 : ObjT Try.prog 71 5 (.agg #[.int .i64 0, .int .i64 0, .int .i64 0, .int .i64 0, .int .i64 0]) := ⟨⟨_, rfl, by kernel_rfl, by kernel_rfl⟩, rfl⟩
theorem aE71 : Agged Try.prog 71 5 := ⟨⟨_, Try.underlying71, .inr ⟨_, _, rfl⟩⟩, _, rfl, by kernel_rfl⟩

set_option maxHeartbeats 400000 in
theorem one_c (c : Int) (hc0 : whole c = true) (w : World) :
    Calls Try.prog 48 #[.int .i64 c] w (fun e w' => e = .returned (.string (sb (bytesOf (one c)))) ∧ Mem [] w w' []) := by
  have hc := whole_iff.1 hc0
  obtain ⟨R, hR⟩ : ∃ R : Ending → World → Prop, R = (fun e w' => e = .returned (.string (sb (bytesOf (one c)))) ∧ Mem [] w w' []) := ⟨_, rfl⟩
  rw [← hR]
  refine GoS.enter (n := 58) Try.func48 (by kernel_rfl) rfl [(0, .int .i64 c)] (by kernel_rfl) (by kernel_rfl) ?_
  have hM0 := Mem.start w
  refine GoS.run [0, 4] [.n, .n, .n, .n, .n, .n, .n, .n, .n, .n] _ [.code (csub (cd Try.f48) [1,0,1]), .code (csub (cd Try.f48) [1,1])] [(0, .int .i64 c), (4, .bool (decide (c < 128)))] w (by kernel_rfl) .nil ?_
  refine GoS.cond (decide (c < 128)) [.code (csub (cd Try.f48) [1,0,1,0]), .code (csub (cd Try.f48) [1,1])] [.code (csub (cd Try.f48) [1,0,1,1]), .code (csub (cd Try.f48) [1,1])] (by kernel_rfl) (fun h1 => ?_) (fun h1 => ?_)
  ·
    have h1p : c < 128 := of_decide_eq_true h1
    have o6 : (convert 3 5 (.int .i64 c)).run Try.prog w = .ok (.int .u8 c) w := f_conv (u := .int .i64) (by kernel_rfl) (by kernel_rfl) (IntWalk.u8_in _ (by omega))
    obtain ⟨v2, w3, hr4, hM5⟩ := m_lit sT66 hM0 (n := 1) (parts := #[(0, .int .u8 c)]) (cs := [.int .u8 c]) (by decide) (by kernel_rfl) rfl
    have o7 : (convert 66 9 (v2)).run Try.prog w3 = .ok (.string (sb (bytesOf ([c] : List Int)))) w3 := f_string_i sT66 (by kernel_rfl) (by kernel_rfl) (hM5.rd 0 rfl) (by intro x hx; simp at hx; omega)
    have hM8 : Mem [] w w3 [] := hM5.sub (List.Sublist.cons _ (List.Sublist.refl _))
    refine GoS.run [2] [.n, .n, .n, .h (.int .u8 c), .u (v2) (w3), .h (.string (sb (bytesOf ([c] : List Int)))), .n, .n] _ [.code (csub (cd Try.f48) [1,0,1,0,1]), .code (csub (cd Try.f48) [1,1])] [(2, .string (sb (bytesOf ([c] : List Int))))] w3 (by kernel_rfl) (.cons o6 (.cons hr4 (.cons o7 .nil))) ?_
    refine GoS.ret (fn := Try.f48) (v := (.string (sb (bytesOf ([c] : List Int))))) Try.func48 (by kernel_rfl) ?_
    rw [hR]
    exact ⟨ret_str (congrArg bytesOf (by unfold one; (repeat' split) <;> first | rfl | omega)), hM8⟩
  ·
    have h1p : ¬ (c < 128) := of_decide_eq_false h1
    refine GoS.run [0] [.n] _ [.code (csub (cd Try.f48) [1,1])] [(0, .int .i64 c)] w (by kernel_rfl) .nil ?_
    refine GoS.run [0, 10] [.n, .n, .n, .n, .n, .n] _ [.code (csub (cd Try.f48) [1,1,0,1]), .code (csub (cd Try.f48) [1,1,1])] [(0, .int .i64 c), (10, .bool (decide (c < 2048)))] w (by kernel_rfl) .nil ?_
    refine GoS.cond (decide (c < 2048)) [.code (csub (cd Try.f48) [1,1,0,1,0]), .code (csub (cd Try.f48) [1,1,1])] [.code (csub (cd Try.f48) [1,1,0,1,1]), .code (csub (cd Try.f48) [1,1,1])] (by kernel_rfl) (fun h9 => ?_) (fun h9 => ?_)
    ·
      have h9p : c < 2048 := of_decide_eq_true h9
      have o14 : (binOp .quo 3 (.int .i64 c) (.int .i64 64)).run Try.prog w = .ok (.int .i64 (c / 64)) w := f_quo (by decide) (IntWalk.i64_quo _ _ (by omega))
      have o15 : (binOp .add 3 (.int .i64 192) (.int .i64 (c / 64))).run Try.prog w = .ok (.int .i64 (192 + (c / 64))) w := f_add (IntWalk.i64_in _ (by omega))
      have o16 : (convert 3 5 (.int .i64 (192 + (c / 64)))).run Try.prog w = .ok (.int .u8 (192 + (c / 64))) w := f_conv (u := .int .i64) (by kernel_rfl) (by kernel_rfl) (IntWalk.u8_in _ (by omega))
      have o17 : (binOp .rem 3 (.int .i64 c) (.int .i64 64)).run Try.prog w = .ok (.int .i64 (c % 64)) w := f_rem (by decide) (IntWalk.rem_in _ _ (by omega))
      have o18 : (binOp .add 3 (.int .i64 128) (.int .i64 (c % 64))).run Try.prog w = .ok (.int .i64 (128 + (c % 64))) w := f_add (IntWalk.i64_in _ (by omega))
      have o19 : (convert 3 5 (.int .i64 (128 + (c % 64)))).run Try.prog w = .ok (.int .u8 (128 + (c % 64))) w := f_conv (u := .int .i64) (by kernel_rfl) (by kernel_rfl) (IntWalk.u8_in _ (by omega))
      obtain ⟨v10, w11, hr12, hM13⟩ := m_lit sT66 hM0 (n := 2) (parts := #[(0, .int .u8 (192 + (c / 64))), (1, .int .u8 (128 + (c % 64)))]) (cs := [.int .u8 (192 + (c / 64)), .int .u8 (128 + (c % 64))]) (by decide) (by kernel_rfl) rfl
      have o20 : (convert 66 9 (v10)).run Try.prog w11 = .ok (.string (sb (bytesOf ([(192 + (c / 64)), (128 + (c % 64))] : List Int)))) w11 := f_string_i sT66 (by kernel_rfl) (by kernel_rfl) (hM13.rd 0 rfl) (by intro x hx; simp at hx; omega)
      have hM21 : Mem [] w w11 [] := hM13.sub (List.Sublist.cons _ (List.Sublist.refl _))
      refine GoS.run [2] [.n, .n, .n, .h (.int .i64 (c / 64)), .h (.int .i64 (192 + (c / 64))), .h (.int .u8 (192 + (c / 64))), .n, .h (.int .i64 (c % 64)), .h (.int .i64 (128 + (c % 64))), .h (.int .u8 (128 + (c % 64))), .u (v10) (w11), .h (.string (sb (bytesOf ([(192 + (c / 64)), (128 + (c % 64))] : List Int)))), .n, .n] _ [.code (csub (cd Try.f48) [1,1,0,1,0,1]), .code (csub (cd Try.f48) [1,1,1])] [(2, .string (sb (bytesOf ([(192 + (c / 64)), (128 + (c % 64))] : List Int))))] w11 (by kernel_rfl) (.cons o14 (.cons o15 (.cons o16 (.cons o17 (.cons o18 (.cons o19 (.cons hr12 (.cons o20 .nil)))))))) ?_
      refine GoS.ret (fn := Try.f48) (v := (.string (sb (bytesOf ([(192 + (c / 64)), (128 + (c % 64))] : List Int))))) Try.func48 (by kernel_rfl) ?_
      rw [hR]
      exact ⟨ret_str (congrArg bytesOf (by unfold one; (repeat' split) <;> first | rfl | omega)), hM21⟩
    ·
      have h9p : ¬ (c < 2048) := of_decide_eq_false h9
      refine GoS.run [0] [.n] _ [.code (csub (cd Try.f48) [1,1,1])] [(0, .int .i64 c)] w (by kernel_rfl) .nil ?_
      refine GoS.run [0, 22] [.n, .n, .n, .n, .n, .n] _ [.code (csub (cd Try.f48) [1,1,1,0,1]), .code (csub (cd Try.f48) [1,1,1,1])] [(0, .int .i64 c), (22, .bool (decide (c < 65536)))] w (by kernel_rfl) .nil ?_
      refine GoS.cond (decide (c < 65536)) [.code (csub (cd Try.f48) [1,1,1,0,1,0]), .code (csub (cd Try.f48) [1,1,1,1])] [.code (csub (cd Try.f48) [1,1,1,0,1,1]), .code (csub (cd Try.f48) [1,1,1,1])] (by kernel_rfl) (fun h22 => ?_) (fun h22 => ?_)
      ·
        have h22p : c < 65536 := of_decide_eq_true h22
        have o27 : (binOp .quo 3 (.int .i64 c) (.int .i64 4096)).run Try.prog w = .ok (.int .i64 (c / 4096)) w := f_quo (by decide) (IntWalk.i64_quo _ _ (by omega))
        have o28 : (binOp .add 3 (.int .i64 224) (.int .i64 (c / 4096))).run Try.prog w = .ok (.int .i64 (224 + (c / 4096))) w := f_add (IntWalk.i64_in _ (by omega))
        have o29 : (convert 3 5 (.int .i64 (224 + (c / 4096)))).run Try.prog w = .ok (.int .u8 (224 + (c / 4096))) w := f_conv (u := .int .i64) (by kernel_rfl) (by kernel_rfl) (IntWalk.u8_in _ (by omega))
        have o30 : (binOp .quo 3 (.int .i64 c) (.int .i64 64)).run Try.prog w = .ok (.int .i64 (c / 64)) w := f_quo (by decide) (IntWalk.i64_quo _ _ (by omega))
        have o31 : (binOp .rem 3 (.int .i64 (c / 64)) (.int .i64 64)).run Try.prog w = .ok (.int .i64 ((c / 64) % 64)) w := f_rem (by decide) (IntWalk.rem_in _ _ (by omega))
        have o32 : (binOp .add 3 (.int .i64 128) (.int .i64 ((c / 64) % 64))).run Try.prog w = .ok (.int .i64 (128 + ((c / 64) % 64))) w := f_add (IntWalk.i64_in _ (by omega))
        have o33 : (convert 3 5 (.int .i64 (128 + ((c / 64) % 64)))).run Try.prog w = .ok (.int .u8 (128 + ((c / 64) % 64))) w := f_conv (u := .int .i64) (by kernel_rfl) (by kernel_rfl) (IntWalk.u8_in _ (by omega))
        have o34 : (binOp .rem 3 (.int .i64 c) (.int .i64 64)).run Try.prog w = .ok (.int .i64 (c % 64)) w := f_rem (by decide) (IntWalk.rem_in _ _ (by omega))
        have o35 : (binOp .add 3 (.int .i64 128) (.int .i64 (c % 64))).run Try.prog w = .ok (.int .i64 (128 + (c % 64))) w := f_add (IntWalk.i64_in _ (by omega))
        have o36 : (convert 3 5 (.int .i64 (128 + (c % 64)))).run Try.prog w = .ok (.int .u8 (128 + (c % 64))) w := f_conv (u := .int .i64) (by kernel_rfl) (by kernel_rfl) (IntWalk.u8_in _ (by omega))
        obtain ⟨v23, w24, hr25, hM26⟩ := m_lit sT66 hM0 (n := 3) (parts := #[(0, .int .u8 (224 + (c / 4096))), (1, .int .u8 (128 + ((c / 64) % 64))), (2, .int .u8 (128 + (c % 64)))]) (cs := [.int .u8 (224 + (c / 4096)), .int .u8 (128 + ((c / 64) % 64)), .int .u8 (128 + (c % 64))]) (by decide) (by kernel_rfl) rfl
        have o37 : (convert 66 9 (v23)).run Try.prog w24 = .ok (.string (sb (bytesOf ([(224 + (c / 4096)), (128 + ((c / 64) % 64)), (128 + (c % 64))] : List Int)))) w24 := f_string_i sT66 (by kernel_rfl) (by kernel_rfl) (hM26.rd 0 rfl) (by intro x hx; simp at hx; omega)
        have hM38 : Mem [] w w24 [] := hM26.sub (List.Sublist.cons _ (List.Sublist.refl _))
        refine GoS.run [2] [.n, .n, .n, .h (.int .i64 (c / 4096)), .h (.int .i64 (224 + (c / 4096))), .h (.int .u8 (224 + (c / 4096))), .n, .h (.int .i64 (c / 64)), .h (.int .i64 ((c / 64) % 64)), .h (.int .i64 (128 + ((c / 64) % 64))), .h (.int .u8 (128 + ((c / 64) % 64))), .n, .h (.int .i64 (c % 64)), .h (.int .i64 (128 + (c % 64))), .h (.int .u8 (128 + (c % 64))), .u (v23) (w24), .h (.string (sb (bytesOf ([(224 + (c / 4096)), (128 + ((c / 64) % 64)), (128 + (c % 64))] : List Int)))), .n, .n] _ [.code (csub (cd Try.f48) [1,1,1,0,1,0,1]), .code (csub (cd Try.f48) [1,1,1,1])] [(2, .string (sb (bytesOf ([(224 + (c / 4096)), (128 + ((c / 64) % 64)), (128 + (c % 64))] : List Int))))] w24 (by kernel_rfl) (.cons o27 (.cons o28 (.cons o29 (.cons o30 (.cons o31 (.cons o32 (.cons o33 (.cons o34 (.cons o35 (.cons o36 (.cons hr25 (.cons o37 .nil)))))))))))) ?_
        refine GoS.ret (fn := Try.f48) (v := (.string (sb (bytesOf ([(224 + (c / 4096)), (128 + ((c / 64) % 64)), (128 + (c % 64))] : List Int))))) Try.func48 (by kernel_rfl) ?_
        rw [hR]
        exact ⟨ret_str (congrArg bytesOf (by unfold one; (repeat' split) <;> first | rfl | omega)), hM38⟩
      ·
        have h22p : ¬ (c < 65536) := of_decide_eq_false h22
        refine GoS.run [0] [.n] _ [.code (csub (cd Try.f48) [1,1,1,1])] [(0, .int .i64 c)] w (by kernel_rfl) .nil ?_
        have o43 : (binOp .quo 3 (.int .i64 c) (.int .i64 262144)).run Try.prog w = .ok (.int .i64 (c / 262144)) w := f_quo (by decide) (IntWalk.i64_quo _ _ (by omega))
        have o44 : (binOp .add 3 (.int .i64 240) (.int .i64 (c / 262144))).run Try.prog w = .ok (.int .i64 (240 + (c / 262144))) w := f_add (IntWalk.i64_in _ (by omega))
        have o45 : (convert 3 5 (.int .i64 (240 + (c / 262144)))).run Try.prog w = .ok (.int .u8 (240 + (c / 262144))) w := f_conv (u := .int .i64) (by kernel_rfl) (by kernel_rfl) (IntWalk.u8_in _ (by omega))
        have o46 : (binOp .quo 3 (.int .i64 c) (.int .i64 4096)).run Try.prog w = .ok (.int .i64 (c / 4096)) w := f_quo (by decide) (IntWalk.i64_quo _ _ (by omega))
        have o47 : (binOp .rem 3 (.int .i64 (c / 4096)) (.int .i64 64)).run Try.prog w = .ok (.int .i64 ((c / 4096) % 64)) w := f_rem (by decide) (IntWalk.rem_in _ _ (by omega))
        have o48 : (binOp .add 3 (.int .i64 128) (.int .i64 ((c / 4096) % 64))).run Try.prog w = .ok (.int .i64 (128 + ((c / 4096) % 64))) w := f_add (IntWalk.i64_in _ (by omega))
        have o49 : (convert 3 5 (.int .i64 (128 + ((c / 4096) % 64)))).run Try.prog w = .ok (.int .u8 (128 + ((c / 4096) % 64))) w := f_conv (u := .int .i64) (by kernel_rfl) (by kernel_rfl) (IntWalk.u8_in _ (by omega))
        have o50 : (binOp .quo 3 (.int .i64 c) (.int .i64 64)).run Try.prog w = .ok (.int .i64 (c / 64)) w := f_quo (by decide) (IntWalk.i64_quo _ _ (by omega))
        have o51 : (binOp .rem 3 (.int .i64 (c / 64)) (.int .i64 64)).run Try.prog w = .ok (.int .i64 ((c / 64) % 64)) w := f_rem (by decide) (IntWalk.rem_in _ _ (by omega))
        have o52 : (binOp .add 3 (.int .i64 128) (.int .i64 ((c / 64) % 64))).run Try.prog w = .ok (.int .i64 (128 + ((c / 64) % 64))) w := f_add (IntWalk.i64_in _ (by omega))
        have o53 : (convert 3 5 (.int .i64 (128 + ((c / 64) % 64)))).run Try.prog w = .ok (.int .u8 (128 + ((c / 64) % 64))) w := f_conv (u := .int .i64) (by kernel_rfl) (by kernel_rfl) (IntWalk.u8_in _ (by omega))
        have o54 : (binOp .rem 3 (.int .i64 c) (.int .i64 64)).run Try.prog w = .ok (.int .i64 (c % 64)) w := f_rem (by decide) (IntWalk.rem_in _ _ (by omega))
        have o55 : (binOp .add 3 (.int .i64 128) (.int .i64 (c % 64))).run Try.prog w = .ok (.int .i64 (128 + (c % 64))) w := f_add (IntWalk.i64_in _ (by omega))
        have o56 : (convert 3 5 (.int .i64 (128 + (c % 64)))).run Try.prog w = .ok (.int .u8 (128 + (c % 64))) w := f_conv (u := .int .i64) (by kernel_rfl) (by kernel_rfl) (IntWalk.u8_in _ (by omega))
        obtain ⟨v39, w40, hr41, hM42⟩ := m_lit sT66 hM0 (n := 4) (parts := #[(0, .int .u8 (240 + (c / 262144))), (1, .int .u8 (128 + ((c / 4096) % 64))), (2, .int .u8 (128 + ((c / 64) % 64))), (3, .int .u8 (128 + (c % 64)))]) (cs := [.int .u8 (240 + (c / 262144)), .int .u8 (128 + ((c / 4096) % 64)), .int .u8 (128 + ((c / 64) % 64)), .int .u8 (128 + (c % 64))]) (by decide) (by kernel_rfl) rfl
        have o57 : (convert 66 9 (v39)).run Try.prog w40 = .ok (.string (sb (bytesOf ([(240 + (c / 262144)), (128 + ((c / 4096) % 64)), (128 + ((c / 64) % 64)), (128 + (c % 64))] : List Int)))) w40 := f_string_i sT66 (by kernel_rfl) (by kernel_rfl) (hM42.rd 0 rfl) (by intro x hx; simp at hx; omega)
        have hM58 : Mem [] w w40 [] := hM42.sub (List.Sublist.cons _ (List.Sublist.refl _))
        refine GoS.run [2] [.n, .n, .n, .h (.int .i64 (c / 262144)), .h (.int .i64 (240 + (c / 262144))), .h (.int .u8 (240 + (c / 262144))), .n, .h (.int .i64 (c / 4096)), .h (.int .i64 ((c / 4096) % 64)), .h (.int .i64 (128 + ((c / 4096) % 64))), .h (.int .u8 (128 + ((c / 4096) % 64))), .n, .h (.int .i64 (c / 64)), .h (.int .i64 ((c / 64) % 64)), .h (.int .i64 (128 + ((c / 64) % 64))), .h (.int .u8 (128 + ((c / 64) % 64))), .n, .h (.int .i64 (c % 64)), .h (.int .i64 (128 + (c % 64))), .h (.int .u8 (128 + (c % 64))), .u (v39) (w40), .h (.string (sb (bytesOf ([(240 + (c / 262144)), (128 + ((c / 4096) % 64)), (128 + ((c / 64) % 64)), (128 + (c % 64))] : List Int)))), .n, .n] _ [.code (csub (cd Try.f48) [1,1,1,1,1])] [(2, .string (sb (bytesOf ([(240 + (c / 262144)), (128 + ((c / 4096) % 64)), (128 + ((c / 64) % 64)), (128 + (c % 64))] : List Int))))] w40 (by kernel_rfl) (.cons o43 (.cons o44 (.cons o45 (.cons o46 (.cons o47 (.cons o48 (.cons o49 (.cons o50 (.cons o51 (.cons o52 (.cons o53 (.cons o54 (.cons o55 (.cons o56 (.cons hr41 (.cons o57 .nil)))))))))))))))) ?_
        refine GoS.ret (fn := Try.f48) (v := (.string (sb (bytesOf ([(240 + (c / 262144)), (128 + ((c / 4096) % 64)), (128 + ((c / 64) % 64)), (128 + (c % 64))] : List Int))))) Try.func48 (by kernel_rfl) ?_
        rw [hR]
        exact ⟨ret_str (congrArg bytesOf (by unfold one; (repeat' split) <;> first | rfl | omega)), hM58⟩

set_option maxHeartbeats 400000 in
theorem rencode_L (v : Value) (l : List Int) {w0 : World} (hv : Rd w0 1 v l.length (ivals .i64 l)) (hlen : l.length * 8 ≤ 140737488355328) (R : Ending → World → Prop) (hR : R = (fun e w' => e = .returned (.tuple #[.string (sb (encT l)), .int .i64 (encE l)]) ∧ Mem [] w0 w' [])) : ∀ (N : Nat) (k : Nat) (w : World) (hk : k ≤ l.length) (hw : ∀ j, j < k → whole (l.getD j 0) = true) (hM : Mem [] w0 w []) (hN : l.length - k < N), GoS Try.prog 41 R 26 [.code (csub (cd Try.f41) [1,1,0,1,0,0]), .inLoop (csub (cd Try.f41) [1,1,0,1,0,0]), .inBlock 0, .code (csub (cd Try.f41) [1,1,1])] [(0, v), (4, .string (sb (bytesOf (enc (List.take k l))))), (5, .int .i64 ((k : Nat) : Int))] w := by
  intro N
  induction N with
  | zero => intro k w hk hw hM hN; exact absurd hN (Nat.not_lt_zero _)
  | succ N ih =>
    intro k w hk hw hM hN
    have o1 : (Builtin.len_ #[46] 3 #[v]).run Try.prog w = .ok (.int .i64 (((List.length l) : Nat) : Int)) w := f_slen sT46 (hv.kept0 hM.kept) 3 _
    refine GoS.run [0, 4, 5, 9] [.n, .n, .n, .n, .n, .h (.int .i64 (((List.length l) : Nat) : Int)), .n, .n] _ [.code (csub (cd Try.f41) [1,1,0,1,0,0,0,1]), .code (csub (cd Try.f41) [1,1,0,1,0,0,1]), .inLoop (csub (cd Try.f41) [1,1,0,1,0,0]), .inBlock 0, .code (csub (cd Try.f41) [1,1,1])] [(0, v), (4, .string (sb (bytesOf (enc (List.take k l))))), (5, .int .i64 ((k : Nat) : Int)), (9, .bool (decide (((k : Nat) : Int) < (((List.length l) : Nat) : Int))))] w (by kernel_rfl) (.cons o1 .nil) ?_
    refine GoS.cond (decide (((k : Nat) : Int) < (((List.length l) : Nat) : Int))) [.code (csub (cd Try.f41) [1,1,0,1,0,0,0,1,0]), .code (csub (cd Try.f41) [1,1,0,1,0,0,1]), .inLoop (csub (cd Try.f41) [1,1,0,1,0,0]), .inBlock 0, .code (csub (cd Try.f41) [1,1,1])] [.code (csub (cd Try.f41) [1,1,0,1,0,0,0,1,1]), .code (csub (cd Try.f41) [1,1,0,1,0,0,1]), .inLoop (csub (cd Try.f41) [1,1,0,1,0,0]), .inBlock 0, .code (csub (cd Try.f41) [1,1,1])] (by kernel_rfl) (fun h2 => ?_) (fun h2 => ?_)
    ·
      have h2p : ((k : Nat) : Int) < (((List.length l) : Nat) : Int) := of_decide_eq_true h2
      refine GoS.run [0, 4, 5] [.n] _ [.code (csub (cd Try.f41) [1,1,0,1,0,0,1]), .inLoop (csub (cd Try.f41) [1,1,0,1,0,0]), .inBlock 0, .code (csub (cd Try.f41) [1,1,1])] [(0, v), (4, .string (sb (bytesOf (enc (List.take k l))))), (5, .int .i64 ((k : Nat) : Int))] w (by kernel_rfl) .nil ?_
      obtain ⟨p3, hp4, hq5⟩ := rd_at (i := ((k : Nat) : Int)) sT46 (hv.kept0 hM.kept) k (by omega) (by first | omega | (dsimp only; omega))
      have o6 : (Instr.indexAt 46 (v) (.int .i64 ((k : Nat) : Int))).run Try.prog w = .ok (.pointer (some p3)) w := hq5 _ _
      have o7 : (Instr.loadAt 3 (.pointer (some p3))).run Try.prog w = .ok (.int .i64 (List.getD l k 0)) w := at_load pE3 (hv.kept0 hM.kept) hp4 (ivals_at (by first | omega | (dsimp only; omega)))
      refine GoS.run [0, 4, 5, 15] [.n, .n, .n, .n, .n, .n, .n, .h (.pointer (some p3)), .h (.int .i64 (List.getD l k 0))] _ [.inRegion (cops (csub (cd Try.f41) [1,1,0,1,0,0,1,0,0,0,0])) [4,5], .code (csub (cd Try.f41) [1,1,0,1,0,0,1,0,0,0,1]), .code (csub (cd Try.f41) [1,1,0,1,0,0,1,0,0,1]), .inBlock 1, .code (csub (cd Try.f41) [1,1,0,1,0,0,1,1]), .inLoop (csub (cd Try.f41) [1,1,0,1,0,0]), .inBlock 0, .code (csub (cd Try.f41) [1,1,1])] [(0, v), (4, .string (sb (bytesOf (enc (List.take k l))))), (5, .int .i64 ((k : Nat) : Int)), (15, .int .i64 (List.getD l k 0))] w (by kernel_rfl) (.cons o6 (.cons o7 .nil)) ?_
      refine GoS.call [0, 4, 5] 47 #[.int .i64 (List.getD l k 0)] (some 16) [.inRegion (cops (csub (cd Try.f41) [1,1,0,1,0,0,1,0,0,0,0])) [5], .code (csub (cd Try.f41) [1,1,0,1,0,0,1,0,0,0,1]), .code (csub (cd Try.f41) [1,1,0,1,0,0,1,0,0,1]), .inBlock 1, .code (csub (cd Try.f41) [1,1,0,1,0,0,1,1]), .inLoop (csub (cd Try.f41) [1,1,0,1,0,0]), .inBlock 0, .code (csub (cd Try.f41) [1,1,1])] [(0, v), (4, .string (sb (bytesOf (enc (List.take k l))))), (5, .int .i64 ((k : Nat) : Int))] (by kernel_rfl) (rwhole_c (List.getD l k 0) w) ?_
      rintro _ _ ⟨rfl, rfl⟩
      refine ⟨_, rfl, ?_⟩
      refine GoS.run [0, 4, 5, 17] [.n, .n] _ [.code (csub (cd Try.f41) [1,1,0,1,0,0,1,0,0,0,1]), .code (csub (cd Try.f41) [1,1,0,1,0,0,1,0,0,1]), .inBlock 1, .code (csub (cd Try.f41) [1,1,0,1,0,0,1,1]), .inLoop (csub (cd Try.f41) [1,1,0,1,0,0]), .inBlock 0, .code (csub (cd Try.f41) [1,1,1])] [(0, v), (4, .string (sb (bytesOf (enc (List.take k l))))), (5, .int .i64 ((k : Nat) : Int)), (17, .bool (!(whole (List.getD l k 0))))] w (by kernel_rfl) .nil ?_
      refine GoS.cond (!(whole (List.getD l k 0))) [.code (csub (cd Try.f41) [1,1,0,1,0,0,1,0,0,0,1,0]), .code (csub (cd Try.f41) [1,1,0,1,0,0,1,0,0,1]), .inBlock 1, .code (csub (cd Try.f41) [1,1,0,1,0,0,1,1]), .inLoop (csub (cd Try.f41) [1,1,0,1,0,0]), .inBlock 0, .code (csub (cd Try.f41) [1,1,1])] [.code (csub (cd Try.f41) [1,1,0,1,0,0,1,0,0,0,1,1]), .code (csub (cd Try.f41) [1,1,0,1,0,0,1,0,0,1]), .inBlock 1, .code (csub (cd Try.f41) [1,1,0,1,0,0,1,1]), .inLoop (csub (cd Try.f41) [1,1,0,1,0,0]), .inBlock 0, .code (csub (cd Try.f41) [1,1,1])] (by kernel_rfl) (fun h8 => ?_) (fun h8 => ?_)
      ·
        refine GoS.run [2, 3] [.n, .n, .n, .n, .n] _ [.code (csub (cd Try.f41) [1,1,0,1,0,0,1,0,0,0,1,0,1]), .code (csub (cd Try.f41) [1,1,0,1,0,0,1,0,0,1]), .inBlock 1, .code (csub (cd Try.f41) [1,1,0,1,0,0,1,1]), .inLoop (csub (cd Try.f41) [1,1,0,1,0,0]), .inBlock 0, .code (csub (cd Try.f41) [1,1,1])] [(2, .string (sb ([]))), (3, .int .i64 1)] w (by kernel_rfl) .nil ?_
        refine GoS.ret (fn := Try.f41) (v := (.tuple #[.string (sb ([])), .int .i64 1])) Try.func41 (by kernel_rfl) ?_
        rw [hR]
        have e := allW_no (k := k) (by omega) (p_nf h8)
        exact ⟨ret_str2 (by rw [encT, e]; rfl) (by rw [encE, e]; rfl), hM⟩
      ·
        have h8p : 0 ≤ (List.getD l k 0) ∧ (List.getD l k 0) ≤ 1114111 ∧ ((List.getD l k 0) < 55296 ∨ (List.getD l k 0) > 57343) := whole_iff.1 (p_nt h8)
        refine GoS.run [0, 4, 5] [.n] _ [.code (csub (cd Try.f41) [1,1,0,1,0,0,1,0,0,1]), .inBlock 1, .code (csub (cd Try.f41) [1,1,0,1,0,0,1,1]), .inLoop (csub (cd Try.f41) [1,1,0,1,0,0]), .inBlock 0, .code (csub (cd Try.f41) [1,1,1])] [(0, v), (4, .string (sb (bytesOf (enc (List.take k l))))), (5, .int .i64 ((k : Nat) : Int))] w (by kernel_rfl) .nil ?_
        obtain ⟨p9, hp10, hq11⟩ := rd_at (i := ((k : Nat) : Int)) sT46 (hv.kept0 hM.kept) k (by omega) (by first | omega | (dsimp only; omega))
        have o12 : (Instr.indexAt 46 (v) (.int .i64 ((k : Nat) : Int))).run Try.prog w = .ok (.pointer (some p9)) w := hq11 _ _
        have o13 : (Instr.loadAt 3 (.pointer (some p9))).run Try.prog w = .ok (.int .i64 (List.getD l k 0)) w := at_load pE3 (hv.kept0 hM.kept) hp10 (ivals_at (by first | omega | (dsimp only; omega)))
        refine GoS.run [0, 5, 18, 22] [.n, .n, .n, .n, .h (.pointer (some p9)), .h (.int .i64 (List.getD l k 0))] _ [.inRegion (cops (csub (cd Try.f41) [1,1,0,1,0,0,1,0,0,1])) [5,6,7], .inBlock 1, .code (csub (cd Try.f41) [1,1,0,1,0,0,1,1]), .inLoop (csub (cd Try.f41) [1,1,0,1,0,0]), .inBlock 0, .code (csub (cd Try.f41) [1,1,1])] [(0, v), (5, .int .i64 ((k : Nat) : Int)), (18, .string (sb (bytesOf (enc (List.take k l))))), (22, .int .i64 (List.getD l k 0))] w (by kernel_rfl) (.cons o12 (.cons o13 .nil)) ?_
        refine GoS.call [0, 5, 18] 48 #[.int .i64 (List.getD l k 0)] (some 23) [.inRegion (cops (csub (cd Try.f41) [1,1,0,1,0,0,1,0,0,1])) [6,7], .inBlock 1, .code (csub (cd Try.f41) [1,1,0,1,0,0,1,1]), .inLoop (csub (cd Try.f41) [1,1,0,1,0,0]), .inBlock 0, .code (csub (cd Try.f41) [1,1,1])] [(0, v), (5, .int .i64 ((k : Nat) : Int)), (18, .string (sb (bytesOf (enc (List.take k l)))))] (by kernel_rfl) (one_c (List.getD l k 0) (p_nf2 h8) w) ?_
        rintro _ w14 ⟨rfl, m15⟩
        refine ⟨_, rfl, ?_⟩
        have hM16 := Mem.join hM m15
        have o17 : (binOp .add 9 (.string (sb (bytesOf (enc (List.take k l))))) (.string (sb (bytesOf (one (List.getD l k 0)))))).run Try.prog w14 = .ok (.string (sb ((bytesOf (enc (List.take k l))) ++ (bytesOf (one (List.getD l k 0)))))) w14 := f_stradd (by have h1 := enc_len (List.take k l); have h2 : (List.take k l).length = k := (by rw [List.length_take]; omega); have h3 := one_len (List.getD l k 0); rw [bytesOf_len, bytesOf_len]; omega)
        have o18 : (binOp .add 3 (.int .i64 ((k : Nat) : Int)) (.int .i64 1)).run Try.prog w14 = .ok (.int .i64 (((k + 1) : Nat) : Int)) w14 := f_add (by rw [show ((k : Nat) : Int) + 1 = (((k + 1) : Nat) : Int) by omega]; exact IntWalk.i64_in _ (by omega))
        refine GoS.run [0, 4, 5] [.h (.string (sb ((bytesOf (enc (List.take k l))) ++ (bytesOf (one (List.getD l k 0)))))), .n, .n, .n, .n, .n, .h (.int .i64 (((k + 1) : Nat) : Int)), .n, .n, .n] _ [.code (csub (cd Try.f41) [1,1,0,1,0,0]), .inLoop (csub (cd Try.f41) [1,1,0,1,0,0]), .inBlock 0, .code (csub (cd Try.f41) [1,1,1])] [(0, v), (4, .string (sb ((bytesOf (enc (List.take k l))) ++ (bytesOf (one (List.getD l k 0)))))), (5, .int .i64 (((k + 1) : Nat) : Int))] w14 (by kernel_rfl) (.cons o17 (.cons o18 .nil)) ?_
        have e : ((bytesOf (enc (List.take k l))) ++ (bytesOf (one (List.getD l k 0)))) = bytesOf (enc (List.take (k + 1) l)) := by rw [take_snoc l (by omega), enc_snoc, bytesOf_app]
        refine GoS.cast (by rw [e]) (ih (k + 1) _ (by omega) (fun j hj => by rcases Nat.lt_succ_iff_lt_or_eq.1 hj with h | h; exact hw j h; subst h; exact p_nf2 h8) hM16 (by omega))
    ·
      have h2p : ¬ (((k : Nat) : Int) < (((List.length l) : Nat) : Int)) := of_decide_eq_false h2
      refine GoS.run [2, 3] [.n, .n, .n, .n, .n, .n, .n] _ [.code (csub (cd Try.f41) [1,1,1,1])] [(2, .string (sb (bytesOf (enc (List.take k l))))), (3, .int .i64 0)] w (by kernel_rfl) .nil ?_
      refine GoS.ret (fn := Try.f41) (v := (.tuple #[.string (sb (bytesOf (enc (List.take k l)))), .int .i64 0])) Try.func41 (by kernel_rfl) ?_
      rw [hR]
      have e : k = l.length := by omega
      subst e
      have e := allW_all hw
      exact ⟨ret_str2 (by rw [encT, if_pos e, List.take_length]) (by rw [encE, if_pos e]), hM⟩

set_option maxHeartbeats 400000 in
theorem rencode_c (v : Value) (l : List Int) (w : World) (hv : Rd w 1 v l.length (ivals .i64 l)) (hlen : l.length * 8 ≤ 140737488355328) :
    Calls Try.prog 41 #[v] w (fun e w' => e = .returned (.tuple #[.string (sb (encT l)), .int .i64 (encE l)]) ∧ Mem [] w w' []) := by
  obtain ⟨R, hR⟩ : ∃ R : Ending → World → Prop, R = (fun e w' => e = .returned (.tuple #[.string (sb (encT l)), .int .i64 (encE l)]) ∧ Mem [] w w' []) := ⟨_, rfl⟩
  rw [← hR]
  refine GoS.enter (n := 26) Try.func41 (by kernel_rfl) rfl [(0, v)] (by kernel_rfl) (by kernel_rfl) ?_
  have hM0 := Mem.start w
  refine GoS.run [0, 4, 5] [.n, .n, .n, .n, .n, .n, .n, .n, .n, .n, .n, .n, .n, .n, .n, .n] _ [.code (csub (cd Try.f41) [1,1,0,1,0,0]), .inLoop (csub (cd Try.f41) [1,1,0,1,0,0]), .inBlock 0, .code (csub (cd Try.f41) [1,1,1])] [(0, v), (4, .string (sb ([]))), (5, .int .i64 0)] w (by kernel_rfl) .nil ?_
  exact rencode_L v l hv hlen R hR (l.length + 1) 0 w (by omega) (by intro j hj; omega) hM0 (by omega)

set_option maxHeartbeats 400000 in
theorem guess_c (s : List UInt8) (h1 : 1 ≤ s.length) (h4 : s.length ≤ 4) (w : World) :
    Calls Try.prog 46 #[.string (sb s)] w (fun e w' => e = .returned (.int .i64 (guessP s)) ∧ Mem [] w w' []) := by
  obtain ⟨R, hR⟩ : ∃ R : Ending → World → Prop, R = (fun e w' => e = .returned (.int .i64 (guessP s)) ∧ Mem [] w w' []) := ⟨_, rfl⟩
  rw [← hR]
  refine GoS.enter (n := 30) Try.func46 (by kernel_rfl) rfl [(0, .string (sb s))] (by kernel_rfl) (by kernel_rfl) ?_
  have hM0 := Mem.start w
  obtain ⟨b1, w2, hr3, hM4⟩ := m_alloc oT71 hM0
  have hM5 : Mem [] w w2 [⟨71, 5, (obj b1), 1, (ivals .i64 ([0, 0, 0, 0, 0] : List Int))⟩] := hM4
  obtain ⟨w6, hr7, hM8⟩ := c_stores (ys := [.int .i64 0, .int .i64 0, .int .i64 192, .int .i64 224, .int .i64 240]) aE71 hM5 0 rfl (cel_obj b1 0) rfl (by decide) (by intro u hu; simp at hu; rcases hu with rfl | rfl | rfl | rfl | rfl <;> first | rfl)
  have hM9 : Mem [] w w6 [⟨71, 5, (obj b1), 1, (ivals .i64 ([0, 0, 192, 224, 240] : List Int))⟩] := hM8
  have o10 : (Instr.storeAt 71 (.pointer (some (⟨b1, 0, none⟩))) (.agg #[.int .i64 0, .int .i64 0, .int .i64 192, .int .i64 224, .int .i64 240])).run Try.prog w2 = .ok () w6 ∧ undef = undef := ⟨hr7, rfl⟩
  refine GoS.run [0, 3] [.n, .n, .n, .n, .n, .n, .n, .u (.pointer (some (⟨b1, 0, none⟩))) (w2), .u (undef) (w6), .n, .n] _ [.code (csub (cd Try.f46) [1,1,0]), .code (csub (cd Try.f46) [1,1,1])] [(0, .string (sb s)), (3, .pointer (some (⟨b1, 0, none⟩)))] w6 (by kernel_rfl) (.cons hr3 (.cons o10 .nil)) ?_
  have hb11 := bl_bd s 0
  have hb12 := lead_bd (s.length)
  refine GoS.drawC (fun W_ => Kept [] w6 W_) 2 (by kernel_rfl) [0, 4] [.u (.string (sb s)) w6, .h (.int .u8 (bl s 0)), .h (.int .i64 (bl s 0)), .u (.string (sb s)) w6, .h (.int .i64 ((s.length : Nat) : Int)), .h (.pointer (some (Addr.add (⟨b1, 0, none⟩) (s.length * 1)))), .h (.int .i64 (List.getD ([0, 0, 192, 224, 240] : List Int) (s.length) 0)), .h (.int .i64 ((bl s 0) - (List.getD ([0, 0, 192, 224, 240] : List Int) (s.length) 0))), .u (.int .i64 ((bl s 0) - (List.getD ([0, 0, 192, 224, 240] : List Int) (s.length) 0))) w6] (fun W_ => [(Instr.index 9 (.string (sb s)) (.int .i64 0)).run Try.prog W_ = .ok (.int .u8 (bl s 0)) W_, (convert 5 3 (.int .u8 (bl s 0))).run Try.prog W_ = .ok (.int .i64 (bl s 0)) W_, (Builtin.len_ #[9] 3 #[.string (sb s)]).run Try.prog W_ = .ok (.int .i64 ((s.length : Nat) : Int)) W_, (Instr.indexAt 71 (.pointer (some (⟨b1, 0, none⟩))) (.int .i64 ((s.length : Nat) : Int))).run Try.prog W_ = .ok (.pointer (some (Addr.add (⟨b1, 0, none⟩) (s.length * 1)))) W_, (Instr.loadAt 3 (.pointer (some (Addr.add (⟨b1, 0, none⟩) (s.length * 1))))).run Try.prog W_ = .ok (.int .i64 (List.getD ([0, 0, 192, 224, 240] : List Int) (s.length) 0)) W_, (binOp .sub 3 (.int .i64 (bl s 0)) (.int .i64 (List.getD ([0, 0, 192, 224, 240] : List Int) (s.length) 0))).run Try.prog W_ = .ok (.int .i64 ((bl s 0) - (List.getD ([0, 0, 192, 224, 240] : List Int) (s.length) 0))) W_]) [(.string (sb s), .string (sb s)), (.string (sb s), .string (sb s)), (.int .i64 ((bl s 0) - (List.getD ([0, 0, 192, 224, 240] : List Int) (s.length) 0)), .int .i64 ((bl s 0) - (List.getD ([0, 0, 192, 224, 240] : List Int) (s.length) 0)))] [(0, .string (sb s)), (4, .int .i64 ((bl s 0) - (List.getD ([0, 0, 192, 224, 240] : List Int) (s.length) 0)))] (by kernel_rfl) (by kernel_rfl) ([(4, .int .i64 ((bl s 0) - (List.getD ([0, 0, 192, 224, 240] : List Int) (s.length) 0))), (14, .int .i64 ((bl s 0) - (List.getD ([0, 0, 192, 224, 240] : List Int) (s.length) 0))), (13, .int .i64 (List.getD ([0, 0, 192, 224, 240] : List Int) (s.length) 0)), (12, .pointer (some (Addr.add (⟨b1, 0, none⟩) (s.length * 1)))), (11, .int .i64 ((s.length : Nat) : Int)), (10, .string (sb s)), (9, .int .i64 (bl s 0)), (8, .int .u8 (bl s 0)), (7, .string (sb s))] ++ [(0, .string (sb s)), (3, .pointer (some (⟨b1, 0, none⟩)))]) (fun W_ => by kernel_rfl) (by kernel_rfl) (.cons rfl (.cons rfl (.cons rfl Obs.nil))) (Kept.drewN _ _ 1) (fun W_ hW_ => (.cons (f_index 0 (by kernel_rfl) (by omega) (by first | omega | (simp; omega))) (.cons (f_conv (u := .int .u8) (by kernel_rfl) (by kernel_rfl) (IntWalk.i64_in _ (by omega))) (.cons (f_len (by kernel_rfl)) (.cons (f_arrAt (n := 5) (m := 1) Try.underlying71 (fun W => by kernel_rfl) (s.length) (by omega) (by first | omega | (simp; omega)) _ _ _) (.cons (c_load pE3 ((hM9.rd 0 rfl).kept0 hW_) (Cel.cast (Cel.add (cel_obj b1 0) (s.length * 1)) (by omega)) (ivals_at (by first | omega | (simp; omega)))) (.cons (f_sub (IntWalk.i64_in _ (by omega))) Obs.nil))))))) (fun w13 hw14 => ?_)
  have hM15 := hM9.ext hw14
  have o16 : (Builtin.len_ #[9] 3 #[.string (sb s)]).run Try.prog w13 = .ok (.int .i64 ((s.length : Nat) : Int)) w13 := f_len (by kernel_rfl)
  have hM17 : Mem [] w w13 [] := hM15.sub (List.Sublist.cons _ (List.Sublist.refl _))
  refine GoS.run [0, 4, 5, 18] [.n, .n, .n, .n, .n, .n, .n, .n, .n, .n, .n, .n, .h (.int .i64 ((s.length : Nat) : Int)), .n, .n] _ [.code (csub (cd Try.f46) [1,1,1,0,1,0,0,0,1]), .code (csub (cd Try.f46) [1,1,1,0,1,0,0,1]), .inLoop (csub (cd Try.f46) [1,1,1,0,1,0,0]), .inBlock 0, .code (csub (cd Try.f46) [1,1,1,1])] [(0, .string (sb s)), (4, .int .i64 ((bl s 0) - (List.getD ([0, 0, 192, 224, 240] : List Int) (s.length) 0))), (5, .int .i64 1), (18, .bool (decide (1 < ((s.length : Nat) : Int))))] w13 (by kernel_rfl) (.cons o16 .nil) ?_
  refine GoS.cond (decide (1 < ((s.length : Nat) : Int))) [.code (csub (cd Try.f46) [1,1,1,0,1,0,0,0,1,0]), .code (csub (cd Try.f46) [1,1,1,0,1,0,0,1]), .inLoop (csub (cd Try.f46) [1,1,1,0,1,0,0]), .inBlock 0, .code (csub (cd Try.f46) [1,1,1,1])] [.code (csub (cd Try.f46) [1,1,1,0,1,0,0,0,1,1]), .code (csub (cd Try.f46) [1,1,1,0,1,0,0,1]), .inLoop (csub (cd Try.f46) [1,1,1,0,1,0,0]), .inBlock 0, .code (csub (cd Try.f46) [1,1,1,1])] (by kernel_rfl) (fun h18 => ?_) (fun h18 => ?_)
  ·
    have h18p : 1 < ((s.length : Nat) : Int) := of_decide_eq_true h18
    refine GoS.run [0, 4, 5] [.n] _ [.code (csub (cd Try.f46) [1,1,1,0,1,0,0,1]), .inLoop (csub (cd Try.f46) [1,1,1,0,1,0,0]), .inBlock 0, .code (csub (cd Try.f46) [1,1,1,1])] [(0, .string (sb s)), (4, .int .i64 ((bl s 0) - (List.getD ([0, 0, 192, 224, 240] : List Int) (s.length) 0))), (5, .int .i64 1)] w13 (by kernel_rfl) .nil ?_
    have o20 : (binOp .mul 3 (.int .i64 64) (.int .i64 ((bl s 0) - (List.getD ([0, 0, 192, 224, 240] : List Int) (s.length) 0)))).run Try.prog w13 = .ok (.int .i64 (64 * ((bl s 0) - (List.getD ([0, 0, 192, 224, 240] : List Int) (s.length) 0)))) w13 := f_mul (IntWalk.i64_in _ (by omega))
    have hb19 := bl_bd s 1
    have o21 : (Instr.index 9 (.string (sb s)) (.int .i64 1)).run Try.prog w13 = .ok (.int .u8 (bl s 1)) w13 := f_index 1 (by kernel_rfl) (by omega) (by first | omega | (simp; omega))
    have o22 : (convert 5 3 (.int .u8 (bl s 1))).run Try.prog w13 = .ok (.int .i64 (bl s 1)) w13 := f_conv (u := .int .u8) (by kernel_rfl) (by kernel_rfl) (IntWalk.i64_in _ (by omega))
    have o23 : (binOp .add 3 (.int .i64 (64 * ((bl s 0) - (List.getD ([0, 0, 192, 224, 240] : List Int) (s.length) 0)))) (.int .i64 (bl s 1))).run Try.prog w13 = .ok (.int .i64 ((64 * ((bl s 0) - (List.getD ([0, 0, 192, 224, 240] : List Int) (s.length) 0))) + (bl s 1))) w13 := f_add (IntWalk.i64_in _ (by omega))
    have o24 : (binOp .sub 3 (.int .i64 ((64 * ((bl s 0) - (List.getD ([0, 0, 192, 224, 240] : List Int) (s.length) 0))) + (bl s 1))) (.int .i64 128)).run Try.prog w13 = .ok (.int .i64 (((64 * ((bl s 0) - (List.getD ([0, 0, 192, 224, 240] : List Int) (s.length) 0))) + (bl s 1)) - 128)) w13 := f_sub (IntWalk.i64_in _ (by omega))
    have o25 : (Builtin.len_ #[9] 3 #[.string (sb s)]).run Try.prog w13 = .ok (.int .i64 ((s.length : Nat) : Int)) w13 := f_len (by kernel_rfl)
    refine GoS.run [0, 4, 5, 18] [.n, .n, .n, .n, .h (.int .i64 (64 * ((bl s 0) - (List.getD ([0, 0, 192, 224, 240] : List Int) (s.length) 0)))), .n, .n, .h (.int .u8 (bl s 1)), .h (.int .i64 (bl s 1)), .h (.int .i64 ((64 * ((bl s 0) - (List.getD ([0, 0, 192, 224, 240] : List Int) (s.length) 0))) + (bl s 1))), .h (.int .i64 (((64 * ((bl s 0) - (List.getD ([0, 0, 192, 224, 240] : List Int) (s.length) 0))) + (bl s 1)) - 128)), .n, .n, .n, .n, .n, .n, .n, .n, .n, .n, .n, .n, .n, .n, .h (.int .i64 ((s.length : Nat) : Int)), .n, .n] _ [.code (csub (cd Try.f46) [1,1,1,0,1,0,0,0,1]), .code (csub (cd Try.f46) [1,1,1,0,1,0,0,1]), .inLoop (csub (cd Try.f46) [1,1,1,0,1,0,0]), .inBlock 0, .code (csub (cd Try.f46) [1,1,1,1])] [(0, .string (sb s)), (4, .int .i64 (((64 * ((bl s 0) - (List.getD ([0, 0, 192, 224, 240] : List Int) (s.length) 0))) + (bl s 1)) - 128)), (5, .int .i64 2), (18, .bool (decide (2 < ((s.length : Nat) : Int))))] w13 (by kernel_rfl) (.cons o20 (.cons o21 (.cons o22 (.cons o23 (.cons o24 (.cons o25 .nil)))))) ?_
    refine GoS.cond (decide (2 < ((s.length : Nat) : Int))) [.code (csub (cd Try.f46) [1,1,1,0,1,0,0,0,1,0]), .code (csub (cd Try.f46) [1,1,1,0,1,0,0,1]), .inLoop (csub (cd Try.f46) [1,1,1,0,1,0,0]), .inBlock 0, .code (csub (cd Try.f46) [1,1,1,1])] [.code (csub (cd Try.f46) [1,1,1,0,1,0,0,0,1,1]), .code (csub (cd Try.f46) [1,1,1,0,1,0,0,1]), .inLoop (csub (cd Try.f46) [1,1,1,0,1,0,0]), .inBlock 0, .code (csub (cd Try.f46) [1,1,1,1])] (by kernel_rfl) (fun h26 => ?_) (fun h26 => ?_)
    ·
      have h26p : 2 < ((s.length : Nat) : Int) := of_decide_eq_true h26
      refine GoS.run [0, 4, 5] [.n] _ [.code (csub (cd Try.f46) [1,1,1,0,1,0,0,1]), .inLoop (csub (cd Try.f46) [1,1,1,0,1,0,0]), .inBlock 0, .code (csub (cd Try.f46) [1,1,1,1])] [(0, .string (sb s)), (4, .int .i64 (((64 * ((bl s 0) - (List.getD ([0, 0, 192, 224, 240] : List Int) (s.length) 0))) + (bl s 1)) - 128)), (5, .int .i64 2)] w13 (by kernel_rfl) .nil ?_
      have o28 : (binOp .mul 3 (.int .i64 64) (.int .i64 (((64 * ((bl s 0) - (List.getD ([0, 0, 192, 224, 240] : List Int) (s.length) 0))) + (bl s 1)) - 128))).run Try.prog w13 = .ok (.int .i64 (64 * (((64 * ((bl s 0) - (List.getD ([0, 0, 192, 224, 240] : List Int) (s.length) 0))) + (bl s 1)) - 128))) w13 := f_mul (IntWalk.i64_in _ (by omega))
      have hb27 := bl_bd s 2
      have o29 : (Instr.index 9 (.string (sb s)) (.int .i64 2)).run Try.prog w13 = .ok (.int .u8 (bl s 2)) w13 := f_index 2 (by kernel_rfl) (by omega) (by first | omega | (simp; omega))
      have o30 : (convert 5 3 (.int .u8 (bl s 2))).run Try.prog w13 = .ok (.int .i64 (bl s 2)) w13 := f_conv (u := .int .u8) (by kernel_rfl) (by kernel_rfl) (IntWalk.i64_in _ (by omega))
      have o31 : (binOp .add 3 (.int .i64 (64 * (((64 * ((bl s 0) - (List.getD ([0, 0, 192, 224, 240] : List Int) (s.length) 0))) + (bl s 1)) - 128))) (.int .i64 (bl s 2))).run Try.prog w13 = .ok (.int .i64 ((64 * (((64 * ((bl s 0) - (List.getD ([0, 0, 192, 224, 240] : List Int) (s.length) 0))) + (bl s 1)) - 128)) + (bl s 2))) w13 := f_add (IntWalk.i64_in _ (by omega))
      have o32 : (binOp .sub 3 (.int .i64 ((64 * (((64 * ((bl s 0) - (List.getD ([0, 0, 192, 224, 240] : List Int) (s.length) 0))) + (bl s 1)) - 128)) + (bl s 2))) (.int .i64 128)).run Try.prog w13 = .ok (.int .i64 (((64 * (((64 * ((bl s 0) - (List.getD ([0, 0, 192, 224, 240] : List Int) (s.length) 0))) + (bl s 1)) - 128)) + (bl s 2)) - 128)) w13 := f_sub (IntWalk.i64_in _ (by omega))
      have o33 : (Builtin.len_ #[9] 3 #[.string (sb s)]).run Try.prog w13 = .ok (.int .i64 ((s.length : Nat) : Int)) w13 := f_len (by kernel_rfl)
      refine GoS.run [0, 4, 5, 18] [.n, .n, .n, .n, .h (.int .i64 (64 * (((64 * ((bl s 0) - (List.getD ([0, 0, 192, 224, 240] : List Int) (s.length) 0))) + (bl s 1)) - 128))), .n, .n, .h (.int .u8 (bl s 2)), .h (.int .i64 (bl s 2)), .h (.int .i64 ((64 * (((64 * ((bl s 0) - (List.getD ([0, 0, 192, 224, 240] : List Int) (s.length) 0))) + (bl s 1)) - 128)) + (bl s 2))), .h (.int .i64 (((64 * (((64 * ((bl s 0) - (List.getD ([0, 0, 192, 224, 240] : List Int) (s.length) 0))) + (bl s 1)) - 128)) + (bl s 2)) - 128)), .n, .n, .n, .n, .n, .n, .n, .n, .n, .n, .n, .n, .n, .n, .h (.int .i64 ((s.length : Nat) : Int)), .n, .n] _ [.code (csub (cd Try.f46) [1,1,1,0,1,0,0,0,1]), .code (csub (cd Try.f46) [1,1,1,0,1,0,0,1]), .inLoop (csub (cd Try.f46) [1,1,1,0,1,0,0]), .inBlock 0, .code (csub (cd Try.f46) [1,1,1,1])] [(0, .string (sb s)), (4, .int .i64 (((64 * (((64 * ((bl s 0) - (List.getD ([0, 0, 192, 224, 240] : List Int) (s.length) 0))) + (bl s 1)) - 128)) + (bl s 2)) - 128)), (5, .int .i64 3), (18, .bool (decide (3 < ((s.length : Nat) : Int))))] w13 (by kernel_rfl) (.cons o28 (.cons o29 (.cons o30 (.cons o31 (.cons o32 (.cons o33 .nil)))))) ?_
      refine GoS.cond (decide (3 < ((s.length : Nat) : Int))) [.code (csub (cd Try.f46) [1,1,1,0,1,0,0,0,1,0]), .code (csub (cd Try.f46) [1,1,1,0,1,0,0,1]), .inLoop (csub (cd Try.f46) [1,1,1,0,1,0,0]), .inBlock 0, .code (csub (cd Try.f46) [1,1,1,1])] [.code (csub (cd Try.f46) [1,1,1,0,1,0,0,0,1,1]), .code (csub (cd Try.f46) [1,1,1,0,1,0,0,1]), .inLoop (csub (cd Try.f46) [1,1,1,0,1,0,0]), .inBlock 0, .code (csub (cd Try.f46) [1,1,1,1])] (by kernel_rfl) (fun h34 => ?_) (fun h34 => ?_)
      ·
        have h34p : 3 < ((s.length : Nat) : Int) := of_decide_eq_true h34
        refine GoS.run [0, 4, 5] [.n] _ [.code (csub (cd Try.f46) [1,1,1,0,1,0,0,1]), .inLoop (csub (cd Try.f46) [1,1,1,0,1,0,0]), .inBlock 0, .code (csub (cd Try.f46) [1,1,1,1])] [(0, .string (sb s)), (4, .int .i64 (((64 * (((64 * ((bl s 0) - (List.getD ([0, 0, 192, 224, 240] : List Int) (s.length) 0))) + (bl s 1)) - 128)) + (bl s 2)) - 128)), (5, .int .i64 3)] w13 (by kernel_rfl) .nil ?_
        have o36 : (binOp .mul 3 (.int .i64 64) (.int .i64 (((64 * (((64 * ((bl s 0) - (List.getD ([0, 0, 192, 224, 240] : List Int) (s.length) 0))) + (bl s 1)) - 128)) + (bl s 2)) - 128))).run Try.prog w13 = .ok (.int .i64 (64 * (((64 * (((64 * ((bl s 0) - (List.getD ([0, 0, 192, 224, 240] : List Int) (s.length) 0))) + (bl s 1)) - 128)) + (bl s 2)) - 128))) w13 := f_mul (IntWalk.i64_in _ (by omega))
        have hb35 := bl_bd s 3
        have o37 : (Instr.index 9 (.string (sb s)) (.int .i64 3)).run Try.prog w13 = .ok (.int .u8 (bl s 3)) w13 := f_index 3 (by kernel_rfl) (by omega) (by first | omega | (simp; omega))
        have o38 : (convert 5 3 (.int .u8 (bl s 3))).run Try.prog w13 = .ok (.int .i64 (bl s 3)) w13 := f_conv (u := .int .u8) (by kernel_rfl) (by kernel_rfl) (IntWalk.i64_in _ (by omega))
        have o39 : (binOp .add 3 (.int .i64 (64 * (((64 * (((64 * ((bl s 0) - (List.getD ([0, 0, 192, 224, 240] : List Int) (s.length) 0))) + (bl s 1)) - 128)) + (bl s 2)) - 128))) (.int .i64 (bl s 3))).run Try.prog w13 = .ok (.int .i64 ((64 * (((64 * (((64 * ((bl s 0) - (List.getD ([0, 0, 192, 224, 240] : List Int) (s.length) 0))) + (bl s 1)) - 128)) + (bl s 2)) - 128)) + (bl s 3))) w13 := f_add (IntWalk.i64_in _ (by omega))
        have o40 : (binOp .sub 3 (.int .i64 ((64 * (((64 * (((64 * ((bl s 0) - (List.getD ([0, 0, 192, 224, 240] : List Int) (s.length) 0))) + (bl s 1)) - 128)) + (bl s 2)) - 128)) + (bl s 3))) (.int .i64 128)).run Try.prog w13 = .ok (.int .i64 (((64 * (((64 * (((64 * ((bl s 0) - (List.getD ([0, 0, 192, 224, 240] : List Int) (s.length) 0))) + (bl s 1)) - 128)) + (bl s 2)) - 128)) + (bl s 3)) - 128)) w13 := f_sub (IntWalk.i64_in _ (by omega))
        have o41 : (Builtin.len_ #[9] 3 #[.string (sb s)]).run Try.prog w13 = .ok (.int .i64 ((s.length : Nat) : Int)) w13 := f_len (by kernel_rfl)
        refine GoS.run [0, 4, 5, 18] [.n, .n, .n, .n, .h (.int .i64 (64 * (((64 * (((64 * ((bl s 0) - (List.getD ([0, 0, 192, 224, 240] : List Int) (s.length) 0))) + (bl s 1)) - 128)) + (bl s 2)) - 128))), .n, .n, .h (.int .u8 (bl s 3)), .h (.int .i64 (bl s 3)), .h (.int .i64 ((64 * (((64 * (((64 * ((bl s 0) - (List.getD ([0, 0, 192, 224, 240] : List Int) (s.length) 0))) + (bl s 1)) - 128)) + (bl s 2)) - 128)) + (bl s 3))), .h (.int .i64 (((64 * (((64 * (((64 * ((bl s 0) - (List.getD ([0, 0, 192, 224, 240] : List Int) (s.length) 0))) + (bl s 1)) - 128)) + (bl s 2)) - 128)) + (bl s 3)) - 128)), .n, .n, .n, .n, .n, .n, .n, .n, .n, .n, .n, .n, .n, .n, .h (.int .i64 ((s.length : Nat) : Int)), .n, .n] _ [.code (csub (cd Try.f46) [1,1,1,0,1,0,0,0,1]), .code (csub (cd Try.f46) [1,1,1,0,1,0,0,1]), .inLoop (csub (cd Try.f46) [1,1,1,0,1,0,0]), .inBlock 0, .code (csub (cd Try.f46) [1,1,1,1])] [(0, .string (sb s)), (4, .int .i64 (((64 * (((64 * (((64 * ((bl s 0) - (List.getD ([0, 0, 192, 224, 240] : List Int) (s.length) 0))) + (bl s 1)) - 128)) + (bl s 2)) - 128)) + (bl s 3)) - 128)), (5, .int .i64 4), (18, .bool (decide (4 < ((s.length : Nat) : Int))))] w13 (by kernel_rfl) (.cons o36 (.cons o37 (.cons o38 (.cons o39 (.cons o40 (.cons o41 .nil)))))) ?_
        refine GoS.cond (decide (4 < ((s.length : Nat) : Int))) [.code (csub (cd Try.f46) [1,1,1,0,1,0,0,0,1,0]), .code (csub (cd Try.f46) [1,1,1,0,1,0,0,1]), .inLoop (csub (cd Try.f46) [1,1,1,0,1,0,0]), .inBlock 0, .code (csub (cd Try.f46) [1,1,1,1])] [.code (csub (cd Try.f46) [1,1,1,0,1,0,0,0,1,1]), .code (csub (cd Try.f46) [1,1,1,0,1,0,0,1]), .inLoop (csub (cd Try.f46) [1,1,1,0,1,0,0]), .inBlock 0, .code (csub (cd Try.f46) [1,1,1,1])] (by kernel_rfl) (fun h42 => ?_) (fun h42 => ?_)
        ·
          have hz : 4 < ((s.length : Nat) : Int) := of_decide_eq_true (by assumption)
          omega
        ·
          have h42p : ¬ (4 < ((s.length : Nat) : Int)) := of_decide_eq_false h42
          refine GoS.run [2] [.n, .n, .n, .n, .n, .n] _ [.code (csub (cd Try.f46) [1,1,1,1,1])] [(2, .int .i64 (((64 * (((64 * (((64 * ((bl s 0) - (List.getD ([0, 0, 192, 224, 240] : List Int) (s.length) 0))) + (bl s 1)) - 128)) + (bl s 2)) - 128)) + (bl s 3)) - 128))] w13 (by kernel_rfl) .nil ?_
          refine GoS.ret (fn := Try.f46) (v := (.int .i64 (((64 * (((64 * (((64 * ((bl s 0) - (List.getD ([0, 0, 192, 224, 240] : List Int) (s.length) 0))) + (bl s 1)) - 128)) + (bl s 2)) - 128)) + (bl s 3)) - 128))) Try.func46 (by kernel_rfl) ?_
          rw [hR]
          exact ⟨ret_int (by unfold guessP leadP; rw [guessF_step (by omega), guessF_step (by omega), guessF_step (by omega), guessF_end (by omega)]), hM17⟩
      ·
        have h34p : ¬ (3 < ((s.length : Nat) : Int)) := of_decide_eq_false h34
        refine GoS.run [2] [.n, .n, .n, .n, .n, .n] _ [.code (csub (cd Try.f46) [1,1,1,1,1])] [(2, .int .i64 (((64 * (((64 * ((bl s 0) - (List.getD ([0, 0, 192, 224, 240] : List Int) (s.length) 0))) + (bl s 1)) - 128)) + (bl s 2)) - 128))] w13 (by kernel_rfl) .nil ?_
        refine GoS.ret (fn := Try.f46) (v := (.int .i64 (((64 * (((64 * ((bl s 0) - (List.getD ([0, 0, 192, 224, 240] : List Int) (s.length) 0))) + (bl s 1)) - 128)) + (bl s 2)) - 128))) Try.func46 (by kernel_rfl) ?_
        rw [hR]
        exact ⟨ret_int (by unfold guessP leadP; rw [guessF_step (by omega), guessF_step (by omega), guessF_end (by omega)]), hM17⟩
    ·
      have h26p : ¬ (2 < ((s.length : Nat) : Int)) := of_decide_eq_false h26
      refine GoS.run [2] [.n, .n, .n, .n, .n, .n] _ [.code (csub (cd Try.f46) [1,1,1,1,1])] [(2, .int .i64 (((64 * ((bl s 0) - (List.getD ([0, 0, 192, 224, 240] : List Int) (s.length) 0))) + (bl s 1)) - 128))] w13 (by kernel_rfl) .nil ?_
      refine GoS.ret (fn := Try.f46) (v := (.int .i64 (((64 * ((bl s 0) - (List.getD ([0, 0, 192, 224, 240] : List Int) (s.length) 0))) + (bl s 1)) - 128))) Try.func46 (by kernel_rfl) ?_
      rw [hR]
      exact ⟨ret_int (by unfold guessP leadP; rw [guessF_step (by omega), guessF_end (by omega)]), hM17⟩
  ·
    have h18p : ¬ (1 < ((s.length : Nat) : Int)) := of_decide_eq_false h18
    refine GoS.run [2] [.n, .n, .n, .n, .n, .n] _ [.code (csub (cd Try.f46) [1,1,1,1,1])] [(2, .int .i64 ((bl s 0) - (List.getD ([0, 0, 192, 224, 240] : List Int) (s.length) 0)))] w13 (by kernel_rfl) .nil ?_
    refine GoS.ret (fn := Try.f46) (v := (.int .i64 ((bl s 0) - (List.getD ([0, 0, 192, 224, 240] : List Int) (s.length) 0)))) Try.func46 (by kernel_rfl) ?_
    rw [hR]
    exact ⟨ret_int (by unfold guessP leadP; rw [guessF_end (by omega)]), hM17⟩


end Go.Proofs.Ytnhplkkbpmijdaa
