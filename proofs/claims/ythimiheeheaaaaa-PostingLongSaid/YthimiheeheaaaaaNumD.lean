/-
  The walks of the reference: places, Num, long.
-/
import Derived.Test.YthimiheeheaaaaaNumC
import Derived.Test.YthimiheeheaaaaaNumR
namespace Go.Proofs.Ythimiheeheaaaaa
open Go Go.Gw Go.NumP Go.RowKit
set_option linter.unusedVariables false
set_option linter.unusedSimpArgs false


set_option maxHeartbeats 400000 in
theorem places_s (f : Int) (hF : f = 0 ∨ f = 255) (x : Nat) (hx : x < 18446744073709551616) (w : World) (ih : ∀ (y : Nat), y < x → ∀ (w : World), Calls Try.prog 45 #[.int .u64 ((y : Nat) : Int), .int .i64 f] w (fun e w' => e = .returned (.string (sb (bytesOf (List.map (flipI f) (digs (sz y) y))))) ∧ Mem [] w w' [])) :
    Calls Try.prog 45 #[.int .u64 ((x : Nat) : Int), .int .i64 f] w (fun e w' => e = .returned (.string (sb (bytesOf (List.map (flipI f) (digs (sz x) x))))) ∧ Mem [] w w' []) := by
  obtain ⟨R, hR⟩ : ∃ R : Ending → World → Prop, R = (fun e w' => e = .returned (.string (sb (bytesOf (List.map (flipI f) (digs (sz x) x))))) ∧ Mem [] w w' []) := ⟨_, rfl⟩
  rw [← hR]
  refine GoS.enter (n := 28) Try.func45 (by kernel_rfl) rfl [(0, .int .u64 ((x : Nat) : Int)), (1, .int .i64 f)] (by kernel_rfl) (by kernel_rfl) ?_
  have hM0 := Mem.start w
  have o1 : (binOp .rem 81 (.int .u64 ((x : Nat) : Int)) (.int .u64 256)).run Try.prog w = .ok (.int .u64 (((x % 256) : Nat) : Int)) w := f_rem (by decide) ((IntWalk.rem_in _ _ (by omega)).trans (by omega))
  have o2 : (convert 81 3 (.int .u64 (((x % 256) : Nat) : Int))).run Try.prog w = .ok (.int .i64 (((x % 256) : Nat) : Int)) w := f_conv (u := .int .u64) (by kernel_rfl) (by kernel_rfl) (IntWalk.i64_in _ (by omega))
  refine GoS.run [0, 1, 5, 11] [.n, .n, .n, .n, .n, .n, .n, .h (.int .u64 (((x % 256) : Nat) : Int)), .h (.int .i64 (((x % 256) : Nat) : Int)), .n, .n, .n, .n, .n, .n, .n, .n] _ [.code (csub (cd Try.f45) [1,1,0,1]), .code (csub (cd Try.f45) [1,1,1])] [(0, .int .u64 ((x : Nat) : Int)), (1, .int .i64 f), (5, .int .i64 (((x % 256) : Nat) : Int)), (11, .bool (decide (f > 0)))] w (by kernel_rfl) (.cons o1 (.cons o2 .nil)) ?_
  refine GoS.cond (decide (f > 0)) [.code (csub (cd Try.f45) [1,1,0,1,0]), .code (csub (cd Try.f45) [1,1,1])] [.code (csub (cd Try.f45) [1,1,0,1,1]), .code (csub (cd Try.f45) [1,1,1])] (by kernel_rfl) (fun h3 => ?_) (fun h3 => ?_)
  ·
    have h3p : f > 0 := of_decide_eq_true h3
    have o4 : (binOp .sub 3 (.int .i64 f) (.int .i64 (((x % 256) : Nat) : Int))).run Try.prog w = .ok (.int .i64 (f - (((x % 256) : Nat) : Int))) w := f_sub (IntWalk.i64_in _ (by omega))
    refine GoS.run [0, 1, 5] [.n, .n, .n, .h (.int .i64 (f - (((x % 256) : Nat) : Int))), .n, .n] _ [.code (csub (cd Try.f45) [1,1,1])] [(0, .int .u64 ((x : Nat) : Int)), (1, .int .i64 f), (5, .int .i64 (f - (((x % 256) : Nat) : Int)))] w (by kernel_rfl) (.cons o4 .nil) ?_
    have o9 : (convert 3 5 (.int .i64 (f - (((x % 256) : Nat) : Int)))).run Try.prog w = .ok (.int .u8 (((Int.toNat (f - (((x % 256) : Nat) : Int))) : Nat) : Int)) w := f_conv (u := .int .i64) (by kernel_rfl) (by kernel_rfl) ((IntWalk.u8_in _ (by omega)).trans (by omega))
    obtain ⟨v5, w6, hr7, hM8⟩ := m_lit sT78 hM0 (n := 1) (parts := #[(0, .int .u8 (((Int.toNat (f - (((x % 256) : Nat) : Int))) : Nat) : Int))]) (cs := [.int .u8 (((Int.toNat (f - (((x % 256) : Nat) : Int))) : Nat) : Int)]) (by decide) (by kernel_rfl) rfl
    have o10 : (Instr.buildSlice 78 1 #[(0, .int .u8 (((Int.toNat (f - (((x % 256) : Nat) : Int))) : Nat) : Int))]).run Try.prog w = .ok v5 w6 := hr7
    have o11 : (convert 78 9 (v5)).run Try.prog w6 = .ok (.string (sb (bytesOf ([(((Int.toNat (f - (((x % 256) : Nat) : Int))) : Nat) : Int)] : List Int)))) w6 := f_string_i sT78 (by kernel_rfl) (by kernel_rfl) (hM8.rd 0 rfl) (by intro x hx; simp at hx; omega)
    have hM12 : Mem [] w w6 [] := hM8.sub (List.Sublist.cons _ (List.Sublist.refl _))
    refine GoS.run [0, 1, 6, 20] [.n, .n, .n, .h (.int .u8 (((Int.toNat (f - (((x % 256) : Nat) : Int))) : Nat) : Int)), .u (v5) (w6), .h (.string (sb (bytesOf ([(((Int.toNat (f - (((x % 256) : Nat) : Int))) : Nat) : Int)] : List Int)))), .n, .n, .n, .n, .n, .n, .n, .n] _ [.code (csub (cd Try.f45) [1,1,1,1,0,1]), .code (csub (cd Try.f45) [1,1,1,1,1])] [(0, .int .u64 ((x : Nat) : Int)), (1, .int .i64 f), (6, .string (sb (bytesOf ([(((Int.toNat (f - (((x % 256) : Nat) : Int))) : Nat) : Int)] : List Int)))), (20, .bool (decide (((x : Nat) : Int) < 256)))] w6 (by kernel_rfl) (.cons o9 (.cons o10 (.cons o11 .nil))) ?_
    refine GoS.cond (decide (((x : Nat) : Int) < 256)) [.code (csub (cd Try.f45) [1,1,1,1,0,1,0]), .code (csub (cd Try.f45) [1,1,1,1,1])] [.code (csub (cd Try.f45) [1,1,1,1,0,1,1]), .code (csub (cd Try.f45) [1,1,1,1,1])] (by kernel_rfl) (fun h13 => ?_) (fun h13 => ?_)
    ·
      have h13p : ((x : Nat) : Int) < 256 := of_decide_eq_true h13
      refine GoS.run [4] [.n, .n, .n, .n, .n] _ [.code (csub (cd Try.f45) [1,1,1,1,0,1,0,1]), .code (csub (cd Try.f45) [1,1,1,1,1])] [(4, .string (sb (bytesOf ([(((Int.toNat (f - (((x % 256) : Nat) : Int))) : Nat) : Int)] : List Int))))] w6 (by kernel_rfl) .nil ?_
      refine GoS.ret (fn := Try.f45) (v := (.string (sb (bytesOf ([(((Int.toNat (f - (((x % 256) : Nat) : Int))) : Nat) : Int)] : List Int))))) Try.func45 (by kernel_rfl) ?_
      rw [hR]
      exact ⟨ret_str (places_eq1 (by omega) (by unfold flipI; split <;> omega)), hM12⟩
    ·
      have h13p : ¬ (((x : Nat) : Int) < 256) := of_decide_eq_false h13
      refine GoS.run [0, 1, 6] [.n] _ [.code (csub (cd Try.f45) [1,1,1,1,1])] [(0, .int .u64 ((x : Nat) : Int)), (1, .int .i64 f), (6, .string (sb (bytesOf ([(((Int.toNat (f - (((x % 256) : Nat) : Int))) : Nat) : Int)] : List Int))))] w6 (by kernel_rfl) .nil ?_
      have o14 : (binOp .quo 81 (.int .u64 ((x : Nat) : Int)) (.int .u64 256)).run Try.prog w6 = .ok (.int .u64 (((x / 256) : Nat) : Int)) w6 := f_quo (by decide) ((IntWalk.u64_quo _ _ (by omega)).trans (by omega))
      refine GoS.run [6, 23, 24] [.n, .n, .n, .h (.int .u64 (((x / 256) : Nat) : Int)), .n] _ [.inRegion (cops (csub (cd Try.f45) [1,1,1,1,1,0])) [3,4,5,6], .code (csub (cd Try.f45) [1,1,1,1,1,1])] [(6, .string (sb (bytesOf ([(((Int.toNat (f - (((x % 256) : Nat) : Int))) : Nat) : Int)] : List Int)))), (23, .int .u64 (((x / 256) : Nat) : Int)), (24, .int .i64 f)] w6 (by kernel_rfl) (.cons o14 .nil) ?_
      refine GoS.call [6] 45 #[.int .u64 (((x / 256) : Nat) : Int), .int .i64 f] (some 25) [.inRegion (cops (csub (cd Try.f45) [1,1,1,1,1,0])) [4,5,6], .code (csub (cd Try.f45) [1,1,1,1,1,1])] [(6, .string (sb (bytesOf ([(((Int.toNat (f - (((x % 256) : Nat) : Int))) : Nat) : Int)] : List Int))))] (by kernel_rfl) (ih (x / 256) (by omega) w6) ?_
      rintro _ w15 ⟨rfl, m16⟩
      refine ⟨_, rfl, ?_⟩
      have hM17 := Mem.join hM12 m16
      have o18 : (binOp .add 9 (.string (sb (bytesOf (List.map (flipI f) (digs (sz (x / 256)) (x / 256)))))) (.string (sb (bytesOf ([(((Int.toNat (f - (((x % 256) : Nat) : Int))) : Nat) : Int)] : List Int))))).run Try.prog w15 = .ok (.string (sb ((bytesOf (List.map (flipI f) (digs (sz (x / 256)) (x / 256)))) ++ (bytesOf ([(((Int.toNat (f - (((x % 256) : Nat) : Int))) : Nat) : Int)] : List Int))))) w15 := f_stradd (by rw [digs_flip_len, bytesOf_len]; have q := sz_bd (x / 256); simp only [List.length_cons, List.length_nil]; omega)
      refine GoS.run [4] [.n, .h (.string (sb ((bytesOf (List.map (flipI f) (digs (sz (x / 256)) (x / 256)))) ++ (bytesOf ([(((Int.toNat (f - (((x % 256) : Nat) : Int))) : Nat) : Int)] : List Int))))), .n, .n] _ [.code (csub (cd Try.f45) [1,1,1,1,1,1])] [(4, .string (sb ((bytesOf (List.map (flipI f) (digs (sz (x / 256)) (x / 256)))) ++ (bytesOf ([(((Int.toNat (f - (((x % 256) : Nat) : Int))) : Nat) : Int)] : List Int)))))] w15 (by kernel_rfl) (.cons o18 .nil) ?_
      refine GoS.ret (fn := Try.f45) (v := (.string (sb ((bytesOf (List.map (flipI f) (digs (sz (x / 256)) (x / 256)))) ++ (bytesOf ([(((Int.toNat (f - (((x % 256) : Nat) : Int))) : Nat) : Int)] : List Int)))))) Try.func45 (by kernel_rfl) ?_
      rw [hR]
      exact ⟨ret_str (places_eq (by omega) hx (by unfold flipI; split <;> omega)), hM17⟩
  ·
    have h3p : ¬ (f > 0) := of_decide_eq_false h3
    refine GoS.run [0, 1, 5] [.n] _ [.code (csub (cd Try.f45) [1,1,1])] [(0, .int .u64 ((x : Nat) : Int)), (1, .int .i64 f), (5, .int .i64 (((x % 256) : Nat) : Int))] w (by kernel_rfl) .nil ?_
    have o23 : (convert 3 5 (.int .i64 (((x % 256) : Nat) : Int))).run Try.prog w = .ok (.int .u8 (((x % 256) : Nat) : Int)) w := f_conv (u := .int .i64) (by kernel_rfl) (by kernel_rfl) (IntWalk.u8_in _ (by omega))
    obtain ⟨v19, w20, hr21, hM22⟩ := m_lit sT78 hM0 (n := 1) (parts := #[(0, .int .u8 (((x % 256) : Nat) : Int))]) (cs := [.int .u8 (((x % 256) : Nat) : Int)]) (by decide) (by kernel_rfl) rfl
    have o24 : (Instr.buildSlice 78 1 #[(0, .int .u8 (((x % 256) : Nat) : Int))]).run Try.prog w = .ok v19 w20 := hr21
    have o25 : (convert 78 9 (v19)).run Try.prog w20 = .ok (.string (sb (bytesOf ([(((x % 256) : Nat) : Int)] : List Int)))) w20 := f_string_i sT78 (by kernel_rfl) (by kernel_rfl) (hM22.rd 0 rfl) (by intro x hx; simp at hx; omega)
    have hM26 : Mem [] w w20 [] := hM22.sub (List.Sublist.cons _ (List.Sublist.refl _))
    refine GoS.run [0, 1, 6, 20] [.n, .n, .n, .h (.int .u8 (((x % 256) : Nat) : Int)), .u (v19) (w20), .h (.string (sb (bytesOf ([(((x % 256) : Nat) : Int)] : List Int)))), .n, .n, .n, .n, .n, .n, .n, .n] _ [.code (csub (cd Try.f45) [1,1,1,1,0,1]), .code (csub (cd Try.f45) [1,1,1,1,1])] [(0, .int .u64 ((x : Nat) : Int)), (1, .int .i64 f), (6, .string (sb (bytesOf ([(((x % 256) : Nat) : Int)] : List Int)))), (20, .bool (decide (((x : Nat) : Int) < 256)))] w20 (by kernel_rfl) (.cons o23 (.cons o24 (.cons o25 .nil))) ?_
    refine GoS.cond (decide (((x : Nat) : Int) < 256)) [.code (csub (cd Try.f45) [1,1,1,1,0,1,0]), .code (csub (cd Try.f45) [1,1,1,1,1])] [.code (csub (cd Try.f45) [1,1,1,1,0,1,1]), .code (csub (cd Try.f45) [1,1,1,1,1])] (by kernel_rfl) (fun h27 => ?_) (fun h27 => ?_)
    ·
      have h27p : ((x : Nat) : Int) < 256 := of_decide_eq_true h27
      refine GoS.run [4] [.n, .n, .n, .n, .n] _ [.code (csub (cd Try.f45) [1,1,1,1,0,1,0,1]), .code (csub (cd Try.f45) [1,1,1,1,1])] [(4, .string (sb (bytesOf ([(((x % 256) : Nat) : Int)] : List Int))))] w20 (by kernel_rfl) .nil ?_
      refine GoS.ret (fn := Try.f45) (v := (.string (sb (bytesOf ([(((x % 256) : Nat) : Int)] : List Int))))) Try.func45 (by kernel_rfl) ?_
      rw [hR]
      exact ⟨ret_str (places_eq1 (by omega) (by unfold flipI; split <;> omega)), hM26⟩
    ·
      have h27p : ¬ (((x : Nat) : Int) < 256) := of_decide_eq_false h27
      refine GoS.run [0, 1, 6] [.n] _ [.code (csub (cd Try.f45) [1,1,1,1,1])] [(0, .int .u64 ((x : Nat) : Int)), (1, .int .i64 f), (6, .string (sb (bytesOf ([(((x % 256) : Nat) : Int)] : List Int))))] w20 (by kernel_rfl) .nil ?_
      have o28 : (binOp .quo 81 (.int .u64 ((x : Nat) : Int)) (.int .u64 256)).run Try.prog w20 = .ok (.int .u64 (((x / 256) : Nat) : Int)) w20 := f_quo (by decide) ((IntWalk.u64_quo _ _ (by omega)).trans (by omega))
      refine GoS.run [6, 23, 24] [.n, .n, .n, .h (.int .u64 (((x / 256) : Nat) : Int)), .n] _ [.inRegion (cops (csub (cd Try.f45) [1,1,1,1,1,0])) [3,4,5,6], .code (csub (cd Try.f45) [1,1,1,1,1,1])] [(6, .string (sb (bytesOf ([(((x % 256) : Nat) : Int)] : List Int)))), (23, .int .u64 (((x / 256) : Nat) : Int)), (24, .int .i64 f)] w20 (by kernel_rfl) (.cons o28 .nil) ?_
      refine GoS.call [6] 45 #[.int .u64 (((x / 256) : Nat) : Int), .int .i64 f] (some 25) [.inRegion (cops (csub (cd Try.f45) [1,1,1,1,1,0])) [4,5,6], .code (csub (cd Try.f45) [1,1,1,1,1,1])] [(6, .string (sb (bytesOf ([(((x % 256) : Nat) : Int)] : List Int))))] (by kernel_rfl) (ih (x / 256) (by omega) w20) ?_
      rintro _ w29 ⟨rfl, m30⟩
      refine ⟨_, rfl, ?_⟩
      have hM31 := Mem.join hM26 m30
      have o32 : (binOp .add 9 (.string (sb (bytesOf (List.map (flipI f) (digs (sz (x / 256)) (x / 256)))))) (.string (sb (bytesOf ([(((x % 256) : Nat) : Int)] : List Int))))).run Try.prog w29 = .ok (.string (sb ((bytesOf (List.map (flipI f) (digs (sz (x / 256)) (x / 256)))) ++ (bytesOf ([(((x % 256) : Nat) : Int)] : List Int))))) w29 := f_stradd (by rw [digs_flip_len, bytesOf_len]; have q := sz_bd (x / 256); simp only [List.length_cons, List.length_nil]; omega)
      refine GoS.run [4] [.n, .h (.string (sb ((bytesOf (List.map (flipI f) (digs (sz (x / 256)) (x / 256)))) ++ (bytesOf ([(((x % 256) : Nat) : Int)] : List Int))))), .n, .n] _ [.code (csub (cd Try.f45) [1,1,1,1,1,1])] [(4, .string (sb ((bytesOf (List.map (flipI f) (digs (sz (x / 256)) (x / 256)))) ++ (bytesOf ([(((x % 256) : Nat) : Int)] : List Int)))))] w29 (by kernel_rfl) (.cons o32 .nil) ?_
      refine GoS.ret (fn := Try.f45) (v := (.string (sb ((bytesOf (List.map (flipI f) (digs (sz (x / 256)) (x / 256)))) ++ (bytesOf ([(((x % 256) : Nat) : Int)] : List Int)))))) Try.func45 (by kernel_rfl) ?_
      rw [hR]
      exact ⟨ret_str (places_eq (by omega) hx (by unfold flipI; split <;> omega)), hM31⟩

theorem places_c (f : Int) (hF : f = 0 ∨ f = 255) (x : Nat) : ∀ (hx : x < 18446744073709551616) (w : World), Calls Try.prog 45 #[.int .u64 ((x : Nat) : Int), .int .i64 f] w (fun e w' => e = .returned (.string (sb (bytesOf (List.map (flipI f) (digs (sz x) x))))) ∧ Mem [] w w' []) := by
  induction x using Nat.strongRecOn with
  | _ x ih => exact fun hx w => places_s f hF x hx w (fun y hy w => ih y hy (by omega) w)

set_option maxHeartbeats 400000 in
theorem rnum_c (n : Int) (hn : -9223372036854775808 ≤ n ∧ n ≤ 9223372036854775807) (w : World) :
    Calls Try.prog 35 #[.int .i64 n] w (fun e w' => e = .returned (.string (sb (bytesOf (numB n)))) ∧ Mem [] w w' []) := by
  obtain ⟨R, hR⟩ : ∃ R : Ending → World → Prop, R = (fun e w' => e = .returned (.string (sb (bytesOf (numB n)))) ∧ Mem [] w w' []) := ⟨_, rfl⟩
  rw [← hR]
  refine GoS.enter (n := 43) Try.func35 (by kernel_rfl) rfl [(0, .int .i64 n)] (by kernel_rfl) (by kernel_rfl) ?_
  have hM0 := Mem.start w
  refine GoS.run [0, 7] [.n, .n, .n, .n, .n, .n, .n, .n, .n, .n] _ [.inRegion (cops (csub (cd Try.f35) [1,0,0])) [3,4,5], .code (csub (cd Try.f35) [1,0,1]), .code (csub (cd Try.f35) [1,1])] [(0, .int .i64 n), (7, .bool (decide (n ≥ (-112))))] w (by kernel_rfl) .nil ?_
  refine GoS.fork 7 (decide (n ≥ (-112))) (by kernel_rfl) (fun h1 => ?_) (fun h1 => ?_)
  ·
    have h1p : n ≥ (-112) := of_decide_eq_true h1
    refine GoS.run [0, 10] [.n, .n, .n] _ [.inRegion (cops (csub (cd Try.f35) [1,0,0])) [], .code (csub (cd Try.f35) [1,0,1]), .code (csub (cd Try.f35) [1,1])] [(0, .int .i64 n), (10, .bool (decide (n ≤ 111)))] w (by kernel_rfl) .nil ?_
    refine GoS.run [0, 10] [.n] _ [.code (csub (cd Try.f35) [1,0,1]), .code (csub (cd Try.f35) [1,1])] [(0, .int .i64 n), (10, .bool (decide (n ≤ 111)))] w (by kernel_rfl) .nil ?_
    refine GoS.cond (decide (n ≤ 111)) [.code (csub (cd Try.f35) [1,0,1,0]), .code (csub (cd Try.f35) [1,1])] [.code (csub (cd Try.f35) [1,0,1,1]), .code (csub (cd Try.f35) [1,1])] (by kernel_rfl) (fun h2 => ?_) (fun h2 => ?_)
    ·
      have h2p : n ≤ 111 := of_decide_eq_true h2
      have o7 : (binOp .add 3 (.int .i64 128) (.int .i64 n)).run Try.prog w = .ok (.int .i64 (128 + n)) w := f_add (IntWalk.i64_in _ (by omega))
      have o8 : (convert 3 5 (.int .i64 (128 + n))).run Try.prog w = .ok (.int .u8 (((Int.toNat (128 + n)) : Nat) : Int)) w := f_conv (u := .int .i64) (by kernel_rfl) (by kernel_rfl) ((IntWalk.u8_in _ (by omega)).trans (by omega))
      obtain ⟨v3, w4, hr5, hM6⟩ := m_lit sT78 hM0 (n := 1) (parts := #[(0, .int .u8 (((Int.toNat (128 + n)) : Nat) : Int))]) (cs := [.int .u8 (((Int.toNat (128 + n)) : Nat) : Int)]) (by decide) (by kernel_rfl) rfl
      have o9 : (Instr.buildSlice 78 1 #[(0, .int .u8 (((Int.toNat (128 + n)) : Nat) : Int))]).run Try.prog w = .ok v3 w4 := hr5
      have o10 : (convert 78 9 (v3)).run Try.prog w4 = .ok (.string (sb (bytesOf ([(((Int.toNat (128 + n)) : Nat) : Int)] : List Int)))) w4 := f_string_i sT78 (by kernel_rfl) (by kernel_rfl) (hM6.rd 0 rfl) (by intro x hx; simp at hx; omega)
      have hM11 : Mem [] w w4 [] := hM6.sub (List.Sublist.cons _ (List.Sublist.refl _))
      refine GoS.run [2] [.n, .n, .n, .h (.int .i64 (128 + n)), .h (.int .u8 (((Int.toNat (128 + n)) : Nat) : Int)), .u (v3) (w4), .h (.string (sb (bytesOf ([(((Int.toNat (128 + n)) : Nat) : Int)] : List Int)))), .n, .n] _ [.code (csub (cd Try.f35) [1,0,1,0,1]), .code (csub (cd Try.f35) [1,1])] [(2, .string (sb (bytesOf ([(((Int.toNat (128 + n)) : Nat) : Int)] : List Int))))] w4 (by kernel_rfl) (.cons o7 (.cons o8 (.cons o9 (.cons o10 .nil)))) ?_
      refine GoS.ret (fn := Try.f35) (v := (.string (sb (bytesOf ([(((Int.toNat (128 + n)) : Nat) : Int)] : List Int))))) Try.func35 (by kernel_rfl) ?_
      rw [hR]
      exact ⟨ret_str (num1 (by omega) _ (by omega)), hM11⟩
    ·
      have h2p : ¬ (n ≤ 111) := of_decide_eq_false h2
      refine GoS.run [0] [.n] _ [.code (csub (cd Try.f35) [1,1])] [(0, .int .i64 n)] w (by kernel_rfl) .nil ?_
      refine GoS.run [0, 17] [.n, .n, .n, .n, .n, .n] _ [.code (csub (cd Try.f35) [1,1,0,1]), .code (csub (cd Try.f35) [1,1,1])] [(0, .int .i64 n), (17, .bool (decide (n > 0)))] w (by kernel_rfl) .nil ?_
      refine GoS.cond (decide (n > 0)) [.code (csub (cd Try.f35) [1,1,0,1,0]), .code (csub (cd Try.f35) [1,1,1])] [.code (csub (cd Try.f35) [1,1,0,1,1]), .code (csub (cd Try.f35) [1,1,1])] (by kernel_rfl) (fun h12 => ?_) (fun h12 => ?_)
      ·
        have h12p : n > 0 := of_decide_eq_true h12
        have o13 : (binOp .sub 3 (.int .i64 n) (.int .i64 112)).run Try.prog w = .ok (.int .i64 (n - 112)) w := f_sub (IntWalk.i64_in _ (by omega))
        have o14 : (convert 3 81 (.int .i64 (n - 112))).run Try.prog w = .ok (.int .u64 (((Int.toNat (n - 112)) : Nat) : Int)) w := f_conv (u := .int .i64) (by kernel_rfl) (by kernel_rfl) ((IntWalk.u64_in _ (by omega)).trans (by omega))
        refine GoS.run [20] [.n, .n, .n, .h (.int .i64 (n - 112)), .h (.int .u64 (((Int.toNat (n - 112)) : Nat) : Int))] _ [.inRegion (cops (csub (cd Try.f35) [1,1,0,1,0,0])) [3,4], .code (csub (cd Try.f35) [1,1,0,1,0,1]), .code (csub (cd Try.f35) [1,1,1])] [(20, .int .u64 (((Int.toNat (n - 112)) : Nat) : Int))] w (by kernel_rfl) (.cons o13 (.cons o14 .nil)) ?_
        refine GoS.call [] 45 #[.int .u64 (((Int.toNat (n - 112)) : Nat) : Int), .int .i64 0] (some 21) [.inRegion (cops (csub (cd Try.f35) [1,1,0,1,0,0])) [4], .code (csub (cd Try.f35) [1,1,0,1,0,1]), .code (csub (cd Try.f35) [1,1,1])] [] (by kernel_rfl) (places_c 0 (by omega) (Int.toNat (n - 112)) (by omega) w) ?_
        rintro _ w15 ⟨rfl, m16⟩
        refine ⟨_, rfl, ?_⟩
        have hM17 := Mem.join hM0 m16
        have hl18 := digs_flip_len 0 (Int.toNat (n - 112))
        have hs19 := sz_bd (Int.toNat (n - 112))
        have o24 : (Builtin.len_ #[9] 3 #[.string (sb (bytesOf (List.map (flipI 0) (digs (sz (Int.toNat (n - 112))) (Int.toNat (n - 112))))))]).run Try.prog w15 = .ok (.int .i64 (((bytesOf (List.map (flipI 0) (digs (sz (Int.toNat (n - 112))) (Int.toNat (n - 112))))).length : Nat) : Int)) w15 := f_len (by kernel_rfl)
        have o25 : (binOp .add 3 (.int .i64 239) (.int .i64 (((bytesOf (List.map (flipI 0) (digs (sz (Int.toNat (n - 112))) (Int.toNat (n - 112))))).length : Nat) : Int))).run Try.prog w15 = .ok (.int .i64 ((((bytesOf (List.map (flipI 0) (digs (sz (Int.toNat (n - 112))) (Int.toNat (n - 112))))).length + 239) : Nat) : Int)) w15 := f_add (by rw [show 239 + (((bytesOf (List.map (flipI 0) (digs (sz (Int.toNat (n - 112))) (Int.toNat (n - 112))))).length : Nat) : Int) = ((((bytesOf (List.map (flipI 0) (digs (sz (Int.toNat (n - 112))) (Int.toNat (n - 112))))).length + 239) : Nat) : Int) by omega]; exact IntWalk.i64_in _ (by omega))
        have o26 : (convert 3 5 (.int .i64 ((((bytesOf (List.map (flipI 0) (digs (sz (Int.toNat (n - 112))) (Int.toNat (n - 112))))).length + 239) : Nat) : Int))).run Try.prog w15 = .ok (.int .u8 ((((bytesOf (List.map (flipI 0) (digs (sz (Int.toNat (n - 112))) (Int.toNat (n - 112))))).length + 239) : Nat) : Int)) w15 := f_conv (u := .int .i64) (by kernel_rfl) (by kernel_rfl) (IntWalk.u8_in _ (by omega))
        obtain ⟨v20, w21, hr22, hM23⟩ := m_lit sT78 hM17 (n := 1) (parts := #[(0, .int .u8 ((((bytesOf (List.map (flipI 0) (digs (sz (Int.toNat (n - 112))) (Int.toNat (n - 112))))).length + 239) : Nat) : Int))]) (cs := [.int .u8 ((((bytesOf (List.map (flipI 0) (digs (sz (Int.toNat (n - 112))) (Int.toNat (n - 112))))).length + 239) : Nat) : Int)]) (by decide) (by kernel_rfl) rfl
        have o27 : (Instr.buildSlice 78 1 #[(0, .int .u8 ((((bytesOf (List.map (flipI 0) (digs (sz (Int.toNat (n - 112))) (Int.toNat (n - 112))))).length + 239) : Nat) : Int))]).run Try.prog w15 = .ok v20 w21 := hr22
        have o28 : (convert 78 9 (v20)).run Try.prog w21 = .ok (.string (sb (bytesOf ([((((bytesOf (List.map (flipI 0) (digs (sz (Int.toNat (n - 112))) (Int.toNat (n - 112))))).length + 239) : Nat) : Int)] : List Int)))) w21 := f_string_i sT78 (by kernel_rfl) (by kernel_rfl) (hM23.rd 0 rfl) (by intro x hx; simp at hx; omega)
        have o29 : (binOp .add 9 (.string (sb (bytesOf ([((((bytesOf (List.map (flipI 0) (digs (sz (Int.toNat (n - 112))) (Int.toNat (n - 112))))).length + 239) : Nat) : Int)] : List Int)))) (.string (sb (bytesOf (List.map (flipI 0) (digs (sz (Int.toNat (n - 112))) (Int.toNat (n - 112)))))))).run Try.prog w21 = .ok (.string (sb ((bytesOf ([((((bytesOf (List.map (flipI 0) (digs (sz (Int.toNat (n - 112))) (Int.toNat (n - 112))))).length + 239) : Nat) : Int)] : List Int)) ++ (bytesOf (List.map (flipI 0) (digs (sz (Int.toNat (n - 112))) (Int.toNat (n - 112)))))))) w21 := f_stradd (by rw [bytesOf_len]; simp only [List.length_cons, List.length_nil]; omega)
        have hM30 : Mem [] w w21 [] := hM23.sub (List.Sublist.cons _ (List.Sublist.refl _))
        refine GoS.run [2] [.n, .n, .n, .n, .n, .h (.int .i64 (((bytesOf (List.map (flipI 0) (digs (sz (Int.toNat (n - 112))) (Int.toNat (n - 112))))).length : Nat) : Int)), .h (.int .i64 ((((bytesOf (List.map (flipI 0) (digs (sz (Int.toNat (n - 112))) (Int.toNat (n - 112))))).length + 239) : Nat) : Int)), .h (.int .u8 ((((bytesOf (List.map (flipI 0) (digs (sz (Int.toNat (n - 112))) (Int.toNat (n - 112))))).length + 239) : Nat) : Int)), .u (v20) (w21), .h (.string (sb (bytesOf ([((((bytesOf (List.map (flipI 0) (digs (sz (Int.toNat (n - 112))) (Int.toNat (n - 112))))).length + 239) : Nat) : Int)] : List Int)))), .n, .h (.string (sb ((bytesOf ([((((bytesOf (List.map (flipI 0) (digs (sz (Int.toNat (n - 112))) (Int.toNat (n - 112))))).length + 239) : Nat) : Int)] : List Int)) ++ (bytesOf (List.map (flipI 0) (digs (sz (Int.toNat (n - 112))) (Int.toNat (n - 112)))))))), .n, .n] _ [.code (csub (cd Try.f35) [1,1,0,1,0,1,1]), .code (csub (cd Try.f35) [1,1,1])] [(2, .string (sb ((bytesOf ([((((bytesOf (List.map (flipI 0) (digs (sz (Int.toNat (n - 112))) (Int.toNat (n - 112))))).length + 239) : Nat) : Int)] : List Int)) ++ (bytesOf (List.map (flipI 0) (digs (sz (Int.toNat (n - 112))) (Int.toNat (n - 112))))))))] w21 (by kernel_rfl) (.cons o24 (.cons o25 (.cons o26 (.cons o27 (.cons o28 (.cons o29 .nil)))))) ?_
        refine GoS.ret (fn := Try.f35) (v := (.string (sb ((bytesOf ([((((bytesOf (List.map (flipI 0) (digs (sz (Int.toNat (n - 112))) (Int.toNat (n - 112))))).length + 239) : Nat) : Int)] : List Int)) ++ (bytesOf (List.map (flipI 0) (digs (sz (Int.toNat (n - 112))) (Int.toNat (n - 112))))))))) Try.func35 (by kernel_rfl) ?_
        rw [hR]
        exact ⟨ret_str (num2 (by omega) (by omega)), hM30⟩
      ·
        have h12p : ¬ (n > 0) := of_decide_eq_false h12
        refine GoS.run [0] [.n] _ [.code (csub (cd Try.f35) [1,1,1])] [(0, .int .i64 n)] w (by kernel_rfl) .nil ?_
        have o32 : (binOp .add 3 (.int .i64 n) (.int .i64 113)).run Try.prog w = .ok (.int .i64 (n + 113)) w := f_add (IntWalk.i64_in _ (by omega))
        have hng31 := IntWalk.i64_in (0 - (n + 113)) (by omega)
        have o33 : (convert 3 81 (.int .i64 (IntKind.wrap .i64 (0 - (n + 113))))).run Try.prog w = .ok (.int .u64 (((Int.toNat (IntKind.wrap .i64 (0 - (n + 113)))) : Nat) : Int)) w := f_conv (u := .int .i64) (by kernel_rfl) (by kernel_rfl) ((IntWalk.u64_in _ (by omega)).trans (by omega))
        refine GoS.run [33] [.n, .n, .n, .h (.int .i64 (n + 113)), .n, .h (.int .u64 (((Int.toNat (IntKind.wrap .i64 (0 - (n + 113)))) : Nat) : Int))] _ [.inRegion (cops (csub (cd Try.f35) [1,1,1,0])) [4,5], .code (csub (cd Try.f35) [1,1,1,1])] [(33, .int .u64 (((Int.toNat (IntKind.wrap .i64 (0 - (n + 113)))) : Nat) : Int))] w (by kernel_rfl) (.cons o32 (.cons o33 .nil)) ?_
        refine GoS.call [] 45 #[.int .u64 (((Int.toNat (IntKind.wrap .i64 (0 - (n + 113)))) : Nat) : Int), .int .i64 255] (some 34) [.inRegion (cops (csub (cd Try.f35) [1,1,1,0])) [5], .code (csub (cd Try.f35) [1,1,1,1])] [] (by kernel_rfl) (places_c 255 (by omega) (Int.toNat (IntKind.wrap .i64 (0 - (n + 113)))) (by omega) w) ?_
        rintro _ w34 ⟨rfl, m35⟩
        refine ⟨_, rfl, ?_⟩
        have hM36 := Mem.join hM0 m35
        have hl37 := digs_flip_len 255 (Int.toNat (IntKind.wrap .i64 (0 - (n + 113))))
        have hs38 := sz_bd (Int.toNat (IntKind.wrap .i64 (0 - (n + 113))))
        have o43 : (Builtin.len_ #[9] 3 #[.string (sb (bytesOf (List.map (flipI 255) (digs (sz (Int.toNat (IntKind.wrap .i64 (0 - (n + 113))))) (Int.toNat (IntKind.wrap .i64 (0 - (n + 113))))))))]).run Try.prog w34 = .ok (.int .i64 (((bytesOf (List.map (flipI 255) (digs (sz (Int.toNat (IntKind.wrap .i64 (0 - (n + 113))))) (Int.toNat (IntKind.wrap .i64 (0 - (n + 113))))))).length : Nat) : Int)) w34 := f_len (by kernel_rfl)
        have o44 : (binOp .sub 3 (.int .i64 16) (.int .i64 (((bytesOf (List.map (flipI 255) (digs (sz (Int.toNat (IntKind.wrap .i64 (0 - (n + 113))))) (Int.toNat (IntKind.wrap .i64 (0 - (n + 113))))))).length : Nat) : Int))).run Try.prog w34 = .ok (.int .i64 (16 - (((bytesOf (List.map (flipI 255) (digs (sz (Int.toNat (IntKind.wrap .i64 (0 - (n + 113))))) (Int.toNat (IntKind.wrap .i64 (0 - (n + 113))))))).length : Nat) : Int))) w34 := f_sub (IntWalk.i64_in _ (by omega))
        have o45 : (convert 3 5 (.int .i64 (16 - (((bytesOf (List.map (flipI 255) (digs (sz (Int.toNat (IntKind.wrap .i64 (0 - (n + 113))))) (Int.toNat (IntKind.wrap .i64 (0 - (n + 113))))))).length : Nat) : Int)))).run Try.prog w34 = .ok (.int .u8 (((Int.toNat (16 - (((bytesOf (List.map (flipI 255) (digs (sz (Int.toNat (IntKind.wrap .i64 (0 - (n + 113))))) (Int.toNat (IntKind.wrap .i64 (0 - (n + 113))))))).length : Nat) : Int))) : Nat) : Int)) w34 := f_conv (u := .int .i64) (by kernel_rfl) (by kernel_rfl) ((IntWalk.u8_in _ (by omega)).trans (by omega))
        obtain ⟨v39, w40, hr41, hM42⟩ := m_lit sT78 hM36 (n := 1) (parts := #[(0, .int .u8 (((Int.toNat (16 - (((bytesOf (List.map (flipI 255) (digs (sz (Int.toNat (IntKind.wrap .i64 (0 - (n + 113))))) (Int.toNat (IntKind.wrap .i64 (0 - (n + 113))))))).length : Nat) : Int))) : Nat) : Int))]) (cs := [.int .u8 (((Int.toNat (16 - (((bytesOf (List.map (flipI 255) (digs (sz (Int.toNat (IntKind.wrap .i64 (0 - (n + 113))))) (Int.toNat (IntKind.wrap .i64 (0 - (n + 113))))))).length : Nat) : Int))) : Nat) : Int)]) (by decide) (by kernel_rfl) rfl
        have o46 : (Instr.buildSlice 78 1 #[(0, .int .u8 (((Int.toNat (16 - (((bytesOf (List.map (flipI 255) (digs (sz (Int.toNat (IntKind.wrap .i64 (0 - (n + 113))))) (Int.toNat (IntKind.wrap .i64 (0 - (n + 113))))))).length : Nat) : Int))) : Nat) : Int))]).run Try.prog w34 = .ok v39 w40 := hr41
        have o47 : (convert 78 9 (v39)).run Try.prog w40 = .ok (.string (sb (bytesOf ([(((Int.toNat (16 - (((bytesOf (List.map (flipI 255) (digs (sz (Int.toNat (IntKind.wrap .i64 (0 - (n + 113))))) (Int.toNat (IntKind.wrap .i64 (0 - (n + 113))))))).length : Nat) : Int))) : Nat) : Int)] : List Int)))) w40 := f_string_i sT78 (by kernel_rfl) (by kernel_rfl) (hM42.rd 0 rfl) (by intro x hx; simp at hx; omega)
        have o48 : (binOp .add 9 (.string (sb (bytesOf ([(((Int.toNat (16 - (((bytesOf (List.map (flipI 255) (digs (sz (Int.toNat (IntKind.wrap .i64 (0 - (n + 113))))) (Int.toNat (IntKind.wrap .i64 (0 - (n + 113))))))).length : Nat) : Int))) : Nat) : Int)] : List Int)))) (.string (sb (bytesOf (List.map (flipI 255) (digs (sz (Int.toNat (IntKind.wrap .i64 (0 - (n + 113))))) (Int.toNat (IntKind.wrap .i64 (0 - (n + 113)))))))))).run Try.prog w40 = .ok (.string (sb ((bytesOf ([(((Int.toNat (16 - (((bytesOf (List.map (flipI 255) (digs (sz (Int.toNat (IntKind.wrap .i64 (0 - (n + 113))))) (Int.toNat (IntKind.wrap .i64 (0 - (n + 113))))))).length : Nat) : Int))) : Nat) : Int)] : List Int)) ++ (bytesOf (List.map (flipI 255) (digs (sz (Int.toNat (IntKind.wrap .i64 (0 - (n + 113))))) (Int.toNat (IntKind.wrap .i64 (0 - (n + 113)))))))))) w40 := f_stradd (by rw [bytesOf_len]; simp only [List.length_cons, List.length_nil]; omega)
        have hM49 : Mem [] w w40 [] := hM42.sub (List.Sublist.cons _ (List.Sublist.refl _))
        refine GoS.run [2] [.n, .n, .n, .n, .n, .h (.int .i64 (((bytesOf (List.map (flipI 255) (digs (sz (Int.toNat (IntKind.wrap .i64 (0 - (n + 113))))) (Int.toNat (IntKind.wrap .i64 (0 - (n + 113))))))).length : Nat) : Int)), .h (.int .i64 (16 - (((bytesOf (List.map (flipI 255) (digs (sz (Int.toNat (IntKind.wrap .i64 (0 - (n + 113))))) (Int.toNat (IntKind.wrap .i64 (0 - (n + 113))))))).length : Nat) : Int))), .h (.int .u8 (((Int.toNat (16 - (((bytesOf (List.map (flipI 255) (digs (sz (Int.toNat (IntKind.wrap .i64 (0 - (n + 113))))) (Int.toNat (IntKind.wrap .i64 (0 - (n + 113))))))).length : Nat) : Int))) : Nat) : Int)), .u (v39) (w40), .h (.string (sb (bytesOf ([(((Int.toNat (16 - (((bytesOf (List.map (flipI 255) (digs (sz (Int.toNat (IntKind.wrap .i64 (0 - (n + 113))))) (Int.toNat (IntKind.wrap .i64 (0 - (n + 113))))))).length : Nat) : Int))) : Nat) : Int)] : List Int)))), .n, .h (.string (sb ((bytesOf ([(((Int.toNat (16 - (((bytesOf (List.map (flipI 255) (digs (sz (Int.toNat (IntKind.wrap .i64 (0 - (n + 113))))) (Int.toNat (IntKind.wrap .i64 (0 - (n + 113))))))).length : Nat) : Int))) : Nat) : Int)] : List Int)) ++ (bytesOf (List.map (flipI 255) (digs (sz (Int.toNat (IntKind.wrap .i64 (0 - (n + 113))))) (Int.toNat (IntKind.wrap .i64 (0 - (n + 113)))))))))), .n, .n] _ [.code (csub (cd Try.f35) [1,1,1,1,1])] [(2, .string (sb ((bytesOf ([(((Int.toNat (16 - (((bytesOf (List.map (flipI 255) (digs (sz (Int.toNat (IntKind.wrap .i64 (0 - (n + 113))))) (Int.toNat (IntKind.wrap .i64 (0 - (n + 113))))))).length : Nat) : Int))) : Nat) : Int)] : List Int)) ++ (bytesOf (List.map (flipI 255) (digs (sz (Int.toNat (IntKind.wrap .i64 (0 - (n + 113))))) (Int.toNat (IntKind.wrap .i64 (0 - (n + 113))))))))))] w40 (by kernel_rfl) (.cons o43 (.cons o44 (.cons o45 (.cons o46 (.cons o47 (.cons o48 .nil)))))) ?_
        refine GoS.ret (fn := Try.f35) (v := (.string (sb ((bytesOf ([(((Int.toNat (16 - (((bytesOf (List.map (flipI 255) (digs (sz (Int.toNat (IntKind.wrap .i64 (0 - (n + 113))))) (Int.toNat (IntKind.wrap .i64 (0 - (n + 113))))))).length : Nat) : Int))) : Nat) : Int)] : List Int)) ++ (bytesOf (List.map (flipI 255) (digs (sz (Int.toNat (IntKind.wrap .i64 (0 - (n + 113))))) (Int.toNat (IntKind.wrap .i64 (0 - (n + 113))))))))))) Try.func35 (by kernel_rfl) ?_
        rw [hR]
        exact ⟨ret_str (num3 (by omega) (by omega) (by omega)), hM49⟩
  ·
    have h1p : ¬ (n ≥ (-112)) := of_decide_eq_false h1
    refine GoS.run [0, 10] [.n, .n, .n] _ [.inRegion (cops (csub (cd Try.f35) [1,0,0])) [], .code (csub (cd Try.f35) [1,0,1]), .code (csub (cd Try.f35) [1,1])] [(0, .int .i64 n), (10, .bool false)] w (by kernel_rfl) .nil ?_
    refine GoS.run [0, 17] [.n, .n, .n, .n, .n, .n, .n, .n, .n] _ [.code (csub (cd Try.f35) [1,1,0,1]), .code (csub (cd Try.f35) [1,1,1])] [(0, .int .i64 n), (17, .bool (decide (n > 0)))] w (by kernel_rfl) .nil ?_
    refine GoS.cond (decide (n > 0)) [.code (csub (cd Try.f35) [1,1,0,1,0]), .code (csub (cd Try.f35) [1,1,1])] [.code (csub (cd Try.f35) [1,1,0,1,1]), .code (csub (cd Try.f35) [1,1,1])] (by kernel_rfl) (fun h50 => ?_) (fun h50 => ?_)
    ·
      have h50p : n > 0 := of_decide_eq_true h50
      have o51 : (binOp .sub 3 (.int .i64 n) (.int .i64 112)).run Try.prog w = .ok (.int .i64 (n - 112)) w := f_sub (IntWalk.i64_in _ (by omega))
      have o52 : (convert 3 81 (.int .i64 (n - 112))).run Try.prog w = .ok (.int .u64 (((Int.toNat (n - 112)) : Nat) : Int)) w := f_conv (u := .int .i64) (by kernel_rfl) (by kernel_rfl) ((IntWalk.u64_in _ (by omega)).trans (by omega))
      refine GoS.run [20] [.n, .n, .n, .h (.int .i64 (n - 112)), .h (.int .u64 (((Int.toNat (n - 112)) : Nat) : Int))] _ [.inRegion (cops (csub (cd Try.f35) [1,1,0,1,0,0])) [3,4], .code (csub (cd Try.f35) [1,1,0,1,0,1]), .code (csub (cd Try.f35) [1,1,1])] [(20, .int .u64 (((Int.toNat (n - 112)) : Nat) : Int))] w (by kernel_rfl) (.cons o51 (.cons o52 .nil)) ?_
      refine GoS.call [] 45 #[.int .u64 (((Int.toNat (n - 112)) : Nat) : Int), .int .i64 0] (some 21) [.inRegion (cops (csub (cd Try.f35) [1,1,0,1,0,0])) [4], .code (csub (cd Try.f35) [1,1,0,1,0,1]), .code (csub (cd Try.f35) [1,1,1])] [] (by kernel_rfl) (places_c 0 (by omega) (Int.toNat (n - 112)) (by omega) w) ?_
      rintro _ w53 ⟨rfl, m54⟩
      refine ⟨_, rfl, ?_⟩
      have hM55 := Mem.join hM0 m54
      have hl56 := digs_flip_len 0 (Int.toNat (n - 112))
      have hs57 := sz_bd (Int.toNat (n - 112))
      have o62 : (Builtin.len_ #[9] 3 #[.string (sb (bytesOf (List.map (flipI 0) (digs (sz (Int.toNat (n - 112))) (Int.toNat (n - 112))))))]).run Try.prog w53 = .ok (.int .i64 (((bytesOf (List.map (flipI 0) (digs (sz (Int.toNat (n - 112))) (Int.toNat (n - 112))))).length : Nat) : Int)) w53 := f_len (by kernel_rfl)
      have o63 : (binOp .add 3 (.int .i64 239) (.int .i64 (((bytesOf (List.map (flipI 0) (digs (sz (Int.toNat (n - 112))) (Int.toNat (n - 112))))).length : Nat) : Int))).run Try.prog w53 = .ok (.int .i64 ((((bytesOf (List.map (flipI 0) (digs (sz (Int.toNat (n - 112))) (Int.toNat (n - 112))))).length + 239) : Nat) : Int)) w53 := f_add (by rw [show 239 + (((bytesOf (List.map (flipI 0) (digs (sz (Int.toNat (n - 112))) (Int.toNat (n - 112))))).length : Nat) : Int) = ((((bytesOf (List.map (flipI 0) (digs (sz (Int.toNat (n - 112))) (Int.toNat (n - 112))))).length + 239) : Nat) : Int) by omega]; exact IntWalk.i64_in _ (by omega))
      have o64 : (convert 3 5 (.int .i64 ((((bytesOf (List.map (flipI 0) (digs (sz (Int.toNat (n - 112))) (Int.toNat (n - 112))))).length + 239) : Nat) : Int))).run Try.prog w53 = .ok (.int .u8 ((((bytesOf (List.map (flipI 0) (digs (sz (Int.toNat (n - 112))) (Int.toNat (n - 112))))).length + 239) : Nat) : Int)) w53 := f_conv (u := .int .i64) (by kernel_rfl) (by kernel_rfl) (IntWalk.u8_in _ (by omega))
      obtain ⟨v58, w59, hr60, hM61⟩ := m_lit sT78 hM55 (n := 1) (parts := #[(0, .int .u8 ((((bytesOf (List.map (flipI 0) (digs (sz (Int.toNat (n - 112))) (Int.toNat (n - 112))))).length + 239) : Nat) : Int))]) (cs := [.int .u8 ((((bytesOf (List.map (flipI 0) (digs (sz (Int.toNat (n - 112))) (Int.toNat (n - 112))))).length + 239) : Nat) : Int)]) (by decide) (by kernel_rfl) rfl
      have o65 : (Instr.buildSlice 78 1 #[(0, .int .u8 ((((bytesOf (List.map (flipI 0) (digs (sz (Int.toNat (n - 112))) (Int.toNat (n - 112))))).length + 239) : Nat) : Int))]).run Try.prog w53 = .ok v58 w59 := hr60
      have o66 : (convert 78 9 (v58)).run Try.prog w59 = .ok (.string (sb (bytesOf ([((((bytesOf (List.map (flipI 0) (digs (sz (Int.toNat (n - 112))) (Int.toNat (n - 112))))).length + 239) : Nat) : Int)] : List Int)))) w59 := f_string_i sT78 (by kernel_rfl) (by kernel_rfl) (hM61.rd 0 rfl) (by intro x hx; simp at hx; omega)
      have o67 : (binOp .add 9 (.string (sb (bytesOf ([((((bytesOf (List.map (flipI 0) (digs (sz (Int.toNat (n - 112))) (Int.toNat (n - 112))))).length + 239) : Nat) : Int)] : List Int)))) (.string (sb (bytesOf (List.map (flipI 0) (digs (sz (Int.toNat (n - 112))) (Int.toNat (n - 112)))))))).run Try.prog w59 = .ok (.string (sb ((bytesOf ([((((bytesOf (List.map (flipI 0) (digs (sz (Int.toNat (n - 112))) (Int.toNat (n - 112))))).length + 239) : Nat) : Int)] : List Int)) ++ (bytesOf (List.map (flipI 0) (digs (sz (Int.toNat (n - 112))) (Int.toNat (n - 112)))))))) w59 := f_stradd (by rw [bytesOf_len]; simp only [List.length_cons, List.length_nil]; omega)
      have hM68 : Mem [] w w59 [] := hM61.sub (List.Sublist.cons _ (List.Sublist.refl _))
      refine GoS.run [2] [.n, .n, .n, .n, .n, .h (.int .i64 (((bytesOf (List.map (flipI 0) (digs (sz (Int.toNat (n - 112))) (Int.toNat (n - 112))))).length : Nat) : Int)), .h (.int .i64 ((((bytesOf (List.map (flipI 0) (digs (sz (Int.toNat (n - 112))) (Int.toNat (n - 112))))).length + 239) : Nat) : Int)), .h (.int .u8 ((((bytesOf (List.map (flipI 0) (digs (sz (Int.toNat (n - 112))) (Int.toNat (n - 112))))).length + 239) : Nat) : Int)), .u (v58) (w59), .h (.string (sb (bytesOf ([((((bytesOf (List.map (flipI 0) (digs (sz (Int.toNat (n - 112))) (Int.toNat (n - 112))))).length + 239) : Nat) : Int)] : List Int)))), .n, .h (.string (sb ((bytesOf ([((((bytesOf (List.map (flipI 0) (digs (sz (Int.toNat (n - 112))) (Int.toNat (n - 112))))).length + 239) : Nat) : Int)] : List Int)) ++ (bytesOf (List.map (flipI 0) (digs (sz (Int.toNat (n - 112))) (Int.toNat (n - 112)))))))), .n, .n] _ [.code (csub (cd Try.f35) [1,1,0,1,0,1,1]), .code (csub (cd Try.f35) [1,1,1])] [(2, .string (sb ((bytesOf ([((((bytesOf (List.map (flipI 0) (digs (sz (Int.toNat (n - 112))) (Int.toNat (n - 112))))).length + 239) : Nat) : Int)] : List Int)) ++ (bytesOf (List.map (flipI 0) (digs (sz (Int.toNat (n - 112))) (Int.toNat (n - 112))))))))] w59 (by kernel_rfl) (.cons o62 (.cons o63 (.cons o64 (.cons o65 (.cons o66 (.cons o67 .nil)))))) ?_
      refine GoS.ret (fn := Try.f35) (v := (.string (sb ((bytesOf ([((((bytesOf (List.map (flipI 0) (digs (sz (Int.toNat (n - 112))) (Int.toNat (n - 112))))).length + 239) : Nat) : Int)] : List Int)) ++ (bytesOf (List.map (flipI 0) (digs (sz (Int.toNat (n - 112))) (Int.toNat (n - 112))))))))) Try.func35 (by kernel_rfl) ?_
      rw [hR]
      exact ⟨ret_str (num2 (by omega) (by omega)), hM68⟩
    ·
      have h50p : ¬ (n > 0) := of_decide_eq_false h50
      refine GoS.run [0] [.n] _ [.code (csub (cd Try.f35) [1,1,1])] [(0, .int .i64 n)] w (by kernel_rfl) .nil ?_
      have o70 : (binOp .add 3 (.int .i64 n) (.int .i64 113)).run Try.prog w = .ok (.int .i64 (n + 113)) w := f_add (IntWalk.i64_in _ (by omega))
      have hng69 := IntWalk.i64_in (0 - (n + 113)) (by omega)
      have o71 : (convert 3 81 (.int .i64 (IntKind.wrap .i64 (0 - (n + 113))))).run Try.prog w = .ok (.int .u64 (((Int.toNat (IntKind.wrap .i64 (0 - (n + 113)))) : Nat) : Int)) w := f_conv (u := .int .i64) (by kernel_rfl) (by kernel_rfl) ((IntWalk.u64_in _ (by omega)).trans (by omega))
      refine GoS.run [33] [.n, .n, .n, .h (.int .i64 (n + 113)), .n, .h (.int .u64 (((Int.toNat (IntKind.wrap .i64 (0 - (n + 113)))) : Nat) : Int))] _ [.inRegion (cops (csub (cd Try.f35) [1,1,1,0])) [4,5], .code (csub (cd Try.f35) [1,1,1,1])] [(33, .int .u64 (((Int.toNat (IntKind.wrap .i64 (0 - (n + 113)))) : Nat) : Int))] w (by kernel_rfl) (.cons o70 (.cons o71 .nil)) ?_
      refine GoS.call [] 45 #[.int .u64 (((Int.toNat (IntKind.wrap .i64 (0 - (n + 113)))) : Nat) : Int), .int .i64 255] (some 34) [.inRegion (cops (csub (cd Try.f35) [1,1,1,0])) [5], .code (csub (cd Try.f35) [1,1,1,1])] [] (by kernel_rfl) (places_c 255 (by omega) (Int.toNat (IntKind.wrap .i64 (0 - (n + 113)))) (by omega) w) ?_
      rintro _ w72 ⟨rfl, m73⟩
      refine ⟨_, rfl, ?_⟩
      have hM74 := Mem.join hM0 m73
      have hl75 := digs_flip_len 255 (Int.toNat (IntKind.wrap .i64 (0 - (n + 113))))
      have hs76 := sz_bd (Int.toNat (IntKind.wrap .i64 (0 - (n + 113))))
      have o81 : (Builtin.len_ #[9] 3 #[.string (sb (bytesOf (List.map (flipI 255) (digs (sz (Int.toNat (IntKind.wrap .i64 (0 - (n + 113))))) (Int.toNat (IntKind.wrap .i64 (0 - (n + 113))))))))]).run Try.prog w72 = .ok (.int .i64 (((bytesOf (List.map (flipI 255) (digs (sz (Int.toNat (IntKind.wrap .i64 (0 - (n + 113))))) (Int.toNat (IntKind.wrap .i64 (0 - (n + 113))))))).length : Nat) : Int)) w72 := f_len (by kernel_rfl)
      have o82 : (binOp .sub 3 (.int .i64 16) (.int .i64 (((bytesOf (List.map (flipI 255) (digs (sz (Int.toNat (IntKind.wrap .i64 (0 - (n + 113))))) (Int.toNat (IntKind.wrap .i64 (0 - (n + 113))))))).length : Nat) : Int))).run Try.prog w72 = .ok (.int .i64 (16 - (((bytesOf (List.map (flipI 255) (digs (sz (Int.toNat (IntKind.wrap .i64 (0 - (n + 113))))) (Int.toNat (IntKind.wrap .i64 (0 - (n + 113))))))).length : Nat) : Int))) w72 := f_sub (IntWalk.i64_in _ (by omega))
      have o83 : (convert 3 5 (.int .i64 (16 - (((bytesOf (List.map (flipI 255) (digs (sz (Int.toNat (IntKind.wrap .i64 (0 - (n + 113))))) (Int.toNat (IntKind.wrap .i64 (0 - (n + 113))))))).length : Nat) : Int)))).run Try.prog w72 = .ok (.int .u8 (((Int.toNat (16 - (((bytesOf (List.map (flipI 255) (digs (sz (Int.toNat (IntKind.wrap .i64 (0 - (n + 113))))) (Int.toNat (IntKind.wrap .i64 (0 - (n + 113))))))).length : Nat) : Int))) : Nat) : Int)) w72 := f_conv (u := .int .i64) (by kernel_rfl) (by kernel_rfl) ((IntWalk.u8_in _ (by omega)).trans (by omega))
      obtain ⟨v77, w78, hr79, hM80⟩ := m_lit sT78 hM74 (n := 1) (parts := #[(0, .int .u8 (((Int.toNat (16 - (((bytesOf (List.map (flipI 255) (digs (sz (Int.toNat (IntKind.wrap .i64 (0 - (n + 113))))) (Int.toNat (IntKind.wrap .i64 (0 - (n + 113))))))).length : Nat) : Int))) : Nat) : Int))]) (cs := [.int .u8 (((Int.toNat (16 - (((bytesOf (List.map (flipI 255) (digs (sz (Int.toNat (IntKind.wrap .i64 (0 - (n + 113))))) (Int.toNat (IntKind.wrap .i64 (0 - (n + 113))))))).length : Nat) : Int))) : Nat) : Int)]) (by decide) (by kernel_rfl) rfl
      have o84 : (Instr.buildSlice 78 1 #[(0, .int .u8 (((Int.toNat (16 - (((bytesOf (List.map (flipI 255) (digs (sz (Int.toNat (IntKind.wrap .i64 (0 - (n + 113))))) (Int.toNat (IntKind.wrap .i64 (0 - (n + 113))))))).length : Nat) : Int))) : Nat) : Int))]).run Try.prog w72 = .ok v77 w78 := hr79
      have o85 : (convert 78 9 (v77)).run Try.prog w78 = .ok (.string (sb (bytesOf ([(((Int.toNat (16 - (((bytesOf (List.map (flipI 255) (digs (sz (Int.toNat (IntKind.wrap .i64 (0 - (n + 113))))) (Int.toNat (IntKind.wrap .i64 (0 - (n + 113))))))).length : Nat) : Int))) : Nat) : Int)] : List Int)))) w78 := f_string_i sT78 (by kernel_rfl) (by kernel_rfl) (hM80.rd 0 rfl) (by intro x hx; simp at hx; omega)
      have o86 : (binOp .add 9 (.string (sb (bytesOf ([(((Int.toNat (16 - (((bytesOf (List.map (flipI 255) (digs (sz (Int.toNat (IntKind.wrap .i64 (0 - (n + 113))))) (Int.toNat (IntKind.wrap .i64 (0 - (n + 113))))))).length : Nat) : Int))) : Nat) : Int)] : List Int)))) (.string (sb (bytesOf (List.map (flipI 255) (digs (sz (Int.toNat (IntKind.wrap .i64 (0 - (n + 113))))) (Int.toNat (IntKind.wrap .i64 (0 - (n + 113)))))))))).run Try.prog w78 = .ok (.string (sb ((bytesOf ([(((Int.toNat (16 - (((bytesOf (List.map (flipI 255) (digs (sz (Int.toNat (IntKind.wrap .i64 (0 - (n + 113))))) (Int.toNat (IntKind.wrap .i64 (0 - (n + 113))))))).length : Nat) : Int))) : Nat) : Int)] : List Int)) ++ (bytesOf (List.map (flipI 255) (digs (sz (Int.toNat (IntKind.wrap .i64 (0 - (n + 113))))) (Int.toNat (IntKind.wrap .i64 (0 - (n + 113)))))))))) w78 := f_stradd (by rw [bytesOf_len]; simp only [List.length_cons, List.length_nil]; omega)
      have hM87 : Mem [] w w78 [] := hM80.sub (List.Sublist.cons _ (List.Sublist.refl _))
      refine GoS.run [2] [.n, .n, .n, .n, .n, .h (.int .i64 (((bytesOf (List.map (flipI 255) (digs (sz (Int.toNat (IntKind.wrap .i64 (0 - (n + 113))))) (Int.toNat (IntKind.wrap .i64 (0 - (n + 113))))))).length : Nat) : Int)), .h (.int .i64 (16 - (((bytesOf (List.map (flipI 255) (digs (sz (Int.toNat (IntKind.wrap .i64 (0 - (n + 113))))) (Int.toNat (IntKind.wrap .i64 (0 - (n + 113))))))).length : Nat) : Int))), .h (.int .u8 (((Int.toNat (16 - (((bytesOf (List.map (flipI 255) (digs (sz (Int.toNat (IntKind.wrap .i64 (0 - (n + 113))))) (Int.toNat (IntKind.wrap .i64 (0 - (n + 113))))))).length : Nat) : Int))) : Nat) : Int)), .u (v77) (w78), .h (.string (sb (bytesOf ([(((Int.toNat (16 - (((bytesOf (List.map (flipI 255) (digs (sz (Int.toNat (IntKind.wrap .i64 (0 - (n + 113))))) (Int.toNat (IntKind.wrap .i64 (0 - (n + 113))))))).length : Nat) : Int))) : Nat) : Int)] : List Int)))), .n, .h (.string (sb ((bytesOf ([(((Int.toNat (16 - (((bytesOf (List.map (flipI 255) (digs (sz (Int.toNat (IntKind.wrap .i64 (0 - (n + 113))))) (Int.toNat (IntKind.wrap .i64 (0 - (n + 113))))))).length : Nat) : Int))) : Nat) : Int)] : List Int)) ++ (bytesOf (List.map (flipI 255) (digs (sz (Int.toNat (IntKind.wrap .i64 (0 - (n + 113))))) (Int.toNat (IntKind.wrap .i64 (0 - (n + 113)))))))))), .n, .n] _ [.code (csub (cd Try.f35) [1,1,1,1,1])] [(2, .string (sb ((bytesOf ([(((Int.toNat (16 - (((bytesOf (List.map (flipI 255) (digs (sz (Int.toNat (IntKind.wrap .i64 (0 - (n + 113))))) (Int.toNat (IntKind.wrap .i64 (0 - (n + 113))))))).length : Nat) : Int))) : Nat) : Int)] : List Int)) ++ (bytesOf (List.map (flipI 255) (digs (sz (Int.toNat (IntKind.wrap .i64 (0 - (n + 113))))) (Int.toNat (IntKind.wrap .i64 (0 - (n + 113))))))))))] w78 (by kernel_rfl) (.cons o81 (.cons o82 (.cons o83 (.cons o84 (.cons o85 (.cons o86 .nil)))))) ?_
      refine GoS.ret (fn := Try.f35) (v := (.string (sb ((bytesOf ([(((Int.toNat (16 - (((bytesOf (List.map (flipI 255) (digs (sz (Int.toNat (IntKind.wrap .i64 (0 - (n + 113))))) (Int.toNat (IntKind.wrap .i64 (0 - (n + 113))))))).length : Nat) : Int))) : Nat) : Int)] : List Int)) ++ (bytesOf (List.map (flipI 255) (digs (sz (Int.toNat (IntKind.wrap .i64 (0 - (n + 113))))) (Int.toNat (IntKind.wrap .i64 (0 - (n + 113))))))))))) Try.func35 (by kernel_rfl) ?_
      rw [hR]
      exact ⟨ret_str (num3 (by omega) (by omega) (by omega)), hM87⟩

set_option maxHeartbeats 400000 in
theorem long_c (b : Int) (hb : 0 ≤ b ∧ b ≤ 255) (w : World) :
    Calls Try.prog 52 #[.int .u8 b] w (fun e w' => e = .returned (.int .i64 (longP b)) ∧ w = w') := by
  obtain ⟨R, hR⟩ : ∃ R : Ending → World → Prop, R = (fun e w' => e = .returned (.int .i64 (longP b)) ∧ w = w') := ⟨_, rfl⟩
  rw [← hR]
  refine GoS.enter (n := 27) Try.func52 (by kernel_rfl) rfl [(0, .int .u8 b)] (by kernel_rfl) (by kernel_rfl) ?_
  refine GoS.run [0, 5] [.n, .n, .n, .n, .n, .n, .n, .n, .n, .n] _ [.inRegion (cops (csub (cd Try.f52) [1,0,0])) [3,4,5], .code (csub (cd Try.f52) [1,0,1]), .code (csub (cd Try.f52) [1,1])] [(0, .int .u8 b), (5, .bool (decide (b ≥ 240)))] w (by kernel_rfl) .nil ?_
  refine GoS.fork 5 (decide (b ≥ 240)) (by kernel_rfl) (fun h1 => ?_) (fun h1 => ?_)
  ·
    have h1p : b ≥ 240 := of_decide_eq_true h1
    refine GoS.run [0, 8] [.n, .n, .n] _ [.inRegion (cops (csub (cd Try.f52) [1,0,0])) [], .code (csub (cd Try.f52) [1,0,1]), .code (csub (cd Try.f52) [1,1])] [(0, .int .u8 b), (8, .bool (decide (b ≤ 247)))] w (by kernel_rfl) .nil ?_
    refine GoS.run [0, 8] [.n] _ [.code (csub (cd Try.f52) [1,0,1]), .code (csub (cd Try.f52) [1,1])] [(0, .int .u8 b), (8, .bool (decide (b ≤ 247)))] w (by kernel_rfl) .nil ?_
    refine GoS.cond (decide (b ≤ 247)) [.code (csub (cd Try.f52) [1,0,1,0]), .code (csub (cd Try.f52) [1,1])] [.code (csub (cd Try.f52) [1,0,1,1]), .code (csub (cd Try.f52) [1,1])] (by kernel_rfl) (fun h2 => ?_) (fun h2 => ?_)
    ·
      have h2p : b ≤ 247 := of_decide_eq_true h2
      have o3 : (convert 5 3 (.int .u8 b)).run Try.prog w = .ok (.int .i64 b) w := f_conv (u := .int .u8) (by kernel_rfl) (by kernel_rfl) (IntWalk.i64_in _ (by omega))
      have o4 : (binOp .sub 3 (.int .i64 b) (.int .i64 239)).run Try.prog w = .ok (.int .i64 (b - 239)) w := f_sub (IntWalk.i64_in _ (by omega))
      refine GoS.run [2] [.n, .n, .n, .h (.int .i64 b), .h (.int .i64 (b - 239)), .n, .n] _ [.code (csub (cd Try.f52) [1,0,1,0,1]), .code (csub (cd Try.f52) [1,1])] [(2, .int .i64 (b - 239))] w (by kernel_rfl) (.cons o3 (.cons o4 .nil)) ?_
      refine GoS.ret (fn := Try.f52) (v := (.int .i64 (b - 239))) Try.func52 (by kernel_rfl) ?_
      rw [hR]
      have h := longP_cases b
      exact ⟨ret_int (by omega), rfl⟩
    ·
      have h2p : ¬ (b ≤ 247) := of_decide_eq_false h2
      refine GoS.run [0] [.n] _ [.code (csub (cd Try.f52) [1,1])] [(0, .int .u8 b)] w (by kernel_rfl) .nil ?_
      refine GoS.run [0, 14] [.n, .n, .n, .n, .n, .n] _ [.inRegion (cops (csub (cd Try.f52) [1,1,0,0])) [3,4,5], .code (csub (cd Try.f52) [1,1,0,1]), .code (csub (cd Try.f52) [1,1,1])] [(0, .int .u8 b), (14, .bool (decide (b ≥ 8)))] w (by kernel_rfl) .nil ?_
      refine GoS.fork 14 (decide (b ≥ 8)) (by kernel_rfl) (fun h5 => ?_) (fun h5 => ?_)
      ·
        have h5p : b ≥ 8 := of_decide_eq_true h5
        refine GoS.run [0, 17] [.n, .n, .n] _ [.inRegion (cops (csub (cd Try.f52) [1,1,0,0])) [], .code (csub (cd Try.f52) [1,1,0,1]), .code (csub (cd Try.f52) [1,1,1])] [(0, .int .u8 b), (17, .bool (decide (b ≤ 15)))] w (by kernel_rfl) .nil ?_
        refine GoS.run [0, 17] [.n] _ [.code (csub (cd Try.f52) [1,1,0,1]), .code (csub (cd Try.f52) [1,1,1])] [(0, .int .u8 b), (17, .bool (decide (b ≤ 15)))] w (by kernel_rfl) .nil ?_
        refine GoS.cond (decide (b ≤ 15)) [.code (csub (cd Try.f52) [1,1,0,1,0]), .code (csub (cd Try.f52) [1,1,1])] [.code (csub (cd Try.f52) [1,1,0,1,1]), .code (csub (cd Try.f52) [1,1,1])] (by kernel_rfl) (fun h6 => ?_) (fun h6 => ?_)
        ·
          have h6p : b ≤ 15 := of_decide_eq_true h6
          have o7 : (convert 5 3 (.int .u8 b)).run Try.prog w = .ok (.int .i64 b) w := f_conv (u := .int .u8) (by kernel_rfl) (by kernel_rfl) (IntWalk.i64_in _ (by omega))
          have o8 : (binOp .sub 3 (.int .i64 16) (.int .i64 b)).run Try.prog w = .ok (.int .i64 (16 - b)) w := f_sub (IntWalk.i64_in _ (by omega))
          refine GoS.run [2] [.n, .n, .n, .h (.int .i64 b), .h (.int .i64 (16 - b)), .n, .n] _ [.code (csub (cd Try.f52) [1,1,0,1,0,1]), .code (csub (cd Try.f52) [1,1,1])] [(2, .int .i64 (16 - b))] w (by kernel_rfl) (.cons o7 (.cons o8 .nil)) ?_
          refine GoS.ret (fn := Try.f52) (v := (.int .i64 (16 - b))) Try.func52 (by kernel_rfl) ?_
          rw [hR]
          have h := longP_cases b
          exact ⟨ret_int (by omega), rfl⟩
        ·
          have h6p : ¬ (b ≤ 15) := of_decide_eq_false h6
          refine GoS.run [0] [.n] _ [.code (csub (cd Try.f52) [1,1,1])] [(0, .int .u8 b)] w (by kernel_rfl) .nil ?_
          refine GoS.run [0, 23] [.n, .n, .n, .n, .n, .n] _ [.inRegion (cops (csub (cd Try.f52) [1,1,1,0,0])) [3,4,5], .code (csub (cd Try.f52) [1,1,1,0,1]), .code (csub (cd Try.f52) [1,1,1,1])] [(0, .int .u8 b), (23, .bool (decide (b ≥ 16)))] w (by kernel_rfl) .nil ?_
          refine GoS.fork 23 (decide (b ≥ 16)) (by kernel_rfl) (fun h9 => ?_) (fun h9 => ?_)
          ·
            have h9p : b ≥ 16 := of_decide_eq_true h9
            refine GoS.run [26] [.n, .n, .n] _ [.inRegion (cops (csub (cd Try.f52) [1,1,1,0,0])) [], .code (csub (cd Try.f52) [1,1,1,0,1]), .code (csub (cd Try.f52) [1,1,1,1])] [(26, .bool (decide (b < 240)))] w (by kernel_rfl) .nil ?_
            refine GoS.run [26] [.n] _ [.code (csub (cd Try.f52) [1,1,1,0,1]), .code (csub (cd Try.f52) [1,1,1,1])] [(26, .bool (decide (b < 240)))] w (by kernel_rfl) .nil ?_
            refine GoS.cond (decide (b < 240)) [.code (csub (cd Try.f52) [1,1,1,0,1,0]), .code (csub (cd Try.f52) [1,1,1,1])] [.code (csub (cd Try.f52) [1,1,1,0,1,1]), .code (csub (cd Try.f52) [1,1,1,1])] (by kernel_rfl) (fun h10 => ?_) (fun h10 => ?_)
            ·
              have hz : b < 240 := of_decide_eq_true h10
              omega
            ·
              have h10p : ¬ (b < 240) := of_decide_eq_false h10
              refine GoS.run [] [.n] _ [.code (csub (cd Try.f52) [1,1,1,1])] [] w (by kernel_rfl) .nil ?_
              refine GoS.run [2] [.n, .n, .n, .n] _ [.code (csub (cd Try.f52) [1,1,1,1,1])] [(2, .int .i64 (-1))] w (by kernel_rfl) .nil ?_
              refine GoS.ret (fn := Try.f52) (v := (.int .i64 (-1))) Try.func52 (by kernel_rfl) ?_
              rw [hR]
              have h := longP_cases b
              exact ⟨ret_int (by omega), rfl⟩
          ·
            have h9p : ¬ (b ≥ 16) := of_decide_eq_false h9
            refine GoS.run [26] [.n, .n, .n] _ [.inRegion (cops (csub (cd Try.f52) [1,1,1,0,0])) [], .code (csub (cd Try.f52) [1,1,1,0,1]), .code (csub (cd Try.f52) [1,1,1,1])] [(26, .bool false)] w (by kernel_rfl) .nil ?_
            refine GoS.run [2] [.n, .n, .n, .n, .n, .n, .n] _ [.code (csub (cd Try.f52) [1,1,1,1,1])] [(2, .int .i64 (-1))] w (by kernel_rfl) .nil ?_
            refine GoS.ret (fn := Try.f52) (v := (.int .i64 (-1))) Try.func52 (by kernel_rfl) ?_
            rw [hR]
            have h := longP_cases b
            exact ⟨ret_int (by omega), rfl⟩
      ·
        have h5p : ¬ (b ≥ 8) := of_decide_eq_false h5
        refine GoS.run [0, 17] [.n, .n, .n] _ [.inRegion (cops (csub (cd Try.f52) [1,1,0,0])) [], .code (csub (cd Try.f52) [1,1,0,1]), .code (csub (cd Try.f52) [1,1,1])] [(0, .int .u8 b), (17, .bool false)] w (by kernel_rfl) .nil ?_
        refine GoS.run [0, 23] [.n, .n, .n, .n, .n, .n, .n, .n, .n] _ [.inRegion (cops (csub (cd Try.f52) [1,1,1,0,0])) [3,4,5], .code (csub (cd Try.f52) [1,1,1,0,1]), .code (csub (cd Try.f52) [1,1,1,1])] [(0, .int .u8 b), (23, .bool (decide (b ≥ 16)))] w (by kernel_rfl) .nil ?_
        refine GoS.fork 23 (decide (b ≥ 16)) (by kernel_rfl) (fun h11 => ?_) (fun h11 => ?_)
        ·
          have h11p : b ≥ 16 := of_decide_eq_true h11
          refine GoS.run [26] [.n, .n, .n] _ [.inRegion (cops (csub (cd Try.f52) [1,1,1,0,0])) [], .code (csub (cd Try.f52) [1,1,1,0,1]), .code (csub (cd Try.f52) [1,1,1,1])] [(26, .bool (decide (b < 240)))] w (by kernel_rfl) .nil ?_
          refine GoS.run [26] [.n] _ [.code (csub (cd Try.f52) [1,1,1,0,1]), .code (csub (cd Try.f52) [1,1,1,1])] [(26, .bool (decide (b < 240)))] w (by kernel_rfl) .nil ?_
          refine GoS.cond (decide (b < 240)) [.code (csub (cd Try.f52) [1,1,1,0,1,0]), .code (csub (cd Try.f52) [1,1,1,1])] [.code (csub (cd Try.f52) [1,1,1,0,1,1]), .code (csub (cd Try.f52) [1,1,1,1])] (by kernel_rfl) (fun h12 => ?_) (fun h12 => ?_)
          ·
            have hz : b < 240 := of_decide_eq_true h12
            omega
          ·
            have h12p : ¬ (b < 240) := of_decide_eq_false h12
            refine GoS.run [] [.n] _ [.code (csub (cd Try.f52) [1,1,1,1])] [] w (by kernel_rfl) .nil ?_
            refine GoS.run [2] [.n, .n, .n, .n] _ [.code (csub (cd Try.f52) [1,1,1,1,1])] [(2, .int .i64 (-1))] w (by kernel_rfl) .nil ?_
            refine GoS.ret (fn := Try.f52) (v := (.int .i64 (-1))) Try.func52 (by kernel_rfl) ?_
            rw [hR]
            have h := longP_cases b
            exact ⟨ret_int (by omega), rfl⟩
        ·
          have h11p : ¬ (b ≥ 16) := of_decide_eq_false h11
          refine GoS.run [26] [.n, .n, .n] _ [.inRegion (cops (csub (cd Try.f52) [1,1,1,0,0])) [], .code (csub (cd Try.f52) [1,1,1,0,1]), .code (csub (cd Try.f52) [1,1,1,1])] [(26, .bool false)] w (by kernel_rfl) .nil ?_
          refine GoS.run [2] [.n, .n, .n, .n, .n, .n, .n] _ [.code (csub (cd Try.f52) [1,1,1,1,1])] [(2, .int .i64 (-1))] w (by kernel_rfl) .nil ?_
          refine GoS.ret (fn := Try.f52) (v := (.int .i64 (-1))) Try.func52 (by kernel_rfl) ?_
          rw [hR]
          have h := longP_cases b
          exact ⟨ret_int (by omega), rfl⟩
  ·
    have h1p : ¬ (b ≥ 240) := of_decide_eq_false h1
    refine GoS.run [0, 8] [.n, .n, .n] _ [.inRegion (cops (csub (cd Try.f52) [1,0,0])) [], .code (csub (cd Try.f52) [1,0,1]), .code (csub (cd Try.f52) [1,1])] [(0, .int .u8 b), (8, .bool false)] w (by kernel_rfl) .nil ?_
    refine GoS.run [0, 14] [.n, .n, .n, .n, .n, .n, .n, .n, .n] _ [.inRegion (cops (csub (cd Try.f52) [1,1,0,0])) [3,4,5], .code (csub (cd Try.f52) [1,1,0,1]), .code (csub (cd Try.f52) [1,1,1])] [(0, .int .u8 b), (14, .bool (decide (b ≥ 8)))] w (by kernel_rfl) .nil ?_
    refine GoS.fork 14 (decide (b ≥ 8)) (by kernel_rfl) (fun h13 => ?_) (fun h13 => ?_)
    ·
      have h13p : b ≥ 8 := of_decide_eq_true h13
      refine GoS.run [0, 17] [.n, .n, .n] _ [.inRegion (cops (csub (cd Try.f52) [1,1,0,0])) [], .code (csub (cd Try.f52) [1,1,0,1]), .code (csub (cd Try.f52) [1,1,1])] [(0, .int .u8 b), (17, .bool (decide (b ≤ 15)))] w (by kernel_rfl) .nil ?_
      refine GoS.run [0, 17] [.n] _ [.code (csub (cd Try.f52) [1,1,0,1]), .code (csub (cd Try.f52) [1,1,1])] [(0, .int .u8 b), (17, .bool (decide (b ≤ 15)))] w (by kernel_rfl) .nil ?_
      refine GoS.cond (decide (b ≤ 15)) [.code (csub (cd Try.f52) [1,1,0,1,0]), .code (csub (cd Try.f52) [1,1,1])] [.code (csub (cd Try.f52) [1,1,0,1,1]), .code (csub (cd Try.f52) [1,1,1])] (by kernel_rfl) (fun h14 => ?_) (fun h14 => ?_)
      ·
        have h14p : b ≤ 15 := of_decide_eq_true h14
        have o15 : (convert 5 3 (.int .u8 b)).run Try.prog w = .ok (.int .i64 b) w := f_conv (u := .int .u8) (by kernel_rfl) (by kernel_rfl) (IntWalk.i64_in _ (by omega))
        have o16 : (binOp .sub 3 (.int .i64 16) (.int .i64 b)).run Try.prog w = .ok (.int .i64 (16 - b)) w := f_sub (IntWalk.i64_in _ (by omega))
        refine GoS.run [2] [.n, .n, .n, .h (.int .i64 b), .h (.int .i64 (16 - b)), .n, .n] _ [.code (csub (cd Try.f52) [1,1,0,1,0,1]), .code (csub (cd Try.f52) [1,1,1])] [(2, .int .i64 (16 - b))] w (by kernel_rfl) (.cons o15 (.cons o16 .nil)) ?_
        refine GoS.ret (fn := Try.f52) (v := (.int .i64 (16 - b))) Try.func52 (by kernel_rfl) ?_
        rw [hR]
        have h := longP_cases b
        exact ⟨ret_int (by omega), rfl⟩
      ·
        have h14p : ¬ (b ≤ 15) := of_decide_eq_false h14
        refine GoS.run [0] [.n] _ [.code (csub (cd Try.f52) [1,1,1])] [(0, .int .u8 b)] w (by kernel_rfl) .nil ?_
        refine GoS.run [0, 23] [.n, .n, .n, .n, .n, .n] _ [.inRegion (cops (csub (cd Try.f52) [1,1,1,0,0])) [3,4,5], .code (csub (cd Try.f52) [1,1,1,0,1]), .code (csub (cd Try.f52) [1,1,1,1])] [(0, .int .u8 b), (23, .bool (decide (b ≥ 16)))] w (by kernel_rfl) .nil ?_
        refine GoS.fork 23 (decide (b ≥ 16)) (by kernel_rfl) (fun h17 => ?_) (fun h17 => ?_)
        ·
          have h17p : b ≥ 16 := of_decide_eq_true h17
          refine GoS.run [26] [.n, .n, .n] _ [.inRegion (cops (csub (cd Try.f52) [1,1,1,0,0])) [], .code (csub (cd Try.f52) [1,1,1,0,1]), .code (csub (cd Try.f52) [1,1,1,1])] [(26, .bool (decide (b < 240)))] w (by kernel_rfl) .nil ?_
          refine GoS.run [26] [.n] _ [.code (csub (cd Try.f52) [1,1,1,0,1]), .code (csub (cd Try.f52) [1,1,1,1])] [(26, .bool (decide (b < 240)))] w (by kernel_rfl) .nil ?_
          refine GoS.cond (decide (b < 240)) [.code (csub (cd Try.f52) [1,1,1,0,1,0]), .code (csub (cd Try.f52) [1,1,1,1])] [.code (csub (cd Try.f52) [1,1,1,0,1,1]), .code (csub (cd Try.f52) [1,1,1,1])] (by kernel_rfl) (fun h18 => ?_) (fun h18 => ?_)
          ·
            have h18p : b < 240 := of_decide_eq_true h18
            refine GoS.run [2] [.n, .n, .n, .n] _ [.code (csub (cd Try.f52) [1,1,1,0,1,0,1]), .code (csub (cd Try.f52) [1,1,1,1])] [(2, .int .i64 0)] w (by kernel_rfl) .nil ?_
            refine GoS.ret (fn := Try.f52) (v := (.int .i64 0)) Try.func52 (by kernel_rfl) ?_
            rw [hR]
            have h := longP_cases b
            exact ⟨ret_int (by omega), rfl⟩
          ·
            have hz : ¬ (b < 240) := of_decide_eq_false h18
            omega
        ·
          have h17p : ¬ (b ≥ 16) := of_decide_eq_false h17
          refine GoS.run [26] [.n, .n, .n] _ [.inRegion (cops (csub (cd Try.f52) [1,1,1,0,0])) [], .code (csub (cd Try.f52) [1,1,1,0,1]), .code (csub (cd Try.f52) [1,1,1,1])] [(26, .bool false)] w (by kernel_rfl) .nil ?_
          refine GoS.run [2] [.n, .n, .n, .n, .n, .n, .n] _ [.code (csub (cd Try.f52) [1,1,1,1,1])] [(2, .int .i64 (-1))] w (by kernel_rfl) .nil ?_
          refine GoS.ret (fn := Try.f52) (v := (.int .i64 (-1))) Try.func52 (by kernel_rfl) ?_
          rw [hR]
          have h := longP_cases b
          exact ⟨ret_int (by omega), rfl⟩
    ·
      have h13p : ¬ (b ≥ 8) := of_decide_eq_false h13
      refine GoS.run [0, 17] [.n, .n, .n] _ [.inRegion (cops (csub (cd Try.f52) [1,1,0,0])) [], .code (csub (cd Try.f52) [1,1,0,1]), .code (csub (cd Try.f52) [1,1,1])] [(0, .int .u8 b), (17, .bool false)] w (by kernel_rfl) .nil ?_
      refine GoS.run [0, 23] [.n, .n, .n, .n, .n, .n, .n, .n, .n] _ [.inRegion (cops (csub (cd Try.f52) [1,1,1,0,0])) [3,4,5], .code (csub (cd Try.f52) [1,1,1,0,1]), .code (csub (cd Try.f52) [1,1,1,1])] [(0, .int .u8 b), (23, .bool (decide (b ≥ 16)))] w (by kernel_rfl) .nil ?_
      refine GoS.fork 23 (decide (b ≥ 16)) (by kernel_rfl) (fun h19 => ?_) (fun h19 => ?_)
      ·
        have h19p : b ≥ 16 := of_decide_eq_true h19
        refine GoS.run [26] [.n, .n, .n] _ [.inRegion (cops (csub (cd Try.f52) [1,1,1,0,0])) [], .code (csub (cd Try.f52) [1,1,1,0,1]), .code (csub (cd Try.f52) [1,1,1,1])] [(26, .bool (decide (b < 240)))] w (by kernel_rfl) .nil ?_
        refine GoS.run [26] [.n] _ [.code (csub (cd Try.f52) [1,1,1,0,1]), .code (csub (cd Try.f52) [1,1,1,1])] [(26, .bool (decide (b < 240)))] w (by kernel_rfl) .nil ?_
        refine GoS.cond (decide (b < 240)) [.code (csub (cd Try.f52) [1,1,1,0,1,0]), .code (csub (cd Try.f52) [1,1,1,1])] [.code (csub (cd Try.f52) [1,1,1,0,1,1]), .code (csub (cd Try.f52) [1,1,1,1])] (by kernel_rfl) (fun h20 => ?_) (fun h20 => ?_)
        ·
          have h20p : b < 240 := of_decide_eq_true h20
          refine GoS.run [2] [.n, .n, .n, .n] _ [.code (csub (cd Try.f52) [1,1,1,0,1,0,1]), .code (csub (cd Try.f52) [1,1,1,1])] [(2, .int .i64 0)] w (by kernel_rfl) .nil ?_
          refine GoS.ret (fn := Try.f52) (v := (.int .i64 0)) Try.func52 (by kernel_rfl) ?_
          rw [hR]
          have h := longP_cases b
          exact ⟨ret_int (by omega), rfl⟩
        ·
          have hz : ¬ (b < 240) := of_decide_eq_false h20
          omega
      ·
        have h19p : ¬ (b ≥ 16) := of_decide_eq_false h19
        refine GoS.run [26] [.n, .n, .n] _ [.inRegion (cops (csub (cd Try.f52) [1,1,1,0,0])) [], .code (csub (cd Try.f52) [1,1,1,0,1]), .code (csub (cd Try.f52) [1,1,1,1])] [(26, .bool false)] w (by kernel_rfl) .nil ?_
        refine GoS.run [2] [.n, .n, .n, .n, .n, .n, .n] _ [.code (csub (cd Try.f52) [1,1,1,1,1])] [(2, .int .i64 (-1))] w (by kernel_rfl) .nil ?_
        refine GoS.ret (fn := Try.f52) (v := (.int .i64 (-1))) Try.func52 (by kernel_rfl) ?_
        rw [hR]
        have h := longP_cases b
        exact ⟨ret_int (by omega), rfl⟩


end Go.Proofs.Ythimiheeheaaaaa
