/-
  The walk of Parse, of the program.
-/
import Derived.Test.YthioghimgiknkaaRealR
import Derived.Test.YthioghimgiknkaaRealA
namespace Go.Proofs.Ythioghimgiknkaa
open Go Go.Gw Go.RealP Go.RealQ Go.RowKit
set_option linter.unusedVariables false
set_option linter.unusedSimpArgs false


set_option maxHeartbeats 400000 in
theorem csign_c (n : Nat) (hn : n < 9223372036854775808) (w : World) :
    Calls Try.prog 25 #[.float .f64 n, .float .f64 13830554455654793216] w (fun e w' => e = .returned (.float .f64 (n + 9223372036854775808)) ∧ w = w') := by
  obtain ⟨R, hR⟩ : ∃ R : Ending → World → Prop, R = (fun e w' => e = .returned (.float .f64 (n + 9223372036854775808)) ∧ w = w') := ⟨_, rfl⟩
  rw [← hR]
  refine GoS.enter (n := 13) Try.func25 (by kernel_rfl) rfl [(0, .float .f64 n), (1, .float .f64 13830554455654793216)] (by kernel_rfl) (by kernel_rfl) ?_
  refine GoS.run [4] [.n, .n, .n, .n, .n, .n, .n, .n, .n, .n, .n, .n, .n, .n, .n, .n] _ [.code (csub (cd Try.f25) [1,1])] [(4, .float .f64 (Int.toNat (IntKind.wrap .u64 ((BitVec.ofInt (IntKind.bits .u64) (IntKind.wrap .u64 ((BitVec.ofInt (IntKind.bits .u64) ((n : Nat) : Int) &&& ~~~BitVec.ofInt (IntKind.bits .u64) 9223372036854775808).toNat : Int)) ||| BitVec.ofInt (IntKind.bits .u64) (IntKind.wrap .u64 ((BitVec.ofInt (IntKind.bits .u64) 13830554455654793216 &&& BitVec.ofInt (IntKind.bits .u64) 9223372036854775808).toNat : Int))).toNat : Int))))] w (by kernel_rfl) .nil ?_
  refine GoS.ret (fn := Try.f25) (v := (.float .f64 (Int.toNat (IntKind.wrap .u64 ((BitVec.ofInt (IntKind.bits .u64) (IntKind.wrap .u64 ((BitVec.ofInt (IntKind.bits .u64) ((n : Nat) : Int) &&& ~~~BitVec.ofInt (IntKind.bits .u64) 9223372036854775808).toNat : Int)) ||| BitVec.ofInt (IntKind.bits .u64) (IntKind.wrap .u64 ((BitVec.ofInt (IntKind.bits .u64) 13830554455654793216 &&& BitVec.ofInt (IntKind.bits .u64) 9223372036854775808).toNat : Int))).toNat : Int))))) Try.func25 (by kernel_rfl) ?_
  rw [hR]
  exact ⟨by rw [csign_eq hn], rfl⟩

set_option maxHeartbeats 400000 in
theorem pinf_c (w : World) :
    Calls Try.prog 24 #[.int .i64 1] w (fun e w' => e = .returned (.float .f64 9218868437227405312) ∧ w = w') := by
  obtain ⟨R, hR⟩ : ∃ R : Ending → World → Prop, R = (fun e w' => e = .returned (.float .f64 9218868437227405312) ∧ w = w') := ⟨_, rfl⟩
  rw [← hR]
  refine GoS.enter (n := 8) Try.func24 (by kernel_rfl) rfl [(0, .int .i64 1)] (by kernel_rfl) (by kernel_rfl) ?_
  refine GoS.run [2] [.n, .n, .n, .n, .n, .n, .n, .n, .n, .n, .n, .n, .n, .n, .n, .n, .n, .n, .n, .n, .n, .n, .n, .n] _ [.code (csub (cd Try.f24) [1,1,1,1])] [(2, .float .f64 9218868437227405312)] w (by kernel_rfl) .nil ?_
  refine GoS.ret (fn := Try.f24) (v := (.float .f64 9218868437227405312)) Try.func24 (by kernel_rfl) ?_
  rw [hR]
  exact ⟨rfl, rfl⟩

set_option maxHeartbeats 400000 in
theorem ninf_c (w : World) :
    Calls Try.prog 24 #[.int .i64 (-1)] w (fun e w' => e = .returned (.float .f64 18442240474082181120) ∧ w = w') := by
  obtain ⟨R, hR⟩ : ∃ R : Ending → World → Prop, R = (fun e w' => e = .returned (.float .f64 18442240474082181120) ∧ w = w') := ⟨_, rfl⟩
  rw [← hR]
  refine GoS.enter (n := 8) Try.func24 (by kernel_rfl) rfl [(0, .int .i64 (-1))] (by kernel_rfl) (by kernel_rfl) ?_
  refine GoS.run [2] [.n, .n, .n, .n, .n, .n, .n, .n, .n, .n, .n, .n, .n, .n, .n, .n, .n, .n, .n, .n, .n, .n, .n, .n] _ [.code (csub (cd Try.f24) [1,1,1,1])] [(2, .float .f64 18442240474082181120)] w (by kernel_rfl) .nil ?_
  refine GoS.ret (fn := Try.f24) (v := (.float .f64 18442240474082181120)) Try.func24 (by kernel_rfl) ?_
  rw [hR]
  exact ⟨rfl, rfl⟩

set_option maxHeartbeats 400000 in
theorem parse_Mn (s : List UInt8) (hs : s.length ≤ 9223372036854775807) (w : World) (X : Option (Nat × Nat)) (R : Ending → World → Prop) (hR : R = (fun e w' => e = .returned (.tuple #[.int .u64 ((valP X true : Nat) : Int), .int .i64 (errP X)]) ∧ w = w')) : ∀ (N : Nat) (n d k : Nat) (hF : scan true n d (s.drop k) = X) (hk : k ≤ s.length) (hd : d ≤ 3) (hn : n < 10 ^ (12 + d)) (hN : s.length - k < N), GoS Try.prog 14 R 97 [.code (csub (cd Try.f14) [1,1,1,1,1,0,1,0,0]), .inLoop (csub (cd Try.f14) [1,1,1,1,1,0,1,0,0]), .inBlock 1, .code (csub (cd Try.f14) [1,1,1,1,1,1])] [(0, .string (sb s)), (4, .bool true), (5, .int .i64 ((n : Nat) : Int)), (6, .int .i64 ((d : Nat) : Int)), (7, .float .f64 (near (10 ^ d))), (8, .bool true), (34, .int .i64 ((s.length : Nat) : Int)), (35, .int .i64 ((k : Nat) : Int))] w := by
  intro N
  induction N with
  | zero => intro n d k hF hk hd hn hN; exact absurd hN (Nat.not_lt_zero _)
  | succ N ih =>
    intro n d k hF hk hd hn hN
    have hb := bl_bd s k
    have hn2 : n < 10 ^ 15 := dec_bd hn (by omega)
    have e15 : (10 : Nat) ^ 15 = 1000000000000000 := by decide
    have hsb := sc_bd hd
    have hrl := ratN_lt (a := n) (b := 10 ^ d) (by omega) hsb.1 hsb.2
    refine GoS.run [0, 4, 5, 6, 7, 8, 34, 35, 36] [.n, .n, .n, .n, .n] _ [.code (csub (cd Try.f14) [1,1,1,1,1,0,1,0,0,1,0]), .code (csub (cd Try.f14) [1,1,1,1,1,0,1,0,0,1,1]), .inLoop (csub (cd Try.f14) [1,1,1,1,1,0,1,0,0]), .inBlock 1, .code (csub (cd Try.f14) [1,1,1,1,1,1])] [(0, .string (sb s)), (4, .bool true), (5, .int .i64 ((n : Nat) : Int)), (6, .int .i64 ((d : Nat) : Int)), (7, .float .f64 (near (10 ^ d))), (8, .bool true), (34, .int .i64 ((s.length : Nat) : Int)), (35, .int .i64 ((k : Nat) : Int)), (36, .bool (decide (((k : Nat) : Int) < ((s.length : Nat) : Int))))] w (by kernel_rfl) .nil ?_
    refine GoS.cond (decide (((k : Nat) : Int) < ((s.length : Nat) : Int))) [.code (csub (cd Try.f14) [1,1,1,1,1,0,1,0,0,1,0,0]), .code (csub (cd Try.f14) [1,1,1,1,1,0,1,0,0,1,1]), .inLoop (csub (cd Try.f14) [1,1,1,1,1,0,1,0,0]), .inBlock 1, .code (csub (cd Try.f14) [1,1,1,1,1,1])] [.code (csub (cd Try.f14) [1,1,1,1,1,0,1,0,0,1,0,1]), .code (csub (cd Try.f14) [1,1,1,1,1,0,1,0,0,1,1]), .inLoop (csub (cd Try.f14) [1,1,1,1,1,0,1,0,0]), .inBlock 1, .code (csub (cd Try.f14) [1,1,1,1,1,1])] (by kernel_rfl) (fun h1 => ?_) (fun h1 => ?_)
    ·
      have h1p : ((k : Nat) : Int) < ((s.length : Nat) : Int) := of_decide_eq_true h1
      refine GoS.run [0, 4, 5, 6, 7, 8, 34, 35] [.n] _ [.code (csub (cd Try.f14) [1,1,1,1,1,0,1,0,0,1,1]), .inLoop (csub (cd Try.f14) [1,1,1,1,1,0,1,0,0]), .inBlock 1, .code (csub (cd Try.f14) [1,1,1,1,1,1])] [(0, .string (sb s)), (4, .bool true), (5, .int .i64 ((n : Nat) : Int)), (6, .int .i64 ((d : Nat) : Int)), (7, .float .f64 (near (10 ^ d))), (8, .bool true), (34, .int .i64 ((s.length : Nat) : Int)), (35, .int .i64 ((k : Nat) : Int))] w (by kernel_rfl) .nil ?_
      have hb4 := bl_bd s k
      have o5 : (Instr.index 9 (.string (sb s)) (.int .i64 ((k : Nat) : Int))).run Try.prog w = .ok (.int .u8 (bl s k)) w := f_index k (by kernel_rfl) (by omega) (by omega)
      refine GoS.run [0, 4, 5, 6, 7, 8, 10, 34, 35, 44] [.n, .n, .n, .n, .n, .n, .n, .n, .n, .n, .n, .h (.int .u8 (bl s k)), .n, .n, .n, .n, .n, .n, .n, .n] _ [.inRegion (cops (csub (cd Try.f14) [1,1,1,1,1,0,1,0,0,1,1,0,0,1,1,0,0])) [3,4,5,6,7,8,9,10], .code (csub (cd Try.f14) [1,1,1,1,1,0,1,0,0,1,1,0,0,1,1,0,1]), .inBlock 3, .inBlock 2, .code (csub (cd Try.f14) [1,1,1,1,1,0,1,0,0,1,1,1]), .inLoop (csub (cd Try.f14) [1,1,1,1,1,0,1,0,0]), .inBlock 1, .code (csub (cd Try.f14) [1,1,1,1,1,1])] [(0, .string (sb s)), (4, .bool true), (5, .int .i64 ((n : Nat) : Int)), (6, .int .i64 ((d : Nat) : Int)), (7, .float .f64 (near (10 ^ d))), (8, .bool true), (10, .int .u8 (bl s k)), (34, .int .i64 ((s.length : Nat) : Int)), (35, .int .i64 ((k : Nat) : Int)), (44, .bool ((bl s k) == 46))] w (by kernel_rfl) (.cons o5 .nil) ?_
      refine GoS.fork 44 ((bl s k) == 46) (by kernel_rfl) (fun h6 => ?_) (fun h6 => ?_)
      ·
        have h6p : (bl s k) = 46 := eq_of_beq h6
        refine GoS.run [0, 4, 5, 6, 7, 8, 10, 34, 35, 41] [.n, .n, .n, .n, .n, .n, .n, .n] _ [.inRegion (cops (csub (cd Try.f14) [1,1,1,1,1,0,1,0,0,1,1,0,0,1,1,0,0])) [], .code (csub (cd Try.f14) [1,1,1,1,1,0,1,0,0,1,1,0,0,1,1,0,1]), .inBlock 3, .inBlock 2, .code (csub (cd Try.f14) [1,1,1,1,1,0,1,0,0,1,1,1]), .inLoop (csub (cd Try.f14) [1,1,1,1,1,0,1,0,0]), .inBlock 1, .code (csub (cd Try.f14) [1,1,1,1,1,1])] [(0, .string (sb s)), (4, .bool true), (5, .int .i64 ((n : Nat) : Int)), (6, .int .i64 ((d : Nat) : Int)), (7, .float .f64 (near (10 ^ d))), (8, .bool true), (10, .int .u8 (bl s k)), (34, .int .i64 ((s.length : Nat) : Int)), (35, .int .i64 ((k : Nat) : Int)), (41, .bool false)] w (by kernel_rfl) .nil ?_
        refine GoS.run [0, 4, 5, 6, 7, 8, 10, 34, 35, 55] [.n, .n, .n, .n, .n, .n, .n] _ [.inRegion (cops (csub (cd Try.f14) [1,1,1,1,1,0,1,0,0,1,1,0,0,1,1,0,1,1,0])) [3,4,5,6,7,8,9,10,11,12,13,14,15,16,17,18,19,20,21], .code (csub (cd Try.f14) [1,1,1,1,1,0,1,0,0,1,1,0,0,1,1,0,1,1,1]), .inBlock 3, .inBlock 2, .code (csub (cd Try.f14) [1,1,1,1,1,0,1,0,0,1,1,1]), .inLoop (csub (cd Try.f14) [1,1,1,1,1,0,1,0,0]), .inBlock 1, .code (csub (cd Try.f14) [1,1,1,1,1,1])] [(0, .string (sb s)), (4, .bool true), (5, .int .i64 ((n : Nat) : Int)), (6, .int .i64 ((d : Nat) : Int)), (7, .float .f64 (near (10 ^ d))), (8, .bool true), (10, .int .u8 (bl s k)), (34, .int .i64 ((s.length : Nat) : Int)), (35, .int .i64 ((k : Nat) : Int)), (55, .bool (decide ((bl s k) ≥ 48)))] w (by kernel_rfl) .nil ?_
        refine GoS.fork 55 (decide ((bl s k) ≥ 48)) (by kernel_rfl) (fun h7 => ?_) (fun h7 => ?_)
        ·
          have h7p : (bl s k) ≥ 48 := of_decide_eq_true h7
          refine GoS.run [0, 4, 5, 6, 7, 8, 10, 34, 35, 59] [.n, .n, .n, .n] _ [.inRegion (cops (csub (cd Try.f14) [1,1,1,1,1,0,1,0,0,1,1,0,0,1,1,0,1,1,0])) [7,8,9,10,11,12,13,14,15,16,17,18,19,20,21], .code (csub (cd Try.f14) [1,1,1,1,1,0,1,0,0,1,1,0,0,1,1,0,1,1,1]), .inBlock 3, .inBlock 2, .code (csub (cd Try.f14) [1,1,1,1,1,0,1,0,0,1,1,1]), .inLoop (csub (cd Try.f14) [1,1,1,1,1,0,1,0,0]), .inBlock 1, .code (csub (cd Try.f14) [1,1,1,1,1,1])] [(0, .string (sb s)), (4, .bool true), (5, .int .i64 ((n : Nat) : Int)), (6, .int .i64 ((d : Nat) : Int)), (7, .float .f64 (near (10 ^ d))), (8, .bool true), (10, .int .u8 (bl s k)), (34, .int .i64 ((s.length : Nat) : Int)), (35, .int .i64 ((k : Nat) : Int)), (59, .bool (decide ((bl s k) ≤ 57)))] w (by kernel_rfl) .nil ?_
          refine GoS.fork 59 (decide ((bl s k) ≤ 57)) (by kernel_rfl) (fun h8 => ?_) (fun h8 => ?_)
          ·
            have h8p : (bl s k) ≤ 57 := of_decide_eq_true h8
            refine GoS.run [0, 4, 5, 6, 7, 8, 10, 34, 35, 59, 65] [.n, .n, .n, .n, .n, .n] _ [.inRegion (cops (csub (cd Try.f14) [1,1,1,1,1,0,1,0,0,1,1,0,0,1,1,0,1,1,0])) [13,14,15,16,17,18,19,20,21], .code (csub (cd Try.f14) [1,1,1,1,1,0,1,0,0,1,1,0,0,1,1,0,1,1,1]), .inBlock 3, .inBlock 2, .code (csub (cd Try.f14) [1,1,1,1,1,0,1,0,0,1,1,1]), .inLoop (csub (cd Try.f14) [1,1,1,1,1,0,1,0,0]), .inBlock 1, .code (csub (cd Try.f14) [1,1,1,1,1,1])] [(0, .string (sb s)), (4, .bool true), (5, .int .i64 ((n : Nat) : Int)), (6, .int .i64 ((d : Nat) : Int)), (7, .float .f64 (near (10 ^ d))), (8, .bool true), (10, .int .u8 (bl s k)), (34, .int .i64 ((s.length : Nat) : Int)), (35, .int .i64 ((k : Nat) : Int)), (59, .bool true), (65, .bool (decide (((d : Nat) : Int) < 3)))] w (by kernel_rfl) .nil ?_
            refine GoS.fork 65 (decide (((d : Nat) : Int) < 3)) (by kernel_rfl) (fun h9 => ?_) (fun h9 => ?_)
            ·
              have h9p : ((d : Nat) : Int) < 3 := of_decide_eq_true h9
              refine GoS.run [0, 4, 5, 6, 7, 8, 10, 34, 35, 52] [.n, .n, .n, .n, .n, .n, .n, .n, .n] _ [.inRegion (cops (csub (cd Try.f14) [1,1,1,1,1,0,1,0,0,1,1,0,0,1,1,0,1,1,0])) [], .code (csub (cd Try.f14) [1,1,1,1,1,0,1,0,0,1,1,0,0,1,1,0,1,1,1]), .inBlock 3, .inBlock 2, .code (csub (cd Try.f14) [1,1,1,1,1,0,1,0,0,1,1,1]), .inLoop (csub (cd Try.f14) [1,1,1,1,1,0,1,0,0]), .inBlock 1, .code (csub (cd Try.f14) [1,1,1,1,1,1])] [(0, .string (sb s)), (4, .bool true), (5, .int .i64 ((n : Nat) : Int)), (6, .int .i64 ((d : Nat) : Int)), (7, .float .f64 (near (10 ^ d))), (8, .bool true), (10, .int .u8 (bl s k)), (34, .int .i64 ((s.length : Nat) : Int)), (35, .int .i64 ((k : Nat) : Int)), (52, .bool true)] w (by kernel_rfl) .nil ?_
              have o10 : (binOp .mul 3 (.int .i64 10) (.int .i64 ((n : Nat) : Int))).run Try.prog w = .ok (.int .i64 (((10 * n) : Nat) : Int)) w := f_mul (by rw [show 10 * ((n : Nat) : Int) = (((10 * n) : Nat) : Int) by omega]; exact IntWalk.i64_in _ (by omega))
              have o11 : (binOp .sub 5 (.int .u8 (bl s k)) (.int .u8 48)).run Try.prog w = .ok (.int .u8 ((bl s k) - 48)) w := f_sub (IntWalk.u8_in _ (by omega))
              have o12 : (convert 5 3 (.int .u8 ((bl s k) - 48))).run Try.prog w = .ok (.int .i64 ((bl s k) - 48)) w := f_conv (u := .int .u8) (by kernel_rfl) (by kernel_rfl) (IntWalk.i64_in _ (by omega))
              have o13 : (binOp .add 3 (.int .i64 (((10 * n) : Nat) : Int)) (.int .i64 ((bl s k) - 48))).run Try.prog w = .ok (.int .i64 ((((10 * n) : Nat) : Int) + ((bl s k) - 48))) w := f_add (IntWalk.i64_in _ (by omega))
              have o14 : (binOp .add 3 (.int .i64 ((d : Nat) : Int)) (.int .i64 1)).run Try.prog w = .ok (.int .i64 (((d + 1) : Nat) : Int)) w := f_add (by rw [show ((d : Nat) : Int) + 1 = (((d + 1) : Nat) : Int) by omega]; exact IntWalk.i64_in _ (by omega))
              have o15 : (binOp .mul 33 (.float .f64 (near (10 ^ d))) (.float .f64 4621819117588971520)).run Try.prog w = .ok (.float .f64 (near (10 ^ (d + 1)))) w := f_fmul (sc_up ⟨d, by omega⟩)
              have o16 : (binOp .add 3 (.int .i64 ((k : Nat) : Int)) (.int .i64 1)).run Try.prog w = .ok (.int .i64 (((k + 1) : Nat) : Int)) w := f_add (by rw [show ((k : Nat) : Int) + 1 = (((k + 1) : Nat) : Int) by omega]; exact IntWalk.i64_in _ (by omega))
              refine GoS.run [0, 4, 5, 6, 7, 8, 34, 35] [.n, .n, .n, .n, .n, .h (.int .i64 (((10 * n) : Nat) : Int)), .n, .h (.int .u8 ((bl s k) - 48)), .h (.int .i64 ((bl s k) - 48)), .h (.int .i64 ((((10 * n) : Nat) : Int) + ((bl s k) - 48))), .n, .n, .n, .n, .n, .h (.int .i64 (((d + 1) : Nat) : Int)), .n, .n, .n, .n, .n, .n, .n, .n, .n, .h (.float .f64 (near (10 ^ (d + 1)))), .n, .n, .n, .n, .n, .h (.int .i64 (((k + 1) : Nat) : Int)), .n, .n, .n] _ [.code (csub (cd Try.f14) [1,1,1,1,1,0,1,0,0]), .inLoop (csub (cd Try.f14) [1,1,1,1,1,0,1,0,0]), .inBlock 1, .code (csub (cd Try.f14) [1,1,1,1,1,1])] [(0, .string (sb s)), (4, .bool true), (5, .int .i64 ((((10 * n) : Nat) : Int) + ((bl s k) - 48))), (6, .int .i64 (((d + 1) : Nat) : Int)), (7, .float .f64 (near (10 ^ (d + 1)))), (8, .bool true), (34, .int .i64 ((s.length : Nat) : Int)), (35, .int .i64 (((k + 1) : Nat) : Int))] w (by kernel_rfl) (.cons o10 (.cons o11 (.cons o12 (.cons o13 (.cons o14 (.cons o15 (.cons o16 .nil))))))) ?_
              exact GoS.cast (by rw [show ((((10 * n) : Nat) : Int) + ((bl s k) - 48)) = ((10 * n + ((bl s k).toNat - 48) : Nat) : Int) by omega]; first | done | rfl) (ih (10 * n + ((bl s k).toNat - 48)) (d + 1) (k + 1) ((scan_digit (n := n) (d := d) (k := k) (by omega) (by omega) (by omega) (by unfold most; simp only [cond_true, cond_false]; omega)).symm.trans hF) (by omega) (by omega) (by rw [show 12 + (d + 1) = (12 + d) + 1 by omega]; exact dec_up hn (by omega)) (by omega))
            ·
              have h9p : ¬ (((d : Nat) : Int) < 3) := of_decide_eq_false h9
              refine GoS.run [0, 4, 5, 6, 7, 8, 10, 34, 35, 52] [.n, .n, .n, .n, .n, .n, .n, .n, .n] _ [.inRegion (cops (csub (cd Try.f14) [1,1,1,1,1,0,1,0,0,1,1,0,0,1,1,0,1,1,0])) [], .code (csub (cd Try.f14) [1,1,1,1,1,0,1,0,0,1,1,0,0,1,1,0,1,1,1]), .inBlock 3, .inBlock 2, .code (csub (cd Try.f14) [1,1,1,1,1,0,1,0,0,1,1,1]), .inLoop (csub (cd Try.f14) [1,1,1,1,1,0,1,0,0]), .inBlock 1, .code (csub (cd Try.f14) [1,1,1,1,1,1])] [(0, .string (sb s)), (4, .bool true), (5, .int .i64 ((n : Nat) : Int)), (6, .int .i64 ((d : Nat) : Int)), (7, .float .f64 (near (10 ^ d))), (8, .bool true), (10, .int .u8 (bl s k)), (34, .int .i64 ((s.length : Nat) : Int)), (35, .int .i64 ((k : Nat) : Int)), (52, .bool false)] w (by kernel_rfl) .nil ?_
              refine GoS.run [2, 3] [.n, .n, .n, .n, .n, .n, .n] _ [.code (csub (cd Try.f14) [1,1,1,1,1,0,1,0,0,1,1,0,0,1,1,0,1,1,1,1,1]), .inBlock 3, .inBlock 2, .code (csub (cd Try.f14) [1,1,1,1,1,0,1,0,0,1,1,1]), .inLoop (csub (cd Try.f14) [1,1,1,1,1,0,1,0,0]), .inBlock 1, .code (csub (cd Try.f14) [1,1,1,1,1,1])] [(2, .int .u64 0), (3, .int .i64 3)] w (by kernel_rfl) .nil ?_
              refine GoS.ret (fn := Try.f14) (v := (.tuple #[.int .u64 0, .int .i64 3])) Try.func14 (by kernel_rfl) ?_
              rw [hR]
              rw [scan_none (by omega) (by intro z; simp at z) (by unfold most; simp only [cond_true, cond_false]; omega)] at hF
              subst hF
              exact ⟨rfl, rfl⟩
          ·
            have h8p : ¬ ((bl s k) ≤ 57) := of_decide_eq_false h8
            refine GoS.run [0, 4, 5, 6, 7, 8, 10, 34, 35, 52] [.n, .n, .n, .n, .n, .n, .n, .n, .n, .n, .n, .n, .n, .n, .n] _ [.inRegion (cops (csub (cd Try.f14) [1,1,1,1,1,0,1,0,0,1,1,0,0,1,1,0,1,1,0])) [], .code (csub (cd Try.f14) [1,1,1,1,1,0,1,0,0,1,1,0,0,1,1,0,1,1,1]), .inBlock 3, .inBlock 2, .code (csub (cd Try.f14) [1,1,1,1,1,0,1,0,0,1,1,1]), .inLoop (csub (cd Try.f14) [1,1,1,1,1,0,1,0,0]), .inBlock 1, .code (csub (cd Try.f14) [1,1,1,1,1,1])] [(0, .string (sb s)), (4, .bool true), (5, .int .i64 ((n : Nat) : Int)), (6, .int .i64 ((d : Nat) : Int)), (7, .float .f64 (near (10 ^ d))), (8, .bool true), (10, .int .u8 (bl s k)), (34, .int .i64 ((s.length : Nat) : Int)), (35, .int .i64 ((k : Nat) : Int)), (52, .bool false)] w (by kernel_rfl) .nil ?_
            refine GoS.run [2, 3] [.n, .n, .n, .n, .n, .n, .n] _ [.code (csub (cd Try.f14) [1,1,1,1,1,0,1,0,0,1,1,0,0,1,1,0,1,1,1,1,1]), .inBlock 3, .inBlock 2, .code (csub (cd Try.f14) [1,1,1,1,1,0,1,0,0,1,1,1]), .inLoop (csub (cd Try.f14) [1,1,1,1,1,0,1,0,0]), .inBlock 1, .code (csub (cd Try.f14) [1,1,1,1,1,1])] [(2, .int .u64 0), (3, .int .i64 3)] w (by kernel_rfl) .nil ?_
            refine GoS.ret (fn := Try.f14) (v := (.tuple #[.int .u64 0, .int .i64 3])) Try.func14 (by kernel_rfl) ?_
            rw [hR]
            rw [scan_none (by omega) (by intro z; simp at z) (by unfold most; simp only [cond_true, cond_false]; omega)] at hF
            subst hF
            exact ⟨rfl, rfl⟩
        ·
          have h7p : ¬ ((bl s k) ≥ 48) := of_decide_eq_false h7
          refine GoS.run [0, 4, 5, 6, 7, 8, 10, 34, 35, 52] [.n, .n, .n, .n, .n, .n, .n, .n, .n, .n, .n, .n, .n, .n, .n, .n, .n, .n, .n] _ [.inRegion (cops (csub (cd Try.f14) [1,1,1,1,1,0,1,0,0,1,1,0,0,1,1,0,1,1,0])) [], .code (csub (cd Try.f14) [1,1,1,1,1,0,1,0,0,1,1,0,0,1,1,0,1,1,1]), .inBlock 3, .inBlock 2, .code (csub (cd Try.f14) [1,1,1,1,1,0,1,0,0,1,1,1]), .inLoop (csub (cd Try.f14) [1,1,1,1,1,0,1,0,0]), .inBlock 1, .code (csub (cd Try.f14) [1,1,1,1,1,1])] [(0, .string (sb s)), (4, .bool true), (5, .int .i64 ((n : Nat) : Int)), (6, .int .i64 ((d : Nat) : Int)), (7, .float .f64 (near (10 ^ d))), (8, .bool true), (10, .int .u8 (bl s k)), (34, .int .i64 ((s.length : Nat) : Int)), (35, .int .i64 ((k : Nat) : Int)), (52, .bool false)] w (by kernel_rfl) .nil ?_
          refine GoS.run [2, 3] [.n, .n, .n, .n, .n, .n, .n] _ [.code (csub (cd Try.f14) [1,1,1,1,1,0,1,0,0,1,1,0,0,1,1,0,1,1,1,1,1]), .inBlock 3, .inBlock 2, .code (csub (cd Try.f14) [1,1,1,1,1,0,1,0,0,1,1,1]), .inLoop (csub (cd Try.f14) [1,1,1,1,1,0,1,0,0]), .inBlock 1, .code (csub (cd Try.f14) [1,1,1,1,1,1])] [(2, .int .u64 0), (3, .int .i64 3)] w (by kernel_rfl) .nil ?_
          refine GoS.ret (fn := Try.f14) (v := (.tuple #[.int .u64 0, .int .i64 3])) Try.func14 (by kernel_rfl) ?_
          rw [hR]
          rw [scan_none (by omega) (by intro z; simp at z) (by unfold most; simp only [cond_true, cond_false]; omega)] at hF
          subst hF
          exact ⟨rfl, rfl⟩
      ·
        have h6p : ¬ ((bl s k) = 46) := p_ne h6
        refine GoS.run [0, 4, 5, 6, 7, 8, 10, 34, 35, 41] [.n, .n, .n, .n, .n, .n, .n, .n] _ [.inRegion (cops (csub (cd Try.f14) [1,1,1,1,1,0,1,0,0,1,1,0,0,1,1,0,0])) [], .code (csub (cd Try.f14) [1,1,1,1,1,0,1,0,0,1,1,0,0,1,1,0,1]), .inBlock 3, .inBlock 2, .code (csub (cd Try.f14) [1,1,1,1,1,0,1,0,0,1,1,1]), .inLoop (csub (cd Try.f14) [1,1,1,1,1,0,1,0,0]), .inBlock 1, .code (csub (cd Try.f14) [1,1,1,1,1,1])] [(0, .string (sb s)), (4, .bool true), (5, .int .i64 ((n : Nat) : Int)), (6, .int .i64 ((d : Nat) : Int)), (7, .float .f64 (near (10 ^ d))), (8, .bool true), (10, .int .u8 (bl s k)), (34, .int .i64 ((s.length : Nat) : Int)), (35, .int .i64 ((k : Nat) : Int)), (41, .bool false)] w (by kernel_rfl) .nil ?_
        refine GoS.run [0, 4, 5, 6, 7, 8, 10, 34, 35, 55] [.n, .n, .n, .n, .n, .n, .n] _ [.inRegion (cops (csub (cd Try.f14) [1,1,1,1,1,0,1,0,0,1,1,0,0,1,1,0,1,1,0])) [3,4,5,6,7,8,9,10,11,12,13,14,15,16,17,18,19,20,21], .code (csub (cd Try.f14) [1,1,1,1,1,0,1,0,0,1,1,0,0,1,1,0,1,1,1]), .inBlock 3, .inBlock 2, .code (csub (cd Try.f14) [1,1,1,1,1,0,1,0,0,1,1,1]), .inLoop (csub (cd Try.f14) [1,1,1,1,1,0,1,0,0]), .inBlock 1, .code (csub (cd Try.f14) [1,1,1,1,1,1])] [(0, .string (sb s)), (4, .bool true), (5, .int .i64 ((n : Nat) : Int)), (6, .int .i64 ((d : Nat) : Int)), (7, .float .f64 (near (10 ^ d))), (8, .bool true), (10, .int .u8 (bl s k)), (34, .int .i64 ((s.length : Nat) : Int)), (35, .int .i64 ((k : Nat) : Int)), (55, .bool (decide ((bl s k) ≥ 48)))] w (by kernel_rfl) .nil ?_
        refine GoS.fork 55 (decide ((bl s k) ≥ 48)) (by kernel_rfl) (fun h17 => ?_) (fun h17 => ?_)
        ·
          have h17p : (bl s k) ≥ 48 := of_decide_eq_true h17
          refine GoS.run [0, 4, 5, 6, 7, 8, 10, 34, 35, 59] [.n, .n, .n, .n] _ [.inRegion (cops (csub (cd Try.f14) [1,1,1,1,1,0,1,0,0,1,1,0,0,1,1,0,1,1,0])) [7,8,9,10,11,12,13,14,15,16,17,18,19,20,21], .code (csub (cd Try.f14) [1,1,1,1,1,0,1,0,0,1,1,0,0,1,1,0,1,1,1]), .inBlock 3, .inBlock 2, .code (csub (cd Try.f14) [1,1,1,1,1,0,1,0,0,1,1,1]), .inLoop (csub (cd Try.f14) [1,1,1,1,1,0,1,0,0]), .inBlock 1, .code (csub (cd Try.f14) [1,1,1,1,1,1])] [(0, .string (sb s)), (4, .bool true), (5, .int .i64 ((n : Nat) : Int)), (6, .int .i64 ((d : Nat) : Int)), (7, .float .f64 (near (10 ^ d))), (8, .bool true), (10, .int .u8 (bl s k)), (34, .int .i64 ((s.length : Nat) : Int)), (35, .int .i64 ((k : Nat) : Int)), (59, .bool (decide ((bl s k) ≤ 57)))] w (by kernel_rfl) .nil ?_
          refine GoS.fork 59 (decide ((bl s k) ≤ 57)) (by kernel_rfl) (fun h18 => ?_) (fun h18 => ?_)
          ·
            have h18p : (bl s k) ≤ 57 := of_decide_eq_true h18
            refine GoS.run [0, 4, 5, 6, 7, 8, 10, 34, 35, 59, 65] [.n, .n, .n, .n, .n, .n] _ [.inRegion (cops (csub (cd Try.f14) [1,1,1,1,1,0,1,0,0,1,1,0,0,1,1,0,1,1,0])) [13,14,15,16,17,18,19,20,21], .code (csub (cd Try.f14) [1,1,1,1,1,0,1,0,0,1,1,0,0,1,1,0,1,1,1]), .inBlock 3, .inBlock 2, .code (csub (cd Try.f14) [1,1,1,1,1,0,1,0,0,1,1,1]), .inLoop (csub (cd Try.f14) [1,1,1,1,1,0,1,0,0]), .inBlock 1, .code (csub (cd Try.f14) [1,1,1,1,1,1])] [(0, .string (sb s)), (4, .bool true), (5, .int .i64 ((n : Nat) : Int)), (6, .int .i64 ((d : Nat) : Int)), (7, .float .f64 (near (10 ^ d))), (8, .bool true), (10, .int .u8 (bl s k)), (34, .int .i64 ((s.length : Nat) : Int)), (35, .int .i64 ((k : Nat) : Int)), (59, .bool true), (65, .bool (decide (((d : Nat) : Int) < 3)))] w (by kernel_rfl) .nil ?_
            refine GoS.fork 65 (decide (((d : Nat) : Int) < 3)) (by kernel_rfl) (fun h19 => ?_) (fun h19 => ?_)
            ·
              have h19p : ((d : Nat) : Int) < 3 := of_decide_eq_true h19
              refine GoS.run [0, 4, 5, 6, 7, 8, 10, 34, 35, 52] [.n, .n, .n, .n, .n, .n, .n, .n, .n] _ [.inRegion (cops (csub (cd Try.f14) [1,1,1,1,1,0,1,0,0,1,1,0,0,1,1,0,1,1,0])) [], .code (csub (cd Try.f14) [1,1,1,1,1,0,1,0,0,1,1,0,0,1,1,0,1,1,1]), .inBlock 3, .inBlock 2, .code (csub (cd Try.f14) [1,1,1,1,1,0,1,0,0,1,1,1]), .inLoop (csub (cd Try.f14) [1,1,1,1,1,0,1,0,0]), .inBlock 1, .code (csub (cd Try.f14) [1,1,1,1,1,1])] [(0, .string (sb s)), (4, .bool true), (5, .int .i64 ((n : Nat) : Int)), (6, .int .i64 ((d : Nat) : Int)), (7, .float .f64 (near (10 ^ d))), (8, .bool true), (10, .int .u8 (bl s k)), (34, .int .i64 ((s.length : Nat) : Int)), (35, .int .i64 ((k : Nat) : Int)), (52, .bool true)] w (by kernel_rfl) .nil ?_
              have o20 : (binOp .mul 3 (.int .i64 10) (.int .i64 ((n : Nat) : Int))).run Try.prog w = .ok (.int .i64 (((10 * n) : Nat) : Int)) w := f_mul (by rw [show 10 * ((n : Nat) : Int) = (((10 * n) : Nat) : Int) by omega]; exact IntWalk.i64_in _ (by omega))
              have o21 : (binOp .sub 5 (.int .u8 (bl s k)) (.int .u8 48)).run Try.prog w = .ok (.int .u8 ((bl s k) - 48)) w := f_sub (IntWalk.u8_in _ (by omega))
              have o22 : (convert 5 3 (.int .u8 ((bl s k) - 48))).run Try.prog w = .ok (.int .i64 ((bl s k) - 48)) w := f_conv (u := .int .u8) (by kernel_rfl) (by kernel_rfl) (IntWalk.i64_in _ (by omega))
              have o23 : (binOp .add 3 (.int .i64 (((10 * n) : Nat) : Int)) (.int .i64 ((bl s k) - 48))).run Try.prog w = .ok (.int .i64 ((((10 * n) : Nat) : Int) + ((bl s k) - 48))) w := f_add (IntWalk.i64_in _ (by omega))
              have o24 : (binOp .add 3 (.int .i64 ((d : Nat) : Int)) (.int .i64 1)).run Try.prog w = .ok (.int .i64 (((d + 1) : Nat) : Int)) w := f_add (by rw [show ((d : Nat) : Int) + 1 = (((d + 1) : Nat) : Int) by omega]; exact IntWalk.i64_in _ (by omega))
              have o25 : (binOp .mul 33 (.float .f64 (near (10 ^ d))) (.float .f64 4621819117588971520)).run Try.prog w = .ok (.float .f64 (near (10 ^ (d + 1)))) w := f_fmul (sc_up ⟨d, by omega⟩)
              have o26 : (binOp .add 3 (.int .i64 ((k : Nat) : Int)) (.int .i64 1)).run Try.prog w = .ok (.int .i64 (((k + 1) : Nat) : Int)) w := f_add (by rw [show ((k : Nat) : Int) + 1 = (((k + 1) : Nat) : Int) by omega]; exact IntWalk.i64_in _ (by omega))
              refine GoS.run [0, 4, 5, 6, 7, 8, 34, 35] [.n, .n, .n, .n, .n, .h (.int .i64 (((10 * n) : Nat) : Int)), .n, .h (.int .u8 ((bl s k) - 48)), .h (.int .i64 ((bl s k) - 48)), .h (.int .i64 ((((10 * n) : Nat) : Int) + ((bl s k) - 48))), .n, .n, .n, .n, .n, .h (.int .i64 (((d + 1) : Nat) : Int)), .n, .n, .n, .n, .n, .n, .n, .n, .n, .h (.float .f64 (near (10 ^ (d + 1)))), .n, .n, .n, .n, .n, .h (.int .i64 (((k + 1) : Nat) : Int)), .n, .n, .n] _ [.code (csub (cd Try.f14) [1,1,1,1,1,0,1,0,0]), .inLoop (csub (cd Try.f14) [1,1,1,1,1,0,1,0,0]), .inBlock 1, .code (csub (cd Try.f14) [1,1,1,1,1,1])] [(0, .string (sb s)), (4, .bool true), (5, .int .i64 ((((10 * n) : Nat) : Int) + ((bl s k) - 48))), (6, .int .i64 (((d + 1) : Nat) : Int)), (7, .float .f64 (near (10 ^ (d + 1)))), (8, .bool true), (34, .int .i64 ((s.length : Nat) : Int)), (35, .int .i64 (((k + 1) : Nat) : Int))] w (by kernel_rfl) (.cons o20 (.cons o21 (.cons o22 (.cons o23 (.cons o24 (.cons o25 (.cons o26 .nil))))))) ?_
              exact GoS.cast (by rw [show ((((10 * n) : Nat) : Int) + ((bl s k) - 48)) = ((10 * n + ((bl s k).toNat - 48) : Nat) : Int) by omega]; first | done | rfl) (ih (10 * n + ((bl s k).toNat - 48)) (d + 1) (k + 1) ((scan_digit (n := n) (d := d) (k := k) (by omega) (by omega) (by omega) (by unfold most; simp only [cond_true, cond_false]; omega)).symm.trans hF) (by omega) (by omega) (by rw [show 12 + (d + 1) = (12 + d) + 1 by omega]; exact dec_up hn (by omega)) (by omega))
            ·
              have h19p : ¬ (((d : Nat) : Int) < 3) := of_decide_eq_false h19
              refine GoS.run [0, 4, 5, 6, 7, 8, 10, 34, 35, 52] [.n, .n, .n, .n, .n, .n, .n, .n, .n] _ [.inRegion (cops (csub (cd Try.f14) [1,1,1,1,1,0,1,0,0,1,1,0,0,1,1,0,1,1,0])) [], .code (csub (cd Try.f14) [1,1,1,1,1,0,1,0,0,1,1,0,0,1,1,0,1,1,1]), .inBlock 3, .inBlock 2, .code (csub (cd Try.f14) [1,1,1,1,1,0,1,0,0,1,1,1]), .inLoop (csub (cd Try.f14) [1,1,1,1,1,0,1,0,0]), .inBlock 1, .code (csub (cd Try.f14) [1,1,1,1,1,1])] [(0, .string (sb s)), (4, .bool true), (5, .int .i64 ((n : Nat) : Int)), (6, .int .i64 ((d : Nat) : Int)), (7, .float .f64 (near (10 ^ d))), (8, .bool true), (10, .int .u8 (bl s k)), (34, .int .i64 ((s.length : Nat) : Int)), (35, .int .i64 ((k : Nat) : Int)), (52, .bool false)] w (by kernel_rfl) .nil ?_
              refine GoS.run [2, 3] [.n, .n, .n, .n, .n, .n, .n] _ [.code (csub (cd Try.f14) [1,1,1,1,1,0,1,0,0,1,1,0,0,1,1,0,1,1,1,1,1]), .inBlock 3, .inBlock 2, .code (csub (cd Try.f14) [1,1,1,1,1,0,1,0,0,1,1,1]), .inLoop (csub (cd Try.f14) [1,1,1,1,1,0,1,0,0]), .inBlock 1, .code (csub (cd Try.f14) [1,1,1,1,1,1])] [(2, .int .u64 0), (3, .int .i64 3)] w (by kernel_rfl) .nil ?_
              refine GoS.ret (fn := Try.f14) (v := (.tuple #[.int .u64 0, .int .i64 3])) Try.func14 (by kernel_rfl) ?_
              rw [hR]
              rw [scan_none (by omega) (by intro z; simp at z) (by unfold most; simp only [cond_true, cond_false]; omega)] at hF
              subst hF
              exact ⟨rfl, rfl⟩
          ·
            have h18p : ¬ ((bl s k) ≤ 57) := of_decide_eq_false h18
            refine GoS.run [0, 4, 5, 6, 7, 8, 10, 34, 35, 52] [.n, .n, .n, .n, .n, .n, .n, .n, .n, .n, .n, .n, .n, .n, .n] _ [.inRegion (cops (csub (cd Try.f14) [1,1,1,1,1,0,1,0,0,1,1,0,0,1,1,0,1,1,0])) [], .code (csub (cd Try.f14) [1,1,1,1,1,0,1,0,0,1,1,0,0,1,1,0,1,1,1]), .inBlock 3, .inBlock 2, .code (csub (cd Try.f14) [1,1,1,1,1,0,1,0,0,1,1,1]), .inLoop (csub (cd Try.f14) [1,1,1,1,1,0,1,0,0]), .inBlock 1, .code (csub (cd Try.f14) [1,1,1,1,1,1])] [(0, .string (sb s)), (4, .bool true), (5, .int .i64 ((n : Nat) : Int)), (6, .int .i64 ((d : Nat) : Int)), (7, .float .f64 (near (10 ^ d))), (8, .bool true), (10, .int .u8 (bl s k)), (34, .int .i64 ((s.length : Nat) : Int)), (35, .int .i64 ((k : Nat) : Int)), (52, .bool false)] w (by kernel_rfl) .nil ?_
            refine GoS.run [2, 3] [.n, .n, .n, .n, .n, .n, .n] _ [.code (csub (cd Try.f14) [1,1,1,1,1,0,1,0,0,1,1,0,0,1,1,0,1,1,1,1,1]), .inBlock 3, .inBlock 2, .code (csub (cd Try.f14) [1,1,1,1,1,0,1,0,0,1,1,1]), .inLoop (csub (cd Try.f14) [1,1,1,1,1,0,1,0,0]), .inBlock 1, .code (csub (cd Try.f14) [1,1,1,1,1,1])] [(2, .int .u64 0), (3, .int .i64 3)] w (by kernel_rfl) .nil ?_
            refine GoS.ret (fn := Try.f14) (v := (.tuple #[.int .u64 0, .int .i64 3])) Try.func14 (by kernel_rfl) ?_
            rw [hR]
            rw [scan_none (by omega) (by intro z; simp at z) (by unfold most; simp only [cond_true, cond_false]; omega)] at hF
            subst hF
            exact ⟨rfl, rfl⟩
        ·
          have h17p : ¬ ((bl s k) ≥ 48) := of_decide_eq_false h17
          refine GoS.run [0, 4, 5, 6, 7, 8, 10, 34, 35, 52] [.n, .n, .n, .n, .n, .n, .n, .n, .n, .n, .n, .n, .n, .n, .n, .n, .n, .n, .n] _ [.inRegion (cops (csub (cd Try.f14) [1,1,1,1,1,0,1,0,0,1,1,0,0,1,1,0,1,1,0])) [], .code (csub (cd Try.f14) [1,1,1,1,1,0,1,0,0,1,1,0,0,1,1,0,1,1,1]), .inBlock 3, .inBlock 2, .code (csub (cd Try.f14) [1,1,1,1,1,0,1,0,0,1,1,1]), .inLoop (csub (cd Try.f14) [1,1,1,1,1,0,1,0,0]), .inBlock 1, .code (csub (cd Try.f14) [1,1,1,1,1,1])] [(0, .string (sb s)), (4, .bool true), (5, .int .i64 ((n : Nat) : Int)), (6, .int .i64 ((d : Nat) : Int)), (7, .float .f64 (near (10 ^ d))), (8, .bool true), (10, .int .u8 (bl s k)), (34, .int .i64 ((s.length : Nat) : Int)), (35, .int .i64 ((k : Nat) : Int)), (52, .bool false)] w (by kernel_rfl) .nil ?_
          refine GoS.run [2, 3] [.n, .n, .n, .n, .n, .n, .n] _ [.code (csub (cd Try.f14) [1,1,1,1,1,0,1,0,0,1,1,0,0,1,1,0,1,1,1,1,1]), .inBlock 3, .inBlock 2, .code (csub (cd Try.f14) [1,1,1,1,1,0,1,0,0,1,1,1]), .inLoop (csub (cd Try.f14) [1,1,1,1,1,0,1,0,0]), .inBlock 1, .code (csub (cd Try.f14) [1,1,1,1,1,1])] [(2, .int .u64 0), (3, .int .i64 3)] w (by kernel_rfl) .nil ?_
          refine GoS.ret (fn := Try.f14) (v := (.tuple #[.int .u64 0, .int .i64 3])) Try.func14 (by kernel_rfl) ?_
          rw [hR]
          rw [scan_none (by omega) (by intro z; simp at z) (by unfold most; simp only [cond_true, cond_false]; omega)] at hF
          subst hF
          exact ⟨rfl, rfl⟩
    ·
      have h1p : ¬ (((k : Nat) : Int) < ((s.length : Nat) : Int)) := of_decide_eq_false h1
      refine GoS.run [4, 5, 7, 87] [.n, .n, .n, .n, .n, .n, .n] _ [.code (csub (cd Try.f14) [1,1,1,1,1,1,0,1]), .code (csub (cd Try.f14) [1,1,1,1,1,1,1])] [(4, .bool true), (5, .int .i64 ((n : Nat) : Int)), (7, .float .f64 (near (10 ^ d))), (87, .bool (((d : Nat) : Int) == 0))] w (by kernel_rfl) .nil ?_
      refine GoS.cond (((d : Nat) : Int) == 0) [.code (csub (cd Try.f14) [1,1,1,1,1,1,0,1,0]), .code (csub (cd Try.f14) [1,1,1,1,1,1,1])] [.code (csub (cd Try.f14) [1,1,1,1,1,1,0,1,1]), .code (csub (cd Try.f14) [1,1,1,1,1,1,1])] (by kernel_rfl) (fun h2 => ?_) (fun h2 => ?_)
      ·
        have h2p : ((d : Nat) : Int) = 0 := eq_of_beq h2
        refine GoS.run [2, 3] [.n, .n, .n, .n, .n] _ [.code (csub (cd Try.f14) [1,1,1,1,1,1,0,1,0,1]), .code (csub (cd Try.f14) [1,1,1,1,1,1,1])] [(2, .int .u64 0), (3, .int .i64 3)] w (by kernel_rfl) .nil ?_
        refine GoS.ret (fn := Try.f14) (v := (.tuple #[.int .u64 0, .int .i64 3])) Try.func14 (by kernel_rfl) ?_
        rw [hR]
        rw [scan_end (by omega), if_pos (by omega)] at hF
        subst hF
        exact ⟨rfl, rfl⟩
      ·
        have h2p : ¬ (((d : Nat) : Int) = 0) := p_ne h2
        refine GoS.run [4, 5, 7] [.n] _ [.code (csub (cd Try.f14) [1,1,1,1,1,1,1])] [(4, .bool true), (5, .int .i64 ((n : Nat) : Int)), (7, .float .f64 (near (10 ^ d)))] w (by kernel_rfl) .nil ?_
        have o3 : (binOp .quo 33 (.float .f64 (FloatKind.nearest .f64 ((n : Nat) : Int))) (.float .f64 (near (10 ^ d)))).run Try.prog w = .ok (.float .f64 (ratN n (10 ^ d))) w := f_fquo (ratN_some (a := n) (b := (10 ^ d)) (by omega) (by first | decide | omega) (by first | decide | omega))
        refine GoS.run [93] [.n, .n, .n, .n, .n, .h (.float .f64 (ratN n (10 ^ d))), .n, .n, .n, .n, .n, .n, .n, .n, .n, .n] _ [.inRegion (cops (csub (cd Try.f14) [1,1,1,1,1,1,1,1,0,1,0])) [1,2], .code (csub (cd Try.f14) [1,1,1,1,1,1,1,1,1])] [(93, .float .f64 (ratN n (10 ^ d)))] w (by kernel_rfl) (.cons o3 .nil) ?_
        refine GoS.call [] 25 #[.float .f64 (ratN n (10 ^ d)), .float .f64 13830554455654793216] (some 94) [.inRegion (cops (csub (cd Try.f14) [1,1,1,1,1,1,1,1,0,1,0])) [2], .code (csub (cd Try.f14) [1,1,1,1,1,1,1,1,1])] [] (by kernel_rfl) (csign_c (ratN n (10 ^ d)) (by omega) w) ?_
        rintro _ _ ⟨rfl, rfl⟩
        refine ⟨_, rfl, ?_⟩
        refine GoS.run [2, 3] [.n, .n, .n, .n, .n, .n, .n, .n, .n] _ [.code (csub (cd Try.f14) [1,1,1,1,1,1,1,1,1,1])] [(2, .int .u64 ((((ratN n (10 ^ d)) + 9223372036854775808) : Nat) : Int)), (3, .int .i64 0)] w (by kernel_rfl) .nil ?_
        refine GoS.ret (fn := Try.f14) (v := (.tuple #[.int .u64 ((((ratN n (10 ^ d)) + 9223372036854775808) : Nat) : Int), .int .i64 0])) Try.func14 (by kernel_rfl) ?_
        rw [hR]
        rw [scan_end (by omega), if_neg (by omega)] at hF
        subst hF
        exact ⟨by simp only [valP, errP, cond_true, cond_false], rfl⟩

set_option maxHeartbeats 400000 in
theorem parse_Ln (s : List UInt8) (hs : s.length ≤ 9223372036854775807) (w : World) (X : Option (Nat × Nat)) (R : Ending → World → Prop) (hR : R = (fun e w' => e = .returned (.tuple #[.int .u64 ((valP X true : Nat) : Int), .int .i64 (errP X)]) ∧ w = w')) : ∀ (N : Nat) (n d k : Nat) (hF : scan false n d (s.drop k) = X) (hk : k ≤ s.length) (hd : d ≤ 12) (hn : n < 10 ^ d) (hN : s.length - k < N), GoS Try.prog 14 R 97 [.code (csub (cd Try.f14) [1,1,1,1,1,0,1,0,0]), .inLoop (csub (cd Try.f14) [1,1,1,1,1,0,1,0,0]), .inBlock 1, .code (csub (cd Try.f14) [1,1,1,1,1,1])] [(0, .string (sb s)), (4, .bool true), (5, .int .i64 ((n : Nat) : Int)), (6, .int .i64 ((d : Nat) : Int)), (7, .float .f64 4607182418800017408), (8, .bool false), (34, .int .i64 ((s.length : Nat) : Int)), (35, .int .i64 ((k : Nat) : Int))] w := by
  intro N
  induction N with
  | zero => intro n d k hF hk hd hn hN; exact absurd hN (Nat.not_lt_zero _)
  | succ N ih =>
    intro n d k hF hk hd hn hN
    have hb := bl_bd s k
    have hn2 : n < 10 ^ 15 := dec_bd hn (by omega)
    have e15 : (10 : Nat) ^ 15 = 1000000000000000 := by decide
    have hrl := ratN_lt (a := n) (b := 10 ^ 0) (by omega) (by decide) (by decide)
    refine GoS.run [0, 4, 5, 6, 7, 8, 34, 35, 36] [.n, .n, .n, .n, .n] _ [.code (csub (cd Try.f14) [1,1,1,1,1,0,1,0,0,1,0]), .code (csub (cd Try.f14) [1,1,1,1,1,0,1,0,0,1,1]), .inLoop (csub (cd Try.f14) [1,1,1,1,1,0,1,0,0]), .inBlock 1, .code (csub (cd Try.f14) [1,1,1,1,1,1])] [(0, .string (sb s)), (4, .bool true), (5, .int .i64 ((n : Nat) : Int)), (6, .int .i64 ((d : Nat) : Int)), (7, .float .f64 4607182418800017408), (8, .bool false), (34, .int .i64 ((s.length : Nat) : Int)), (35, .int .i64 ((k : Nat) : Int)), (36, .bool (decide (((k : Nat) : Int) < ((s.length : Nat) : Int))))] w (by kernel_rfl) .nil ?_
    refine GoS.cond (decide (((k : Nat) : Int) < ((s.length : Nat) : Int))) [.code (csub (cd Try.f14) [1,1,1,1,1,0,1,0,0,1,0,0]), .code (csub (cd Try.f14) [1,1,1,1,1,0,1,0,0,1,1]), .inLoop (csub (cd Try.f14) [1,1,1,1,1,0,1,0,0]), .inBlock 1, .code (csub (cd Try.f14) [1,1,1,1,1,1])] [.code (csub (cd Try.f14) [1,1,1,1,1,0,1,0,0,1,0,1]), .code (csub (cd Try.f14) [1,1,1,1,1,0,1,0,0,1,1]), .inLoop (csub (cd Try.f14) [1,1,1,1,1,0,1,0,0]), .inBlock 1, .code (csub (cd Try.f14) [1,1,1,1,1,1])] (by kernel_rfl) (fun h1 => ?_) (fun h1 => ?_)
    ·
      have h1p : ((k : Nat) : Int) < ((s.length : Nat) : Int) := of_decide_eq_true h1
      refine GoS.run [0, 4, 5, 6, 7, 8, 34, 35] [.n] _ [.code (csub (cd Try.f14) [1,1,1,1,1,0,1,0,0,1,1]), .inLoop (csub (cd Try.f14) [1,1,1,1,1,0,1,0,0]), .inBlock 1, .code (csub (cd Try.f14) [1,1,1,1,1,1])] [(0, .string (sb s)), (4, .bool true), (5, .int .i64 ((n : Nat) : Int)), (6, .int .i64 ((d : Nat) : Int)), (7, .float .f64 4607182418800017408), (8, .bool false), (34, .int .i64 ((s.length : Nat) : Int)), (35, .int .i64 ((k : Nat) : Int))] w (by kernel_rfl) .nil ?_
      have hb4 := bl_bd s k
      have o5 : (Instr.index 9 (.string (sb s)) (.int .i64 ((k : Nat) : Int))).run Try.prog w = .ok (.int .u8 (bl s k)) w := f_index k (by kernel_rfl) (by omega) (by omega)
      refine GoS.run [0, 4, 5, 6, 7, 8, 10, 34, 35, 44] [.n, .n, .n, .n, .n, .n, .n, .n, .n, .n, .n, .h (.int .u8 (bl s k)), .n, .n, .n, .n, .n, .n, .n, .n] _ [.inRegion (cops (csub (cd Try.f14) [1,1,1,1,1,0,1,0,0,1,1,0,0,1,1,0,0])) [3,4,5,6,7,8,9,10], .code (csub (cd Try.f14) [1,1,1,1,1,0,1,0,0,1,1,0,0,1,1,0,1]), .inBlock 3, .inBlock 2, .code (csub (cd Try.f14) [1,1,1,1,1,0,1,0,0,1,1,1]), .inLoop (csub (cd Try.f14) [1,1,1,1,1,0,1,0,0]), .inBlock 1, .code (csub (cd Try.f14) [1,1,1,1,1,1])] [(0, .string (sb s)), (4, .bool true), (5, .int .i64 ((n : Nat) : Int)), (6, .int .i64 ((d : Nat) : Int)), (7, .float .f64 4607182418800017408), (8, .bool false), (10, .int .u8 (bl s k)), (34, .int .i64 ((s.length : Nat) : Int)), (35, .int .i64 ((k : Nat) : Int)), (44, .bool ((bl s k) == 46))] w (by kernel_rfl) (.cons o5 .nil) ?_
      refine GoS.fork 44 ((bl s k) == 46) (by kernel_rfl) (fun h6 => ?_) (fun h6 => ?_)
      ·
        have h6p : (bl s k) = 46 := eq_of_beq h6
        refine GoS.run [0, 4, 5, 6, 7, 8, 10, 34, 35, 41] [.n, .n, .n, .n, .n, .n, .n, .n] _ [.inRegion (cops (csub (cd Try.f14) [1,1,1,1,1,0,1,0,0,1,1,0,0,1,1,0,0])) [], .code (csub (cd Try.f14) [1,1,1,1,1,0,1,0,0,1,1,0,0,1,1,0,1]), .inBlock 3, .inBlock 2, .code (csub (cd Try.f14) [1,1,1,1,1,0,1,0,0,1,1,1]), .inLoop (csub (cd Try.f14) [1,1,1,1,1,0,1,0,0]), .inBlock 1, .code (csub (cd Try.f14) [1,1,1,1,1,1])] [(0, .string (sb s)), (4, .bool true), (5, .int .i64 ((n : Nat) : Int)), (6, .int .i64 ((d : Nat) : Int)), (7, .float .f64 4607182418800017408), (8, .bool false), (10, .int .u8 (bl s k)), (34, .int .i64 ((s.length : Nat) : Int)), (35, .int .i64 ((k : Nat) : Int)), (41, .bool (decide (((d : Nat) : Int) > 0)))] w (by kernel_rfl) .nil ?_
        refine GoS.run [0, 4, 5, 6, 7, 8, 10, 34, 35, 41] [.n] _ [.code (csub (cd Try.f14) [1,1,1,1,1,0,1,0,0,1,1,0,0,1,1,0,1]), .inBlock 3, .inBlock 2, .code (csub (cd Try.f14) [1,1,1,1,1,0,1,0,0,1,1,1]), .inLoop (csub (cd Try.f14) [1,1,1,1,1,0,1,0,0]), .inBlock 1, .code (csub (cd Try.f14) [1,1,1,1,1,1])] [(0, .string (sb s)), (4, .bool true), (5, .int .i64 ((n : Nat) : Int)), (6, .int .i64 ((d : Nat) : Int)), (7, .float .f64 4607182418800017408), (8, .bool false), (10, .int .u8 (bl s k)), (34, .int .i64 ((s.length : Nat) : Int)), (35, .int .i64 ((k : Nat) : Int)), (41, .bool (decide (((d : Nat) : Int) > 0)))] w (by kernel_rfl) .nil ?_
        refine GoS.cond (decide (((d : Nat) : Int) > 0)) [.code (csub (cd Try.f14) [1,1,1,1,1,0,1,0,0,1,1,0,0,1,1,0,1,0]), .inBlock 3, .inBlock 2, .code (csub (cd Try.f14) [1,1,1,1,1,0,1,0,0,1,1,1]), .inLoop (csub (cd Try.f14) [1,1,1,1,1,0,1,0,0]), .inBlock 1, .code (csub (cd Try.f14) [1,1,1,1,1,1])] [.code (csub (cd Try.f14) [1,1,1,1,1,0,1,0,0,1,1,0,0,1,1,0,1,1]), .inBlock 3, .inBlock 2, .code (csub (cd Try.f14) [1,1,1,1,1,0,1,0,0,1,1,1]), .inLoop (csub (cd Try.f14) [1,1,1,1,1,0,1,0,0]), .inBlock 1, .code (csub (cd Try.f14) [1,1,1,1,1,1])] (by kernel_rfl) (fun h7 => ?_) (fun h7 => ?_)
        ·
          have h7p : ((d : Nat) : Int) > 0 := of_decide_eq_true h7
          refine GoS.run [0, 4, 5, 6, 7, 8, 34, 35] [.n, .n, .n, .n, .n, .n, .n] _ [.inBlock 3, .inBlock 2, .code (csub (cd Try.f14) [1,1,1,1,1,0,1,0,0,1,1,1]), .inLoop (csub (cd Try.f14) [1,1,1,1,1,0,1,0,0]), .inBlock 1, .code (csub (cd Try.f14) [1,1,1,1,1,1])] [(0, .string (sb s)), (4, .bool true), (5, .int .i64 ((n : Nat) : Int)), (6, .int .i64 0), (7, .float .f64 4607182418800017408), (8, .bool true), (34, .int .i64 ((s.length : Nat) : Int)), (35, .int .i64 ((k : Nat) : Int))] w (by kernel_rfl) .nil ?_
          have o16 : (binOp .add 3 (.int .i64 ((k : Nat) : Int)) (.int .i64 1)).run Try.prog w = .ok (.int .i64 (((k + 1) : Nat) : Int)) w := f_add (by rw [show ((k : Nat) : Int) + 1 = (((k + 1) : Nat) : Int) by omega]; exact IntWalk.i64_in _ (by omega))
          refine GoS.run [0, 4, 5, 6, 7, 8, 34, 35] [.n, .n, .n, .h (.int .i64 (((k + 1) : Nat) : Int)), .n, .n, .n] _ [.code (csub (cd Try.f14) [1,1,1,1,1,0,1,0,0]), .inLoop (csub (cd Try.f14) [1,1,1,1,1,0,1,0,0]), .inBlock 1, .code (csub (cd Try.f14) [1,1,1,1,1,1])] [(0, .string (sb s)), (4, .bool true), (5, .int .i64 ((n : Nat) : Int)), (6, .int .i64 0), (7, .float .f64 4607182418800017408), (8, .bool true), (34, .int .i64 ((s.length : Nat) : Int)), (35, .int .i64 (((k + 1) : Nat) : Int))] w (by kernel_rfl) (.cons o16 .nil) ?_
          exact GoS.cast (by rw [sc0]; rfl) (parse_Mn s hs w X R hR (s.length + 1) n 0 (k + 1) ((scan_point (n := n) (d := d) (k := k) (by omega) (by omega) (by omega)).symm.trans hF) (by omega) (by omega) (dec_bd hn (by omega)) (by omega))
        ·
          have h7p : ¬ (((d : Nat) : Int) > 0) := of_decide_eq_false h7
          refine GoS.run [0, 4, 5, 6, 7, 8, 10, 34, 35, 55] [.n, .n, .n, .n, .n] _ [.inRegion (cops (csub (cd Try.f14) [1,1,1,1,1,0,1,0,0,1,1,0,0,1,1,0,1,1,0])) [3,4,5,6,7,8,9,10,11,12,13,14,15,16,17,18,19,20,21], .code (csub (cd Try.f14) [1,1,1,1,1,0,1,0,0,1,1,0,0,1,1,0,1,1,1]), .inBlock 3, .inBlock 2, .code (csub (cd Try.f14) [1,1,1,1,1,0,1,0,0,1,1,1]), .inLoop (csub (cd Try.f14) [1,1,1,1,1,0,1,0,0]), .inBlock 1, .code (csub (cd Try.f14) [1,1,1,1,1,1])] [(0, .string (sb s)), (4, .bool true), (5, .int .i64 ((n : Nat) : Int)), (6, .int .i64 ((d : Nat) : Int)), (7, .float .f64 4607182418800017408), (8, .bool false), (10, .int .u8 (bl s k)), (34, .int .i64 ((s.length : Nat) : Int)), (35, .int .i64 ((k : Nat) : Int)), (55, .bool (decide ((bl s k) ≥ 48)))] w (by kernel_rfl) .nil ?_
          refine GoS.fork 55 (decide ((bl s k) ≥ 48)) (by kernel_rfl) (fun h8 => ?_) (fun h8 => ?_)
          ·
            have h8p : (bl s k) ≥ 48 := of_decide_eq_true h8
            refine GoS.run [0, 4, 5, 6, 7, 8, 10, 34, 35, 59] [.n, .n, .n, .n] _ [.inRegion (cops (csub (cd Try.f14) [1,1,1,1,1,0,1,0,0,1,1,0,0,1,1,0,1,1,0])) [7,8,9,10,11,12,13,14,15,16,17,18,19,20,21], .code (csub (cd Try.f14) [1,1,1,1,1,0,1,0,0,1,1,0,0,1,1,0,1,1,1]), .inBlock 3, .inBlock 2, .code (csub (cd Try.f14) [1,1,1,1,1,0,1,0,0,1,1,1]), .inLoop (csub (cd Try.f14) [1,1,1,1,1,0,1,0,0]), .inBlock 1, .code (csub (cd Try.f14) [1,1,1,1,1,1])] [(0, .string (sb s)), (4, .bool true), (5, .int .i64 ((n : Nat) : Int)), (6, .int .i64 ((d : Nat) : Int)), (7, .float .f64 4607182418800017408), (8, .bool false), (10, .int .u8 (bl s k)), (34, .int .i64 ((s.length : Nat) : Int)), (35, .int .i64 ((k : Nat) : Int)), (59, .bool (decide ((bl s k) ≤ 57)))] w (by kernel_rfl) .nil ?_
            refine GoS.fork 59 (decide ((bl s k) ≤ 57)) (by kernel_rfl) (fun h9 => ?_) (fun h9 => ?_)
            ·
              have h9p : (bl s k) ≤ 57 := of_decide_eq_true h9
              refine GoS.run [0, 4, 5, 6, 7, 8, 10, 34, 35, 52] [.n, .n, .n, .n, .n, .n, .n, .n, .n, .n, .n, .n, .n, .n, .n] _ [.inRegion (cops (csub (cd Try.f14) [1,1,1,1,1,0,1,0,0,1,1,0,0,1,1,0,1,1,0])) [], .code (csub (cd Try.f14) [1,1,1,1,1,0,1,0,0,1,1,0,0,1,1,0,1,1,1]), .inBlock 3, .inBlock 2, .code (csub (cd Try.f14) [1,1,1,1,1,0,1,0,0,1,1,1]), .inLoop (csub (cd Try.f14) [1,1,1,1,1,0,1,0,0]), .inBlock 1, .code (csub (cd Try.f14) [1,1,1,1,1,1])] [(0, .string (sb s)), (4, .bool true), (5, .int .i64 ((n : Nat) : Int)), (6, .int .i64 ((d : Nat) : Int)), (7, .float .f64 4607182418800017408), (8, .bool false), (10, .int .u8 (bl s k)), (34, .int .i64 ((s.length : Nat) : Int)), (35, .int .i64 ((k : Nat) : Int)), (52, .bool (decide (((d : Nat) : Int) < 12)))] w (by kernel_rfl) .nil ?_
              refine GoS.run [0, 4, 5, 6, 7, 8, 10, 34, 35, 52] [.n] _ [.code (csub (cd Try.f14) [1,1,1,1,1,0,1,0,0,1,1,0,0,1,1,0,1,1,1]), .inBlock 3, .inBlock 2, .code (csub (cd Try.f14) [1,1,1,1,1,0,1,0,0,1,1,1]), .inLoop (csub (cd Try.f14) [1,1,1,1,1,0,1,0,0]), .inBlock 1, .code (csub (cd Try.f14) [1,1,1,1,1,1])] [(0, .string (sb s)), (4, .bool true), (5, .int .i64 ((n : Nat) : Int)), (6, .int .i64 ((d : Nat) : Int)), (7, .float .f64 4607182418800017408), (8, .bool false), (10, .int .u8 (bl s k)), (34, .int .i64 ((s.length : Nat) : Int)), (35, .int .i64 ((k : Nat) : Int)), (52, .bool (decide (((d : Nat) : Int) < 12)))] w (by kernel_rfl) .nil ?_
              refine GoS.cond (decide (((d : Nat) : Int) < 12)) [.code (csub (cd Try.f14) [1,1,1,1,1,0,1,0,0,1,1,0,0,1,1,0,1,1,1,0]), .inBlock 3, .inBlock 2, .code (csub (cd Try.f14) [1,1,1,1,1,0,1,0,0,1,1,1]), .inLoop (csub (cd Try.f14) [1,1,1,1,1,0,1,0,0]), .inBlock 1, .code (csub (cd Try.f14) [1,1,1,1,1,1])] [.code (csub (cd Try.f14) [1,1,1,1,1,0,1,0,0,1,1,0,0,1,1,0,1,1,1,1]), .inBlock 3, .inBlock 2, .code (csub (cd Try.f14) [1,1,1,1,1,0,1,0,0,1,1,1]), .inLoop (csub (cd Try.f14) [1,1,1,1,1,0,1,0,0]), .inBlock 1, .code (csub (cd Try.f14) [1,1,1,1,1,1])] (by kernel_rfl) (fun h10 => ?_) (fun h10 => ?_)
              ·
                have h10p : ((d : Nat) : Int) < 12 := of_decide_eq_true h10
                have o11 : (binOp .mul 3 (.int .i64 10) (.int .i64 ((n : Nat) : Int))).run Try.prog w = .ok (.int .i64 (((10 * n) : Nat) : Int)) w := f_mul (by rw [show 10 * ((n : Nat) : Int) = (((10 * n) : Nat) : Int) by omega]; exact IntWalk.i64_in _ (by omega))
                have o12 : (binOp .sub 5 (.int .u8 (bl s k)) (.int .u8 48)).run Try.prog w = .ok (.int .u8 ((bl s k) - 48)) w := f_sub (IntWalk.u8_in _ (by omega))
                have o13 : (convert 5 3 (.int .u8 ((bl s k) - 48))).run Try.prog w = .ok (.int .i64 ((bl s k) - 48)) w := f_conv (u := .int .u8) (by kernel_rfl) (by kernel_rfl) (IntWalk.i64_in _ (by omega))
                have o14 : (binOp .add 3 (.int .i64 (((10 * n) : Nat) : Int)) (.int .i64 ((bl s k) - 48))).run Try.prog w = .ok (.int .i64 ((((10 * n) : Nat) : Int) + ((bl s k) - 48))) w := f_add (IntWalk.i64_in _ (by omega))
                have o15 : (binOp .add 3 (.int .i64 ((d : Nat) : Int)) (.int .i64 1)).run Try.prog w = .ok (.int .i64 (((d + 1) : Nat) : Int)) w := f_add (by rw [show ((d : Nat) : Int) + 1 = (((d + 1) : Nat) : Int) by omega]; exact IntWalk.i64_in _ (by omega))
                refine GoS.run [0, 4, 5, 6, 7, 8, 34, 35] [.n, .n, .n, .h (.int .i64 (((10 * n) : Nat) : Int)), .n, .h (.int .u8 ((bl s k) - 48)), .h (.int .i64 ((bl s k) - 48)), .h (.int .i64 ((((10 * n) : Nat) : Int) + ((bl s k) - 48))), .n, .n, .n, .n, .n, .h (.int .i64 (((d + 1) : Nat) : Int)), .n, .n, .n, .n, .n, .n, .n, .n] _ [.inBlock 3, .inBlock 2, .code (csub (cd Try.f14) [1,1,1,1,1,0,1,0,0,1,1,1]), .inLoop (csub (cd Try.f14) [1,1,1,1,1,0,1,0,0]), .inBlock 1, .code (csub (cd Try.f14) [1,1,1,1,1,1])] [(0, .string (sb s)), (4, .bool true), (5, .int .i64 ((((10 * n) : Nat) : Int) + ((bl s k) - 48))), (6, .int .i64 (((d + 1) : Nat) : Int)), (7, .float .f64 4607182418800017408), (8, .bool false), (34, .int .i64 ((s.length : Nat) : Int)), (35, .int .i64 ((k : Nat) : Int))] w (by kernel_rfl) (.cons o11 (.cons o12 (.cons o13 (.cons o14 (.cons o15 .nil))))) ?_
                have o17 : (binOp .add 3 (.int .i64 ((k : Nat) : Int)) (.int .i64 1)).run Try.prog w = .ok (.int .i64 (((k + 1) : Nat) : Int)) w := f_add (by rw [show ((k : Nat) : Int) + 1 = (((k + 1) : Nat) : Int) by omega]; exact IntWalk.i64_in _ (by omega))
                refine GoS.run [0, 4, 5, 6, 7, 8, 34, 35] [.n, .n, .n, .h (.int .i64 (((k + 1) : Nat) : Int)), .n, .n, .n] _ [.code (csub (cd Try.f14) [1,1,1,1,1,0,1,0,0]), .inLoop (csub (cd Try.f14) [1,1,1,1,1,0,1,0,0]), .inBlock 1, .code (csub (cd Try.f14) [1,1,1,1,1,1])] [(0, .string (sb s)), (4, .bool true), (5, .int .i64 ((((10 * n) : Nat) : Int) + ((bl s k) - 48))), (6, .int .i64 (((d + 1) : Nat) : Int)), (7, .float .f64 4607182418800017408), (8, .bool false), (34, .int .i64 ((s.length : Nat) : Int)), (35, .int .i64 (((k + 1) : Nat) : Int))] w (by kernel_rfl) (.cons o17 .nil) ?_
                exact GoS.cast (by rw [show ((((10 * n) : Nat) : Int) + ((bl s k) - 48)) = ((10 * n + ((bl s k).toNat - 48) : Nat) : Int) by omega]; first | done | rfl) (ih (10 * n + ((bl s k).toNat - 48)) (d + 1) (k + 1) ((scan_digit (n := n) (d := d) (k := k) (by omega) (by omega) (by omega) (by unfold most; simp only [cond_true, cond_false]; omega)).symm.trans hF) (by omega) (by omega) (dec_up hn (by omega)) (by omega))
              ·
                have h10p : ¬ (((d : Nat) : Int) < 12) := of_decide_eq_false h10
                refine GoS.run [2, 3] [.n, .n, .n, .n, .n] _ [.code (csub (cd Try.f14) [1,1,1,1,1,0,1,0,0,1,1,0,0,1,1,0,1,1,1,1,1]), .inBlock 3, .inBlock 2, .code (csub (cd Try.f14) [1,1,1,1,1,0,1,0,0,1,1,1]), .inLoop (csub (cd Try.f14) [1,1,1,1,1,0,1,0,0]), .inBlock 1, .code (csub (cd Try.f14) [1,1,1,1,1,1])] [(2, .int .u64 0), (3, .int .i64 3)] w (by kernel_rfl) .nil ?_
                refine GoS.ret (fn := Try.f14) (v := (.tuple #[.int .u64 0, .int .i64 3])) Try.func14 (by kernel_rfl) ?_
                rw [hR]
                rw [scan_none (by omega) (by intro z; omega) (by unfold most; simp only [cond_true, cond_false]; omega)] at hF
                subst hF
                exact ⟨rfl, rfl⟩
            ·
              have h9p : ¬ ((bl s k) ≤ 57) := of_decide_eq_false h9
              refine GoS.run [0, 4, 5, 6, 7, 8, 10, 34, 35, 52] [.n, .n, .n, .n, .n, .n, .n, .n, .n, .n, .n, .n, .n, .n, .n] _ [.inRegion (cops (csub (cd Try.f14) [1,1,1,1,1,0,1,0,0,1,1,0,0,1,1,0,1,1,0])) [], .code (csub (cd Try.f14) [1,1,1,1,1,0,1,0,0,1,1,0,0,1,1,0,1,1,1]), .inBlock 3, .inBlock 2, .code (csub (cd Try.f14) [1,1,1,1,1,0,1,0,0,1,1,1]), .inLoop (csub (cd Try.f14) [1,1,1,1,1,0,1,0,0]), .inBlock 1, .code (csub (cd Try.f14) [1,1,1,1,1,1])] [(0, .string (sb s)), (4, .bool true), (5, .int .i64 ((n : Nat) : Int)), (6, .int .i64 ((d : Nat) : Int)), (7, .float .f64 4607182418800017408), (8, .bool false), (10, .int .u8 (bl s k)), (34, .int .i64 ((s.length : Nat) : Int)), (35, .int .i64 ((k : Nat) : Int)), (52, .bool false)] w (by kernel_rfl) .nil ?_
              refine GoS.run [2, 3] [.n, .n, .n, .n, .n, .n, .n] _ [.code (csub (cd Try.f14) [1,1,1,1,1,0,1,0,0,1,1,0,0,1,1,0,1,1,1,1,1]), .inBlock 3, .inBlock 2, .code (csub (cd Try.f14) [1,1,1,1,1,0,1,0,0,1,1,1]), .inLoop (csub (cd Try.f14) [1,1,1,1,1,0,1,0,0]), .inBlock 1, .code (csub (cd Try.f14) [1,1,1,1,1,1])] [(2, .int .u64 0), (3, .int .i64 3)] w (by kernel_rfl) .nil ?_
              refine GoS.ret (fn := Try.f14) (v := (.tuple #[.int .u64 0, .int .i64 3])) Try.func14 (by kernel_rfl) ?_
              rw [hR]
              rw [scan_none (by omega) (by intro z; omega) (by unfold most; simp only [cond_true, cond_false]; omega)] at hF
              subst hF
              exact ⟨rfl, rfl⟩
          ·
            have h8p : ¬ ((bl s k) ≥ 48) := of_decide_eq_false h8
            refine GoS.run [0, 4, 5, 6, 7, 8, 10, 34, 35, 52] [.n, .n, .n, .n, .n, .n, .n, .n, .n, .n, .n, .n, .n, .n, .n, .n, .n, .n, .n] _ [.inRegion (cops (csub (cd Try.f14) [1,1,1,1,1,0,1,0,0,1,1,0,0,1,1,0,1,1,0])) [], .code (csub (cd Try.f14) [1,1,1,1,1,0,1,0,0,1,1,0,0,1,1,0,1,1,1]), .inBlock 3, .inBlock 2, .code (csub (cd Try.f14) [1,1,1,1,1,0,1,0,0,1,1,1]), .inLoop (csub (cd Try.f14) [1,1,1,1,1,0,1,0,0]), .inBlock 1, .code (csub (cd Try.f14) [1,1,1,1,1,1])] [(0, .string (sb s)), (4, .bool true), (5, .int .i64 ((n : Nat) : Int)), (6, .int .i64 ((d : Nat) : Int)), (7, .float .f64 4607182418800017408), (8, .bool false), (10, .int .u8 (bl s k)), (34, .int .i64 ((s.length : Nat) : Int)), (35, .int .i64 ((k : Nat) : Int)), (52, .bool false)] w (by kernel_rfl) .nil ?_
            refine GoS.run [2, 3] [.n, .n, .n, .n, .n, .n, .n] _ [.code (csub (cd Try.f14) [1,1,1,1,1,0,1,0,0,1,1,0,0,1,1,0,1,1,1,1,1]), .inBlock 3, .inBlock 2, .code (csub (cd Try.f14) [1,1,1,1,1,0,1,0,0,1,1,1]), .inLoop (csub (cd Try.f14) [1,1,1,1,1,0,1,0,0]), .inBlock 1, .code (csub (cd Try.f14) [1,1,1,1,1,1])] [(2, .int .u64 0), (3, .int .i64 3)] w (by kernel_rfl) .nil ?_
            refine GoS.ret (fn := Try.f14) (v := (.tuple #[.int .u64 0, .int .i64 3])) Try.func14 (by kernel_rfl) ?_
            rw [hR]
            rw [scan_none (by omega) (by intro z; omega) (by unfold most; simp only [cond_true, cond_false]; omega)] at hF
            subst hF
            exact ⟨rfl, rfl⟩
      ·
        have h6p : ¬ ((bl s k) = 46) := p_ne h6
        refine GoS.run [0, 4, 5, 6, 7, 8, 10, 34, 35, 41] [.n, .n, .n, .n, .n, .n, .n, .n] _ [.inRegion (cops (csub (cd Try.f14) [1,1,1,1,1,0,1,0,0,1,1,0,0,1,1,0,0])) [], .code (csub (cd Try.f14) [1,1,1,1,1,0,1,0,0,1,1,0,0,1,1,0,1]), .inBlock 3, .inBlock 2, .code (csub (cd Try.f14) [1,1,1,1,1,0,1,0,0,1,1,1]), .inLoop (csub (cd Try.f14) [1,1,1,1,1,0,1,0,0]), .inBlock 1, .code (csub (cd Try.f14) [1,1,1,1,1,1])] [(0, .string (sb s)), (4, .bool true), (5, .int .i64 ((n : Nat) : Int)), (6, .int .i64 ((d : Nat) : Int)), (7, .float .f64 4607182418800017408), (8, .bool false), (10, .int .u8 (bl s k)), (34, .int .i64 ((s.length : Nat) : Int)), (35, .int .i64 ((k : Nat) : Int)), (41, .bool false)] w (by kernel_rfl) .nil ?_
        refine GoS.run [0, 4, 5, 6, 7, 8, 10, 34, 35, 55] [.n, .n, .n, .n, .n, .n, .n] _ [.inRegion (cops (csub (cd Try.f14) [1,1,1,1,1,0,1,0,0,1,1,0,0,1,1,0,1,1,0])) [3,4,5,6,7,8,9,10,11,12,13,14,15,16,17,18,19,20,21], .code (csub (cd Try.f14) [1,1,1,1,1,0,1,0,0,1,1,0,0,1,1,0,1,1,1]), .inBlock 3, .inBlock 2, .code (csub (cd Try.f14) [1,1,1,1,1,0,1,0,0,1,1,1]), .inLoop (csub (cd Try.f14) [1,1,1,1,1,0,1,0,0]), .inBlock 1, .code (csub (cd Try.f14) [1,1,1,1,1,1])] [(0, .string (sb s)), (4, .bool true), (5, .int .i64 ((n : Nat) : Int)), (6, .int .i64 ((d : Nat) : Int)), (7, .float .f64 4607182418800017408), (8, .bool false), (10, .int .u8 (bl s k)), (34, .int .i64 ((s.length : Nat) : Int)), (35, .int .i64 ((k : Nat) : Int)), (55, .bool (decide ((bl s k) ≥ 48)))] w (by kernel_rfl) .nil ?_
        refine GoS.fork 55 (decide ((bl s k) ≥ 48)) (by kernel_rfl) (fun h18 => ?_) (fun h18 => ?_)
        ·
          have h18p : (bl s k) ≥ 48 := of_decide_eq_true h18
          refine GoS.run [0, 4, 5, 6, 7, 8, 10, 34, 35, 59] [.n, .n, .n, .n] _ [.inRegion (cops (csub (cd Try.f14) [1,1,1,1,1,0,1,0,0,1,1,0,0,1,1,0,1,1,0])) [7,8,9,10,11,12,13,14,15,16,17,18,19,20,21], .code (csub (cd Try.f14) [1,1,1,1,1,0,1,0,0,1,1,0,0,1,1,0,1,1,1]), .inBlock 3, .inBlock 2, .code (csub (cd Try.f14) [1,1,1,1,1,0,1,0,0,1,1,1]), .inLoop (csub (cd Try.f14) [1,1,1,1,1,0,1,0,0]), .inBlock 1, .code (csub (cd Try.f14) [1,1,1,1,1,1])] [(0, .string (sb s)), (4, .bool true), (5, .int .i64 ((n : Nat) : Int)), (6, .int .i64 ((d : Nat) : Int)), (7, .float .f64 4607182418800017408), (8, .bool false), (10, .int .u8 (bl s k)), (34, .int .i64 ((s.length : Nat) : Int)), (35, .int .i64 ((k : Nat) : Int)), (59, .bool (decide ((bl s k) ≤ 57)))] w (by kernel_rfl) .nil ?_
          refine GoS.fork 59 (decide ((bl s k) ≤ 57)) (by kernel_rfl) (fun h19 => ?_) (fun h19 => ?_)
          ·
            have h19p : (bl s k) ≤ 57 := of_decide_eq_true h19
            refine GoS.run [0, 4, 5, 6, 7, 8, 10, 34, 35, 52] [.n, .n, .n, .n, .n, .n, .n, .n, .n, .n, .n, .n, .n, .n, .n] _ [.inRegion (cops (csub (cd Try.f14) [1,1,1,1,1,0,1,0,0,1,1,0,0,1,1,0,1,1,0])) [], .code (csub (cd Try.f14) [1,1,1,1,1,0,1,0,0,1,1,0,0,1,1,0,1,1,1]), .inBlock 3, .inBlock 2, .code (csub (cd Try.f14) [1,1,1,1,1,0,1,0,0,1,1,1]), .inLoop (csub (cd Try.f14) [1,1,1,1,1,0,1,0,0]), .inBlock 1, .code (csub (cd Try.f14) [1,1,1,1,1,1])] [(0, .string (sb s)), (4, .bool true), (5, .int .i64 ((n : Nat) : Int)), (6, .int .i64 ((d : Nat) : Int)), (7, .float .f64 4607182418800017408), (8, .bool false), (10, .int .u8 (bl s k)), (34, .int .i64 ((s.length : Nat) : Int)), (35, .int .i64 ((k : Nat) : Int)), (52, .bool (decide (((d : Nat) : Int) < 12)))] w (by kernel_rfl) .nil ?_
            refine GoS.run [0, 4, 5, 6, 7, 8, 10, 34, 35, 52] [.n] _ [.code (csub (cd Try.f14) [1,1,1,1,1,0,1,0,0,1,1,0,0,1,1,0,1,1,1]), .inBlock 3, .inBlock 2, .code (csub (cd Try.f14) [1,1,1,1,1,0,1,0,0,1,1,1]), .inLoop (csub (cd Try.f14) [1,1,1,1,1,0,1,0,0]), .inBlock 1, .code (csub (cd Try.f14) [1,1,1,1,1,1])] [(0, .string (sb s)), (4, .bool true), (5, .int .i64 ((n : Nat) : Int)), (6, .int .i64 ((d : Nat) : Int)), (7, .float .f64 4607182418800017408), (8, .bool false), (10, .int .u8 (bl s k)), (34, .int .i64 ((s.length : Nat) : Int)), (35, .int .i64 ((k : Nat) : Int)), (52, .bool (decide (((d : Nat) : Int) < 12)))] w (by kernel_rfl) .nil ?_
            refine GoS.cond (decide (((d : Nat) : Int) < 12)) [.code (csub (cd Try.f14) [1,1,1,1,1,0,1,0,0,1,1,0,0,1,1,0,1,1,1,0]), .inBlock 3, .inBlock 2, .code (csub (cd Try.f14) [1,1,1,1,1,0,1,0,0,1,1,1]), .inLoop (csub (cd Try.f14) [1,1,1,1,1,0,1,0,0]), .inBlock 1, .code (csub (cd Try.f14) [1,1,1,1,1,1])] [.code (csub (cd Try.f14) [1,1,1,1,1,0,1,0,0,1,1,0,0,1,1,0,1,1,1,1]), .inBlock 3, .inBlock 2, .code (csub (cd Try.f14) [1,1,1,1,1,0,1,0,0,1,1,1]), .inLoop (csub (cd Try.f14) [1,1,1,1,1,0,1,0,0]), .inBlock 1, .code (csub (cd Try.f14) [1,1,1,1,1,1])] (by kernel_rfl) (fun h20 => ?_) (fun h20 => ?_)
            ·
              have h20p : ((d : Nat) : Int) < 12 := of_decide_eq_true h20
              have o21 : (binOp .mul 3 (.int .i64 10) (.int .i64 ((n : Nat) : Int))).run Try.prog w = .ok (.int .i64 (((10 * n) : Nat) : Int)) w := f_mul (by rw [show 10 * ((n : Nat) : Int) = (((10 * n) : Nat) : Int) by omega]; exact IntWalk.i64_in _ (by omega))
              have o22 : (binOp .sub 5 (.int .u8 (bl s k)) (.int .u8 48)).run Try.prog w = .ok (.int .u8 ((bl s k) - 48)) w := f_sub (IntWalk.u8_in _ (by omega))
              have o23 : (convert 5 3 (.int .u8 ((bl s k) - 48))).run Try.prog w = .ok (.int .i64 ((bl s k) - 48)) w := f_conv (u := .int .u8) (by kernel_rfl) (by kernel_rfl) (IntWalk.i64_in _ (by omega))
              have o24 : (binOp .add 3 (.int .i64 (((10 * n) : Nat) : Int)) (.int .i64 ((bl s k) - 48))).run Try.prog w = .ok (.int .i64 ((((10 * n) : Nat) : Int) + ((bl s k) - 48))) w := f_add (IntWalk.i64_in _ (by omega))
              have o25 : (binOp .add 3 (.int .i64 ((d : Nat) : Int)) (.int .i64 1)).run Try.prog w = .ok (.int .i64 (((d + 1) : Nat) : Int)) w := f_add (by rw [show ((d : Nat) : Int) + 1 = (((d + 1) : Nat) : Int) by omega]; exact IntWalk.i64_in _ (by omega))
              refine GoS.run [0, 4, 5, 6, 7, 8, 34, 35] [.n, .n, .n, .h (.int .i64 (((10 * n) : Nat) : Int)), .n, .h (.int .u8 ((bl s k) - 48)), .h (.int .i64 ((bl s k) - 48)), .h (.int .i64 ((((10 * n) : Nat) : Int) + ((bl s k) - 48))), .n, .n, .n, .n, .n, .h (.int .i64 (((d + 1) : Nat) : Int)), .n, .n, .n, .n, .n, .n, .n, .n] _ [.inBlock 3, .inBlock 2, .code (csub (cd Try.f14) [1,1,1,1,1,0,1,0,0,1,1,1]), .inLoop (csub (cd Try.f14) [1,1,1,1,1,0,1,0,0]), .inBlock 1, .code (csub (cd Try.f14) [1,1,1,1,1,1])] [(0, .string (sb s)), (4, .bool true), (5, .int .i64 ((((10 * n) : Nat) : Int) + ((bl s k) - 48))), (6, .int .i64 (((d + 1) : Nat) : Int)), (7, .float .f64 4607182418800017408), (8, .bool false), (34, .int .i64 ((s.length : Nat) : Int)), (35, .int .i64 ((k : Nat) : Int))] w (by kernel_rfl) (.cons o21 (.cons o22 (.cons o23 (.cons o24 (.cons o25 .nil))))) ?_
              have o26 : (binOp .add 3 (.int .i64 ((k : Nat) : Int)) (.int .i64 1)).run Try.prog w = .ok (.int .i64 (((k + 1) : Nat) : Int)) w := f_add (by rw [show ((k : Nat) : Int) + 1 = (((k + 1) : Nat) : Int) by omega]; exact IntWalk.i64_in _ (by omega))
              refine GoS.run [0, 4, 5, 6, 7, 8, 34, 35] [.n, .n, .n, .h (.int .i64 (((k + 1) : Nat) : Int)), .n, .n, .n] _ [.code (csub (cd Try.f14) [1,1,1,1,1,0,1,0,0]), .inLoop (csub (cd Try.f14) [1,1,1,1,1,0,1,0,0]), .inBlock 1, .code (csub (cd Try.f14) [1,1,1,1,1,1])] [(0, .string (sb s)), (4, .bool true), (5, .int .i64 ((((10 * n) : Nat) : Int) + ((bl s k) - 48))), (6, .int .i64 (((d + 1) : Nat) : Int)), (7, .float .f64 4607182418800017408), (8, .bool false), (34, .int .i64 ((s.length : Nat) : Int)), (35, .int .i64 (((k + 1) : Nat) : Int))] w (by kernel_rfl) (.cons o26 .nil) ?_
              exact GoS.cast (by rw [show ((((10 * n) : Nat) : Int) + ((bl s k) - 48)) = ((10 * n + ((bl s k).toNat - 48) : Nat) : Int) by omega]; first | done | rfl) (ih (10 * n + ((bl s k).toNat - 48)) (d + 1) (k + 1) ((scan_digit (n := n) (d := d) (k := k) (by omega) (by omega) (by omega) (by unfold most; simp only [cond_true, cond_false]; omega)).symm.trans hF) (by omega) (by omega) (dec_up hn (by omega)) (by omega))
            ·
              have h20p : ¬ (((d : Nat) : Int) < 12) := of_decide_eq_false h20
              refine GoS.run [2, 3] [.n, .n, .n, .n, .n] _ [.code (csub (cd Try.f14) [1,1,1,1,1,0,1,0,0,1,1,0,0,1,1,0,1,1,1,1,1]), .inBlock 3, .inBlock 2, .code (csub (cd Try.f14) [1,1,1,1,1,0,1,0,0,1,1,1]), .inLoop (csub (cd Try.f14) [1,1,1,1,1,0,1,0,0]), .inBlock 1, .code (csub (cd Try.f14) [1,1,1,1,1,1])] [(2, .int .u64 0), (3, .int .i64 3)] w (by kernel_rfl) .nil ?_
              refine GoS.ret (fn := Try.f14) (v := (.tuple #[.int .u64 0, .int .i64 3])) Try.func14 (by kernel_rfl) ?_
              rw [hR]
              rw [scan_none (by omega) (by intro z; omega) (by unfold most; simp only [cond_true, cond_false]; omega)] at hF
              subst hF
              exact ⟨rfl, rfl⟩
          ·
            have h19p : ¬ ((bl s k) ≤ 57) := of_decide_eq_false h19
            refine GoS.run [0, 4, 5, 6, 7, 8, 10, 34, 35, 52] [.n, .n, .n, .n, .n, .n, .n, .n, .n, .n, .n, .n, .n, .n, .n] _ [.inRegion (cops (csub (cd Try.f14) [1,1,1,1,1,0,1,0,0,1,1,0,0,1,1,0,1,1,0])) [], .code (csub (cd Try.f14) [1,1,1,1,1,0,1,0,0,1,1,0,0,1,1,0,1,1,1]), .inBlock 3, .inBlock 2, .code (csub (cd Try.f14) [1,1,1,1,1,0,1,0,0,1,1,1]), .inLoop (csub (cd Try.f14) [1,1,1,1,1,0,1,0,0]), .inBlock 1, .code (csub (cd Try.f14) [1,1,1,1,1,1])] [(0, .string (sb s)), (4, .bool true), (5, .int .i64 ((n : Nat) : Int)), (6, .int .i64 ((d : Nat) : Int)), (7, .float .f64 4607182418800017408), (8, .bool false), (10, .int .u8 (bl s k)), (34, .int .i64 ((s.length : Nat) : Int)), (35, .int .i64 ((k : Nat) : Int)), (52, .bool false)] w (by kernel_rfl) .nil ?_
            refine GoS.run [2, 3] [.n, .n, .n, .n, .n, .n, .n] _ [.code (csub (cd Try.f14) [1,1,1,1,1,0,1,0,0,1,1,0,0,1,1,0,1,1,1,1,1]), .inBlock 3, .inBlock 2, .code (csub (cd Try.f14) [1,1,1,1,1,0,1,0,0,1,1,1]), .inLoop (csub (cd Try.f14) [1,1,1,1,1,0,1,0,0]), .inBlock 1, .code (csub (cd Try.f14) [1,1,1,1,1,1])] [(2, .int .u64 0), (3, .int .i64 3)] w (by kernel_rfl) .nil ?_
            refine GoS.ret (fn := Try.f14) (v := (.tuple #[.int .u64 0, .int .i64 3])) Try.func14 (by kernel_rfl) ?_
            rw [hR]
            rw [scan_none (by omega) (by intro z; omega) (by unfold most; simp only [cond_true, cond_false]; omega)] at hF
            subst hF
            exact ⟨rfl, rfl⟩
        ·
          have h18p : ¬ ((bl s k) ≥ 48) := of_decide_eq_false h18
          refine GoS.run [0, 4, 5, 6, 7, 8, 10, 34, 35, 52] [.n, .n, .n, .n, .n, .n, .n, .n, .n, .n, .n, .n, .n, .n, .n, .n, .n, .n, .n] _ [.inRegion (cops (csub (cd Try.f14) [1,1,1,1,1,0,1,0,0,1,1,0,0,1,1,0,1,1,0])) [], .code (csub (cd Try.f14) [1,1,1,1,1,0,1,0,0,1,1,0,0,1,1,0,1,1,1]), .inBlock 3, .inBlock 2, .code (csub (cd Try.f14) [1,1,1,1,1,0,1,0,0,1,1,1]), .inLoop (csub (cd Try.f14) [1,1,1,1,1,0,1,0,0]), .inBlock 1, .code (csub (cd Try.f14) [1,1,1,1,1,1])] [(0, .string (sb s)), (4, .bool true), (5, .int .i64 ((n : Nat) : Int)), (6, .int .i64 ((d : Nat) : Int)), (7, .float .f64 4607182418800017408), (8, .bool false), (10, .int .u8 (bl s k)), (34, .int .i64 ((s.length : Nat) : Int)), (35, .int .i64 ((k : Nat) : Int)), (52, .bool false)] w (by kernel_rfl) .nil ?_
          refine GoS.run [2, 3] [.n, .n, .n, .n, .n, .n, .n] _ [.code (csub (cd Try.f14) [1,1,1,1,1,0,1,0,0,1,1,0,0,1,1,0,1,1,1,1,1]), .inBlock 3, .inBlock 2, .code (csub (cd Try.f14) [1,1,1,1,1,0,1,0,0,1,1,1]), .inLoop (csub (cd Try.f14) [1,1,1,1,1,0,1,0,0]), .inBlock 1, .code (csub (cd Try.f14) [1,1,1,1,1,1])] [(2, .int .u64 0), (3, .int .i64 3)] w (by kernel_rfl) .nil ?_
          refine GoS.ret (fn := Try.f14) (v := (.tuple #[.int .u64 0, .int .i64 3])) Try.func14 (by kernel_rfl) ?_
          rw [hR]
          rw [scan_none (by omega) (by intro z; omega) (by unfold most; simp only [cond_true, cond_false]; omega)] at hF
          subst hF
          exact ⟨rfl, rfl⟩
    ·
      have h1p : ¬ (((k : Nat) : Int) < ((s.length : Nat) : Int)) := of_decide_eq_false h1
      refine GoS.run [4, 5, 7, 87] [.n, .n, .n, .n, .n, .n, .n] _ [.code (csub (cd Try.f14) [1,1,1,1,1,1,0,1]), .code (csub (cd Try.f14) [1,1,1,1,1,1,1])] [(4, .bool true), (5, .int .i64 ((n : Nat) : Int)), (7, .float .f64 4607182418800017408), (87, .bool (((d : Nat) : Int) == 0))] w (by kernel_rfl) .nil ?_
      refine GoS.cond (((d : Nat) : Int) == 0) [.code (csub (cd Try.f14) [1,1,1,1,1,1,0,1,0]), .code (csub (cd Try.f14) [1,1,1,1,1,1,1])] [.code (csub (cd Try.f14) [1,1,1,1,1,1,0,1,1]), .code (csub (cd Try.f14) [1,1,1,1,1,1,1])] (by kernel_rfl) (fun h2 => ?_) (fun h2 => ?_)
      ·
        have h2p : ((d : Nat) : Int) = 0 := eq_of_beq h2
        refine GoS.run [2, 3] [.n, .n, .n, .n, .n] _ [.code (csub (cd Try.f14) [1,1,1,1,1,1,0,1,0,1]), .code (csub (cd Try.f14) [1,1,1,1,1,1,1])] [(2, .int .u64 0), (3, .int .i64 3)] w (by kernel_rfl) .nil ?_
        refine GoS.ret (fn := Try.f14) (v := (.tuple #[.int .u64 0, .int .i64 3])) Try.func14 (by kernel_rfl) ?_
        rw [hR]
        rw [scan_end (by omega), if_pos (by omega)] at hF
        subst hF
        exact ⟨rfl, rfl⟩
      ·
        have h2p : ¬ (((d : Nat) : Int) = 0) := p_ne h2
        refine GoS.run [4, 5, 7] [.n] _ [.code (csub (cd Try.f14) [1,1,1,1,1,1,1])] [(4, .bool true), (5, .int .i64 ((n : Nat) : Int)), (7, .float .f64 4607182418800017408)] w (by kernel_rfl) .nil ?_
        have o3 : (binOp .quo 33 (.float .f64 (FloatKind.nearest .f64 ((n : Nat) : Int))) (.float .f64 4607182418800017408)).run Try.prog w = .ok (.float .f64 (ratN n (10 ^ 0))) w := f_fquo (sc0 ▸ ratN_some (a := n) (b := (10 ^ 0)) (by omega) (by first | decide | omega) (by first | decide | omega))
        refine GoS.run [93] [.n, .n, .n, .n, .n, .h (.float .f64 (ratN n (10 ^ 0))), .n, .n, .n, .n, .n, .n, .n, .n, .n, .n] _ [.inRegion (cops (csub (cd Try.f14) [1,1,1,1,1,1,1,1,0,1,0])) [1,2], .code (csub (cd Try.f14) [1,1,1,1,1,1,1,1,1])] [(93, .float .f64 (ratN n (10 ^ 0)))] w (by kernel_rfl) (.cons o3 .nil) ?_
        refine GoS.call [] 25 #[.float .f64 (ratN n (10 ^ 0)), .float .f64 13830554455654793216] (some 94) [.inRegion (cops (csub (cd Try.f14) [1,1,1,1,1,1,1,1,0,1,0])) [2], .code (csub (cd Try.f14) [1,1,1,1,1,1,1,1,1])] [] (by kernel_rfl) (csign_c (ratN n (10 ^ 0)) (by omega) w) ?_
        rintro _ _ ⟨rfl, rfl⟩
        refine ⟨_, rfl, ?_⟩
        refine GoS.run [2, 3] [.n, .n, .n, .n, .n, .n, .n, .n, .n] _ [.code (csub (cd Try.f14) [1,1,1,1,1,1,1,1,1,1])] [(2, .int .u64 ((((ratN n (10 ^ 0)) + 9223372036854775808) : Nat) : Int)), (3, .int .i64 0)] w (by kernel_rfl) .nil ?_
        refine GoS.ret (fn := Try.f14) (v := (.tuple #[.int .u64 ((((ratN n (10 ^ 0)) + 9223372036854775808) : Nat) : Int), .int .i64 0])) Try.func14 (by kernel_rfl) ?_
        rw [hR]
        rw [scan_end (by omega), if_neg (by omega)] at hF
        subst hF
        exact ⟨by simp only [valP, errP, cond_true, cond_false], rfl⟩

set_option maxHeartbeats 400000 in
theorem parse_Mp (s : List UInt8) (hs : s.length ≤ 9223372036854775807) (w : World) (X : Option (Nat × Nat)) (R : Ending → World → Prop) (hR : R = (fun e w' => e = .returned (.tuple #[.int .u64 ((valP X false : Nat) : Int), .int .i64 (errP X)]) ∧ w = w')) : ∀ (N : Nat) (n d k : Nat) (hF : scan true n d (s.drop k) = X) (hk : k ≤ s.length) (hd : d ≤ 3) (hn : n < 10 ^ (12 + d)) (hN : s.length - k < N), GoS Try.prog 14 R 97 [.code (csub (cd Try.f14) [1,1,1,1,1,0,1,0,0]), .inLoop (csub (cd Try.f14) [1,1,1,1,1,0,1,0,0]), .inBlock 1, .code (csub (cd Try.f14) [1,1,1,1,1,1])] [(0, .string (sb s)), (4, .bool false), (5, .int .i64 ((n : Nat) : Int)), (6, .int .i64 ((d : Nat) : Int)), (7, .float .f64 (near (10 ^ d))), (8, .bool true), (34, .int .i64 ((s.length : Nat) : Int)), (35, .int .i64 ((k : Nat) : Int))] w := by
  intro N
  induction N with
  | zero => intro n d k hF hk hd hn hN; exact absurd hN (Nat.not_lt_zero _)
  | succ N ih =>
    intro n d k hF hk hd hn hN
    have hb := bl_bd s k
    have hn2 : n < 10 ^ 15 := dec_bd hn (by omega)
    have e15 : (10 : Nat) ^ 15 = 1000000000000000 := by decide
    have hsb := sc_bd hd
    have hrl := ratN_lt (a := n) (b := 10 ^ d) (by omega) hsb.1 hsb.2
    refine GoS.run [0, 4, 5, 6, 7, 8, 34, 35, 36] [.n, .n, .n, .n, .n] _ [.code (csub (cd Try.f14) [1,1,1,1,1,0,1,0,0,1,0]), .code (csub (cd Try.f14) [1,1,1,1,1,0,1,0,0,1,1]), .inLoop (csub (cd Try.f14) [1,1,1,1,1,0,1,0,0]), .inBlock 1, .code (csub (cd Try.f14) [1,1,1,1,1,1])] [(0, .string (sb s)), (4, .bool false), (5, .int .i64 ((n : Nat) : Int)), (6, .int .i64 ((d : Nat) : Int)), (7, .float .f64 (near (10 ^ d))), (8, .bool true), (34, .int .i64 ((s.length : Nat) : Int)), (35, .int .i64 ((k : Nat) : Int)), (36, .bool (decide (((k : Nat) : Int) < ((s.length : Nat) : Int))))] w (by kernel_rfl) .nil ?_
    refine GoS.cond (decide (((k : Nat) : Int) < ((s.length : Nat) : Int))) [.code (csub (cd Try.f14) [1,1,1,1,1,0,1,0,0,1,0,0]), .code (csub (cd Try.f14) [1,1,1,1,1,0,1,0,0,1,1]), .inLoop (csub (cd Try.f14) [1,1,1,1,1,0,1,0,0]), .inBlock 1, .code (csub (cd Try.f14) [1,1,1,1,1,1])] [.code (csub (cd Try.f14) [1,1,1,1,1,0,1,0,0,1,0,1]), .code (csub (cd Try.f14) [1,1,1,1,1,0,1,0,0,1,1]), .inLoop (csub (cd Try.f14) [1,1,1,1,1,0,1,0,0]), .inBlock 1, .code (csub (cd Try.f14) [1,1,1,1,1,1])] (by kernel_rfl) (fun h1 => ?_) (fun h1 => ?_)
    ·
      have h1p : ((k : Nat) : Int) < ((s.length : Nat) : Int) := of_decide_eq_true h1
      refine GoS.run [0, 4, 5, 6, 7, 8, 34, 35] [.n] _ [.code (csub (cd Try.f14) [1,1,1,1,1,0,1,0,0,1,1]), .inLoop (csub (cd Try.f14) [1,1,1,1,1,0,1,0,0]), .inBlock 1, .code (csub (cd Try.f14) [1,1,1,1,1,1])] [(0, .string (sb s)), (4, .bool false), (5, .int .i64 ((n : Nat) : Int)), (6, .int .i64 ((d : Nat) : Int)), (7, .float .f64 (near (10 ^ d))), (8, .bool true), (34, .int .i64 ((s.length : Nat) : Int)), (35, .int .i64 ((k : Nat) : Int))] w (by kernel_rfl) .nil ?_
      have hb4 := bl_bd s k
      have o5 : (Instr.index 9 (.string (sb s)) (.int .i64 ((k : Nat) : Int))).run Try.prog w = .ok (.int .u8 (bl s k)) w := f_index k (by kernel_rfl) (by omega) (by omega)
      refine GoS.run [0, 4, 5, 6, 7, 8, 10, 34, 35, 44] [.n, .n, .n, .n, .n, .n, .n, .n, .n, .n, .n, .h (.int .u8 (bl s k)), .n, .n, .n, .n, .n, .n, .n, .n] _ [.inRegion (cops (csub (cd Try.f14) [1,1,1,1,1,0,1,0,0,1,1,0,0,1,1,0,0])) [3,4,5,6,7,8,9,10], .code (csub (cd Try.f14) [1,1,1,1,1,0,1,0,0,1,1,0,0,1,1,0,1]), .inBlock 3, .inBlock 2, .code (csub (cd Try.f14) [1,1,1,1,1,0,1,0,0,1,1,1]), .inLoop (csub (cd Try.f14) [1,1,1,1,1,0,1,0,0]), .inBlock 1, .code (csub (cd Try.f14) [1,1,1,1,1,1])] [(0, .string (sb s)), (4, .bool false), (5, .int .i64 ((n : Nat) : Int)), (6, .int .i64 ((d : Nat) : Int)), (7, .float .f64 (near (10 ^ d))), (8, .bool true), (10, .int .u8 (bl s k)), (34, .int .i64 ((s.length : Nat) : Int)), (35, .int .i64 ((k : Nat) : Int)), (44, .bool ((bl s k) == 46))] w (by kernel_rfl) (.cons o5 .nil) ?_
      refine GoS.fork 44 ((bl s k) == 46) (by kernel_rfl) (fun h6 => ?_) (fun h6 => ?_)
      ·
        have h6p : (bl s k) = 46 := eq_of_beq h6
        refine GoS.run [0, 4, 5, 6, 7, 8, 10, 34, 35, 41] [.n, .n, .n, .n, .n, .n, .n, .n] _ [.inRegion (cops (csub (cd Try.f14) [1,1,1,1,1,0,1,0,0,1,1,0,0,1,1,0,0])) [], .code (csub (cd Try.f14) [1,1,1,1,1,0,1,0,0,1,1,0,0,1,1,0,1]), .inBlock 3, .inBlock 2, .code (csub (cd Try.f14) [1,1,1,1,1,0,1,0,0,1,1,1]), .inLoop (csub (cd Try.f14) [1,1,1,1,1,0,1,0,0]), .inBlock 1, .code (csub (cd Try.f14) [1,1,1,1,1,1])] [(0, .string (sb s)), (4, .bool false), (5, .int .i64 ((n : Nat) : Int)), (6, .int .i64 ((d : Nat) : Int)), (7, .float .f64 (near (10 ^ d))), (8, .bool true), (10, .int .u8 (bl s k)), (34, .int .i64 ((s.length : Nat) : Int)), (35, .int .i64 ((k : Nat) : Int)), (41, .bool false)] w (by kernel_rfl) .nil ?_
        refine GoS.run [0, 4, 5, 6, 7, 8, 10, 34, 35, 55] [.n, .n, .n, .n, .n, .n, .n] _ [.inRegion (cops (csub (cd Try.f14) [1,1,1,1,1,0,1,0,0,1,1,0,0,1,1,0,1,1,0])) [3,4,5,6,7,8,9,10,11,12,13,14,15,16,17,18,19,20,21], .code (csub (cd Try.f14) [1,1,1,1,1,0,1,0,0,1,1,0,0,1,1,0,1,1,1]), .inBlock 3, .inBlock 2, .code (csub (cd Try.f14) [1,1,1,1,1,0,1,0,0,1,1,1]), .inLoop (csub (cd Try.f14) [1,1,1,1,1,0,1,0,0]), .inBlock 1, .code (csub (cd Try.f14) [1,1,1,1,1,1])] [(0, .string (sb s)), (4, .bool false), (5, .int .i64 ((n : Nat) : Int)), (6, .int .i64 ((d : Nat) : Int)), (7, .float .f64 (near (10 ^ d))), (8, .bool true), (10, .int .u8 (bl s k)), (34, .int .i64 ((s.length : Nat) : Int)), (35, .int .i64 ((k : Nat) : Int)), (55, .bool (decide ((bl s k) ≥ 48)))] w (by kernel_rfl) .nil ?_
        refine GoS.fork 55 (decide ((bl s k) ≥ 48)) (by kernel_rfl) (fun h7 => ?_) (fun h7 => ?_)
        ·
          have h7p : (bl s k) ≥ 48 := of_decide_eq_true h7
          refine GoS.run [0, 4, 5, 6, 7, 8, 10, 34, 35, 59] [.n, .n, .n, .n] _ [.inRegion (cops (csub (cd Try.f14) [1,1,1,1,1,0,1,0,0,1,1,0,0,1,1,0,1,1,0])) [7,8,9,10,11,12,13,14,15,16,17,18,19,20,21], .code (csub (cd Try.f14) [1,1,1,1,1,0,1,0,0,1,1,0,0,1,1,0,1,1,1]), .inBlock 3, .inBlock 2, .code (csub (cd Try.f14) [1,1,1,1,1,0,1,0,0,1,1,1]), .inLoop (csub (cd Try.f14) [1,1,1,1,1,0,1,0,0]), .inBlock 1, .code (csub (cd Try.f14) [1,1,1,1,1,1])] [(0, .string (sb s)), (4, .bool false), (5, .int .i64 ((n : Nat) : Int)), (6, .int .i64 ((d : Nat) : Int)), (7, .float .f64 (near (10 ^ d))), (8, .bool true), (10, .int .u8 (bl s k)), (34, .int .i64 ((s.length : Nat) : Int)), (35, .int .i64 ((k : Nat) : Int)), (59, .bool (decide ((bl s k) ≤ 57)))] w (by kernel_rfl) .nil ?_
          refine GoS.fork 59 (decide ((bl s k) ≤ 57)) (by kernel_rfl) (fun h8 => ?_) (fun h8 => ?_)
          ·
            have h8p : (bl s k) ≤ 57 := of_decide_eq_true h8
            refine GoS.run [0, 4, 5, 6, 7, 8, 10, 34, 35, 59, 65] [.n, .n, .n, .n, .n, .n] _ [.inRegion (cops (csub (cd Try.f14) [1,1,1,1,1,0,1,0,0,1,1,0,0,1,1,0,1,1,0])) [13,14,15,16,17,18,19,20,21], .code (csub (cd Try.f14) [1,1,1,1,1,0,1,0,0,1,1,0,0,1,1,0,1,1,1]), .inBlock 3, .inBlock 2, .code (csub (cd Try.f14) [1,1,1,1,1,0,1,0,0,1,1,1]), .inLoop (csub (cd Try.f14) [1,1,1,1,1,0,1,0,0]), .inBlock 1, .code (csub (cd Try.f14) [1,1,1,1,1,1])] [(0, .string (sb s)), (4, .bool false), (5, .int .i64 ((n : Nat) : Int)), (6, .int .i64 ((d : Nat) : Int)), (7, .float .f64 (near (10 ^ d))), (8, .bool true), (10, .int .u8 (bl s k)), (34, .int .i64 ((s.length : Nat) : Int)), (35, .int .i64 ((k : Nat) : Int)), (59, .bool true), (65, .bool (decide (((d : Nat) : Int) < 3)))] w (by kernel_rfl) .nil ?_
            refine GoS.fork 65 (decide (((d : Nat) : Int) < 3)) (by kernel_rfl) (fun h9 => ?_) (fun h9 => ?_)
            ·
              have h9p : ((d : Nat) : Int) < 3 := of_decide_eq_true h9
              refine GoS.run [0, 4, 5, 6, 7, 8, 10, 34, 35, 52] [.n, .n, .n, .n, .n, .n, .n, .n, .n] _ [.inRegion (cops (csub (cd Try.f14) [1,1,1,1,1,0,1,0,0,1,1,0,0,1,1,0,1,1,0])) [], .code (csub (cd Try.f14) [1,1,1,1,1,0,1,0,0,1,1,0,0,1,1,0,1,1,1]), .inBlock 3, .inBlock 2, .code (csub (cd Try.f14) [1,1,1,1,1,0,1,0,0,1,1,1]), .inLoop (csub (cd Try.f14) [1,1,1,1,1,0,1,0,0]), .inBlock 1, .code (csub (cd Try.f14) [1,1,1,1,1,1])] [(0, .string (sb s)), (4, .bool false), (5, .int .i64 ((n : Nat) : Int)), (6, .int .i64 ((d : Nat) : Int)), (7, .float .f64 (near (10 ^ d))), (8, .bool true), (10, .int .u8 (bl s k)), (34, .int .i64 ((s.length : Nat) : Int)), (35, .int .i64 ((k : Nat) : Int)), (52, .bool true)] w (by kernel_rfl) .nil ?_
              have o10 : (binOp .mul 3 (.int .i64 10) (.int .i64 ((n : Nat) : Int))).run Try.prog w = .ok (.int .i64 (((10 * n) : Nat) : Int)) w := f_mul (by rw [show 10 * ((n : Nat) : Int) = (((10 * n) : Nat) : Int) by omega]; exact IntWalk.i64_in _ (by omega))
              have o11 : (binOp .sub 5 (.int .u8 (bl s k)) (.int .u8 48)).run Try.prog w = .ok (.int .u8 ((bl s k) - 48)) w := f_sub (IntWalk.u8_in _ (by omega))
              have o12 : (convert 5 3 (.int .u8 ((bl s k) - 48))).run Try.prog w = .ok (.int .i64 ((bl s k) - 48)) w := f_conv (u := .int .u8) (by kernel_rfl) (by kernel_rfl) (IntWalk.i64_in _ (by omega))
              have o13 : (binOp .add 3 (.int .i64 (((10 * n) : Nat) : Int)) (.int .i64 ((bl s k) - 48))).run Try.prog w = .ok (.int .i64 ((((10 * n) : Nat) : Int) + ((bl s k) - 48))) w := f_add (IntWalk.i64_in _ (by omega))
              have o14 : (binOp .add 3 (.int .i64 ((d : Nat) : Int)) (.int .i64 1)).run Try.prog w = .ok (.int .i64 (((d + 1) : Nat) : Int)) w := f_add (by rw [show ((d : Nat) : Int) + 1 = (((d + 1) : Nat) : Int) by omega]; exact IntWalk.i64_in _ (by omega))
              have o15 : (binOp .mul 33 (.float .f64 (near (10 ^ d))) (.float .f64 4621819117588971520)).run Try.prog w = .ok (.float .f64 (near (10 ^ (d + 1)))) w := f_fmul (sc_up ⟨d, by omega⟩)
              have o16 : (binOp .add 3 (.int .i64 ((k : Nat) : Int)) (.int .i64 1)).run Try.prog w = .ok (.int .i64 (((k + 1) : Nat) : Int)) w := f_add (by rw [show ((k : Nat) : Int) + 1 = (((k + 1) : Nat) : Int) by omega]; exact IntWalk.i64_in _ (by omega))
              refine GoS.run [0, 4, 5, 6, 7, 8, 34, 35] [.n, .n, .n, .n, .n, .h (.int .i64 (((10 * n) : Nat) : Int)), .n, .h (.int .u8 ((bl s k) - 48)), .h (.int .i64 ((bl s k) - 48)), .h (.int .i64 ((((10 * n) : Nat) : Int) + ((bl s k) - 48))), .n, .n, .n, .n, .n, .h (.int .i64 (((d + 1) : Nat) : Int)), .n, .n, .n, .n, .n, .n, .n, .n, .n, .h (.float .f64 (near (10 ^ (d + 1)))), .n, .n, .n, .n, .n, .h (.int .i64 (((k + 1) : Nat) : Int)), .n, .n, .n] _ [.code (csub (cd Try.f14) [1,1,1,1,1,0,1,0,0]), .inLoop (csub (cd Try.f14) [1,1,1,1,1,0,1,0,0]), .inBlock 1, .code (csub (cd Try.f14) [1,1,1,1,1,1])] [(0, .string (sb s)), (4, .bool false), (5, .int .i64 ((((10 * n) : Nat) : Int) + ((bl s k) - 48))), (6, .int .i64 (((d + 1) : Nat) : Int)), (7, .float .f64 (near (10 ^ (d + 1)))), (8, .bool true), (34, .int .i64 ((s.length : Nat) : Int)), (35, .int .i64 (((k + 1) : Nat) : Int))] w (by kernel_rfl) (.cons o10 (.cons o11 (.cons o12 (.cons o13 (.cons o14 (.cons o15 (.cons o16 .nil))))))) ?_
              exact GoS.cast (by rw [show ((((10 * n) : Nat) : Int) + ((bl s k) - 48)) = ((10 * n + ((bl s k).toNat - 48) : Nat) : Int) by omega]; first | done | rfl) (ih (10 * n + ((bl s k).toNat - 48)) (d + 1) (k + 1) ((scan_digit (n := n) (d := d) (k := k) (by omega) (by omega) (by omega) (by unfold most; simp only [cond_true, cond_false]; omega)).symm.trans hF) (by omega) (by omega) (by rw [show 12 + (d + 1) = (12 + d) + 1 by omega]; exact dec_up hn (by omega)) (by omega))
            ·
              have h9p : ¬ (((d : Nat) : Int) < 3) := of_decide_eq_false h9
              refine GoS.run [0, 4, 5, 6, 7, 8, 10, 34, 35, 52] [.n, .n, .n, .n, .n, .n, .n, .n, .n] _ [.inRegion (cops (csub (cd Try.f14) [1,1,1,1,1,0,1,0,0,1,1,0,0,1,1,0,1,1,0])) [], .code (csub (cd Try.f14) [1,1,1,1,1,0,1,0,0,1,1,0,0,1,1,0,1,1,1]), .inBlock 3, .inBlock 2, .code (csub (cd Try.f14) [1,1,1,1,1,0,1,0,0,1,1,1]), .inLoop (csub (cd Try.f14) [1,1,1,1,1,0,1,0,0]), .inBlock 1, .code (csub (cd Try.f14) [1,1,1,1,1,1])] [(0, .string (sb s)), (4, .bool false), (5, .int .i64 ((n : Nat) : Int)), (6, .int .i64 ((d : Nat) : Int)), (7, .float .f64 (near (10 ^ d))), (8, .bool true), (10, .int .u8 (bl s k)), (34, .int .i64 ((s.length : Nat) : Int)), (35, .int .i64 ((k : Nat) : Int)), (52, .bool false)] w (by kernel_rfl) .nil ?_
              refine GoS.run [2, 3] [.n, .n, .n, .n, .n, .n, .n] _ [.code (csub (cd Try.f14) [1,1,1,1,1,0,1,0,0,1,1,0,0,1,1,0,1,1,1,1,1]), .inBlock 3, .inBlock 2, .code (csub (cd Try.f14) [1,1,1,1,1,0,1,0,0,1,1,1]), .inLoop (csub (cd Try.f14) [1,1,1,1,1,0,1,0,0]), .inBlock 1, .code (csub (cd Try.f14) [1,1,1,1,1,1])] [(2, .int .u64 0), (3, .int .i64 3)] w (by kernel_rfl) .nil ?_
              refine GoS.ret (fn := Try.f14) (v := (.tuple #[.int .u64 0, .int .i64 3])) Try.func14 (by kernel_rfl) ?_
              rw [hR]
              rw [scan_none (by omega) (by intro z; simp at z) (by unfold most; simp only [cond_true, cond_false]; omega)] at hF
              subst hF
              exact ⟨rfl, rfl⟩
          ·
            have h8p : ¬ ((bl s k) ≤ 57) := of_decide_eq_false h8
            refine GoS.run [0, 4, 5, 6, 7, 8, 10, 34, 35, 52] [.n, .n, .n, .n, .n, .n, .n, .n, .n, .n, .n, .n, .n, .n, .n] _ [.inRegion (cops (csub (cd Try.f14) [1,1,1,1,1,0,1,0,0,1,1,0,0,1,1,0,1,1,0])) [], .code (csub (cd Try.f14) [1,1,1,1,1,0,1,0,0,1,1,0,0,1,1,0,1,1,1]), .inBlock 3, .inBlock 2, .code (csub (cd Try.f14) [1,1,1,1,1,0,1,0,0,1,1,1]), .inLoop (csub (cd Try.f14) [1,1,1,1,1,0,1,0,0]), .inBlock 1, .code (csub (cd Try.f14) [1,1,1,1,1,1])] [(0, .string (sb s)), (4, .bool false), (5, .int .i64 ((n : Nat) : Int)), (6, .int .i64 ((d : Nat) : Int)), (7, .float .f64 (near (10 ^ d))), (8, .bool true), (10, .int .u8 (bl s k)), (34, .int .i64 ((s.length : Nat) : Int)), (35, .int .i64 ((k : Nat) : Int)), (52, .bool false)] w (by kernel_rfl) .nil ?_
            refine GoS.run [2, 3] [.n, .n, .n, .n, .n, .n, .n] _ [.code (csub (cd Try.f14) [1,1,1,1,1,0,1,0,0,1,1,0,0,1,1,0,1,1,1,1,1]), .inBlock 3, .inBlock 2, .code (csub (cd Try.f14) [1,1,1,1,1,0,1,0,0,1,1,1]), .inLoop (csub (cd Try.f14) [1,1,1,1,1,0,1,0,0]), .inBlock 1, .code (csub (cd Try.f14) [1,1,1,1,1,1])] [(2, .int .u64 0), (3, .int .i64 3)] w (by kernel_rfl) .nil ?_
            refine GoS.ret (fn := Try.f14) (v := (.tuple #[.int .u64 0, .int .i64 3])) Try.func14 (by kernel_rfl) ?_
            rw [hR]
            rw [scan_none (by omega) (by intro z; simp at z) (by unfold most; simp only [cond_true, cond_false]; omega)] at hF
            subst hF
            exact ⟨rfl, rfl⟩
        ·
          have h7p : ¬ ((bl s k) ≥ 48) := of_decide_eq_false h7
          refine GoS.run [0, 4, 5, 6, 7, 8, 10, 34, 35, 52] [.n, .n, .n, .n, .n, .n, .n, .n, .n, .n, .n, .n, .n, .n, .n, .n, .n, .n, .n] _ [.inRegion (cops (csub (cd Try.f14) [1,1,1,1,1,0,1,0,0,1,1,0,0,1,1,0,1,1,0])) [], .code (csub (cd Try.f14) [1,1,1,1,1,0,1,0,0,1,1,0,0,1,1,0,1,1,1]), .inBlock 3, .inBlock 2, .code (csub (cd Try.f14) [1,1,1,1,1,0,1,0,0,1,1,1]), .inLoop (csub (cd Try.f14) [1,1,1,1,1,0,1,0,0]), .inBlock 1, .code (csub (cd Try.f14) [1,1,1,1,1,1])] [(0, .string (sb s)), (4, .bool false), (5, .int .i64 ((n : Nat) : Int)), (6, .int .i64 ((d : Nat) : Int)), (7, .float .f64 (near (10 ^ d))), (8, .bool true), (10, .int .u8 (bl s k)), (34, .int .i64 ((s.length : Nat) : Int)), (35, .int .i64 ((k : Nat) : Int)), (52, .bool false)] w (by kernel_rfl) .nil ?_
          refine GoS.run [2, 3] [.n, .n, .n, .n, .n, .n, .n] _ [.code (csub (cd Try.f14) [1,1,1,1,1,0,1,0,0,1,1,0,0,1,1,0,1,1,1,1,1]), .inBlock 3, .inBlock 2, .code (csub (cd Try.f14) [1,1,1,1,1,0,1,0,0,1,1,1]), .inLoop (csub (cd Try.f14) [1,1,1,1,1,0,1,0,0]), .inBlock 1, .code (csub (cd Try.f14) [1,1,1,1,1,1])] [(2, .int .u64 0), (3, .int .i64 3)] w (by kernel_rfl) .nil ?_
          refine GoS.ret (fn := Try.f14) (v := (.tuple #[.int .u64 0, .int .i64 3])) Try.func14 (by kernel_rfl) ?_
          rw [hR]
          rw [scan_none (by omega) (by intro z; simp at z) (by unfold most; simp only [cond_true, cond_false]; omega)] at hF
          subst hF
          exact ⟨rfl, rfl⟩
      ·
        have h6p : ¬ ((bl s k) = 46) := p_ne h6
        refine GoS.run [0, 4, 5, 6, 7, 8, 10, 34, 35, 41] [.n, .n, .n, .n, .n, .n, .n, .n] _ [.inRegion (cops (csub (cd Try.f14) [1,1,1,1,1,0,1,0,0,1,1,0,0,1,1,0,0])) [], .code (csub (cd Try.f14) [1,1,1,1,1,0,1,0,0,1,1,0,0,1,1,0,1]), .inBlock 3, .inBlock 2, .code (csub (cd Try.f14) [1,1,1,1,1,0,1,0,0,1,1,1]), .inLoop (csub (cd Try.f14) [1,1,1,1,1,0,1,0,0]), .inBlock 1, .code (csub (cd Try.f14) [1,1,1,1,1,1])] [(0, .string (sb s)), (4, .bool false), (5, .int .i64 ((n : Nat) : Int)), (6, .int .i64 ((d : Nat) : Int)), (7, .float .f64 (near (10 ^ d))), (8, .bool true), (10, .int .u8 (bl s k)), (34, .int .i64 ((s.length : Nat) : Int)), (35, .int .i64 ((k : Nat) : Int)), (41, .bool false)] w (by kernel_rfl) .nil ?_
        refine GoS.run [0, 4, 5, 6, 7, 8, 10, 34, 35, 55] [.n, .n, .n, .n, .n, .n, .n] _ [.inRegion (cops (csub (cd Try.f14) [1,1,1,1,1,0,1,0,0,1,1,0,0,1,1,0,1,1,0])) [3,4,5,6,7,8,9,10,11,12,13,14,15,16,17,18,19,20,21], .code (csub (cd Try.f14) [1,1,1,1,1,0,1,0,0,1,1,0,0,1,1,0,1,1,1]), .inBlock 3, .inBlock 2, .code (csub (cd Try.f14) [1,1,1,1,1,0,1,0,0,1,1,1]), .inLoop (csub (cd Try.f14) [1,1,1,1,1,0,1,0,0]), .inBlock 1, .code (csub (cd Try.f14) [1,1,1,1,1,1])] [(0, .string (sb s)), (4, .bool false), (5, .int .i64 ((n : Nat) : Int)), (6, .int .i64 ((d : Nat) : Int)), (7, .float .f64 (near (10 ^ d))), (8, .bool true), (10, .int .u8 (bl s k)), (34, .int .i64 ((s.length : Nat) : Int)), (35, .int .i64 ((k : Nat) : Int)), (55, .bool (decide ((bl s k) ≥ 48)))] w (by kernel_rfl) .nil ?_
        refine GoS.fork 55 (decide ((bl s k) ≥ 48)) (by kernel_rfl) (fun h17 => ?_) (fun h17 => ?_)
        ·
          have h17p : (bl s k) ≥ 48 := of_decide_eq_true h17
          refine GoS.run [0, 4, 5, 6, 7, 8, 10, 34, 35, 59] [.n, .n, .n, .n] _ [.inRegion (cops (csub (cd Try.f14) [1,1,1,1,1,0,1,0,0,1,1,0,0,1,1,0,1,1,0])) [7,8,9,10,11,12,13,14,15,16,17,18,19,20,21], .code (csub (cd Try.f14) [1,1,1,1,1,0,1,0,0,1,1,0,0,1,1,0,1,1,1]), .inBlock 3, .inBlock 2, .code (csub (cd Try.f14) [1,1,1,1,1,0,1,0,0,1,1,1]), .inLoop (csub (cd Try.f14) [1,1,1,1,1,0,1,0,0]), .inBlock 1, .code (csub (cd Try.f14) [1,1,1,1,1,1])] [(0, .string (sb s)), (4, .bool false), (5, .int .i64 ((n : Nat) : Int)), (6, .int .i64 ((d : Nat) : Int)), (7, .float .f64 (near (10 ^ d))), (8, .bool true), (10, .int .u8 (bl s k)), (34, .int .i64 ((s.length : Nat) : Int)), (35, .int .i64 ((k : Nat) : Int)), (59, .bool (decide ((bl s k) ≤ 57)))] w (by kernel_rfl) .nil ?_
          refine GoS.fork 59 (decide ((bl s k) ≤ 57)) (by kernel_rfl) (fun h18 => ?_) (fun h18 => ?_)
          ·
            have h18p : (bl s k) ≤ 57 := of_decide_eq_true h18
            refine GoS.run [0, 4, 5, 6, 7, 8, 10, 34, 35, 59, 65] [.n, .n, .n, .n, .n, .n] _ [.inRegion (cops (csub (cd Try.f14) [1,1,1,1,1,0,1,0,0,1,1,0,0,1,1,0,1,1,0])) [13,14,15,16,17,18,19,20,21], .code (csub (cd Try.f14) [1,1,1,1,1,0,1,0,0,1,1,0,0,1,1,0,1,1,1]), .inBlock 3, .inBlock 2, .code (csub (cd Try.f14) [1,1,1,1,1,0,1,0,0,1,1,1]), .inLoop (csub (cd Try.f14) [1,1,1,1,1,0,1,0,0]), .inBlock 1, .code (csub (cd Try.f14) [1,1,1,1,1,1])] [(0, .string (sb s)), (4, .bool false), (5, .int .i64 ((n : Nat) : Int)), (6, .int .i64 ((d : Nat) : Int)), (7, .float .f64 (near (10 ^ d))), (8, .bool true), (10, .int .u8 (bl s k)), (34, .int .i64 ((s.length : Nat) : Int)), (35, .int .i64 ((k : Nat) : Int)), (59, .bool true), (65, .bool (decide (((d : Nat) : Int) < 3)))] w (by kernel_rfl) .nil ?_
            refine GoS.fork 65 (decide (((d : Nat) : Int) < 3)) (by kernel_rfl) (fun h19 => ?_) (fun h19 => ?_)
            ·
              have h19p : ((d : Nat) : Int) < 3 := of_decide_eq_true h19
              refine GoS.run [0, 4, 5, 6, 7, 8, 10, 34, 35, 52] [.n, .n, .n, .n, .n, .n, .n, .n, .n] _ [.inRegion (cops (csub (cd Try.f14) [1,1,1,1,1,0,1,0,0,1,1,0,0,1,1,0,1,1,0])) [], .code (csub (cd Try.f14) [1,1,1,1,1,0,1,0,0,1,1,0,0,1,1,0,1,1,1]), .inBlock 3, .inBlock 2, .code (csub (cd Try.f14) [1,1,1,1,1,0,1,0,0,1,1,1]), .inLoop (csub (cd Try.f14) [1,1,1,1,1,0,1,0,0]), .inBlock 1, .code (csub (cd Try.f14) [1,1,1,1,1,1])] [(0, .string (sb s)), (4, .bool false), (5, .int .i64 ((n : Nat) : Int)), (6, .int .i64 ((d : Nat) : Int)), (7, .float .f64 (near (10 ^ d))), (8, .bool true), (10, .int .u8 (bl s k)), (34, .int .i64 ((s.length : Nat) : Int)), (35, .int .i64 ((k : Nat) : Int)), (52, .bool true)] w (by kernel_rfl) .nil ?_
              have o20 : (binOp .mul 3 (.int .i64 10) (.int .i64 ((n : Nat) : Int))).run Try.prog w = .ok (.int .i64 (((10 * n) : Nat) : Int)) w := f_mul (by rw [show 10 * ((n : Nat) : Int) = (((10 * n) : Nat) : Int) by omega]; exact IntWalk.i64_in _ (by omega))
              have o21 : (binOp .sub 5 (.int .u8 (bl s k)) (.int .u8 48)).run Try.prog w = .ok (.int .u8 ((bl s k) - 48)) w := f_sub (IntWalk.u8_in _ (by omega))
              have o22 : (convert 5 3 (.int .u8 ((bl s k) - 48))).run Try.prog w = .ok (.int .i64 ((bl s k) - 48)) w := f_conv (u := .int .u8) (by kernel_rfl) (by kernel_rfl) (IntWalk.i64_in _ (by omega))
              have o23 : (binOp .add 3 (.int .i64 (((10 * n) : Nat) : Int)) (.int .i64 ((bl s k) - 48))).run Try.prog w = .ok (.int .i64 ((((10 * n) : Nat) : Int) + ((bl s k) - 48))) w := f_add (IntWalk.i64_in _ (by omega))
              have o24 : (binOp .add 3 (.int .i64 ((d : Nat) : Int)) (.int .i64 1)).run Try.prog w = .ok (.int .i64 (((d + 1) : Nat) : Int)) w := f_add (by rw [show ((d : Nat) : Int) + 1 = (((d + 1) : Nat) : Int) by omega]; exact IntWalk.i64_in _ (by omega))
              have o25 : (binOp .mul 33 (.float .f64 (near (10 ^ d))) (.float .f64 4621819117588971520)).run Try.prog w = .ok (.float .f64 (near (10 ^ (d + 1)))) w := f_fmul (sc_up ⟨d, by omega⟩)
              have o26 : (binOp .add 3 (.int .i64 ((k : Nat) : Int)) (.int .i64 1)).run Try.prog w = .ok (.int .i64 (((k + 1) : Nat) : Int)) w := f_add (by rw [show ((k : Nat) : Int) + 1 = (((k + 1) : Nat) : Int) by omega]; exact IntWalk.i64_in _ (by omega))
              refine GoS.run [0, 4, 5, 6, 7, 8, 34, 35] [.n, .n, .n, .n, .n, .h (.int .i64 (((10 * n) : Nat) : Int)), .n, .h (.int .u8 ((bl s k) - 48)), .h (.int .i64 ((bl s k) - 48)), .h (.int .i64 ((((10 * n) : Nat) : Int) + ((bl s k) - 48))), .n, .n, .n, .n, .n, .h (.int .i64 (((d + 1) : Nat) : Int)), .n, .n, .n, .n, .n, .n, .n, .n, .n, .h (.float .f64 (near (10 ^ (d + 1)))), .n, .n, .n, .n, .n, .h (.int .i64 (((k + 1) : Nat) : Int)), .n, .n, .n] _ [.code (csub (cd Try.f14) [1,1,1,1,1,0,1,0,0]), .inLoop (csub (cd Try.f14) [1,1,1,1,1,0,1,0,0]), .inBlock 1, .code (csub (cd Try.f14) [1,1,1,1,1,1])] [(0, .string (sb s)), (4, .bool false), (5, .int .i64 ((((10 * n) : Nat) : Int) + ((bl s k) - 48))), (6, .int .i64 (((d + 1) : Nat) : Int)), (7, .float .f64 (near (10 ^ (d + 1)))), (8, .bool true), (34, .int .i64 ((s.length : Nat) : Int)), (35, .int .i64 (((k + 1) : Nat) : Int))] w (by kernel_rfl) (.cons o20 (.cons o21 (.cons o22 (.cons o23 (.cons o24 (.cons o25 (.cons o26 .nil))))))) ?_
              exact GoS.cast (by rw [show ((((10 * n) : Nat) : Int) + ((bl s k) - 48)) = ((10 * n + ((bl s k).toNat - 48) : Nat) : Int) by omega]; first | done | rfl) (ih (10 * n + ((bl s k).toNat - 48)) (d + 1) (k + 1) ((scan_digit (n := n) (d := d) (k := k) (by omega) (by omega) (by omega) (by unfold most; simp only [cond_true, cond_false]; omega)).symm.trans hF) (by omega) (by omega) (by rw [show 12 + (d + 1) = (12 + d) + 1 by omega]; exact dec_up hn (by omega)) (by omega))
            ·
              have h19p : ¬ (((d : Nat) : Int) < 3) := of_decide_eq_false h19
              refine GoS.run [0, 4, 5, 6, 7, 8, 10, 34, 35, 52] [.n, .n, .n, .n, .n, .n, .n, .n, .n] _ [.inRegion (cops (csub (cd Try.f14) [1,1,1,1,1,0,1,0,0,1,1,0,0,1,1,0,1,1,0])) [], .code (csub (cd Try.f14) [1,1,1,1,1,0,1,0,0,1,1,0,0,1,1,0,1,1,1]), .inBlock 3, .inBlock 2, .code (csub (cd Try.f14) [1,1,1,1,1,0,1,0,0,1,1,1]), .inLoop (csub (cd Try.f14) [1,1,1,1,1,0,1,0,0]), .inBlock 1, .code (csub (cd Try.f14) [1,1,1,1,1,1])] [(0, .string (sb s)), (4, .bool false), (5, .int .i64 ((n : Nat) : Int)), (6, .int .i64 ((d : Nat) : Int)), (7, .float .f64 (near (10 ^ d))), (8, .bool true), (10, .int .u8 (bl s k)), (34, .int .i64 ((s.length : Nat) : Int)), (35, .int .i64 ((k : Nat) : Int)), (52, .bool false)] w (by kernel_rfl) .nil ?_
              refine GoS.run [2, 3] [.n, .n, .n, .n, .n, .n, .n] _ [.code (csub (cd Try.f14) [1,1,1,1,1,0,1,0,0,1,1,0,0,1,1,0,1,1,1,1,1]), .inBlock 3, .inBlock 2, .code (csub (cd Try.f14) [1,1,1,1,1,0,1,0,0,1,1,1]), .inLoop (csub (cd Try.f14) [1,1,1,1,1,0,1,0,0]), .inBlock 1, .code (csub (cd Try.f14) [1,1,1,1,1,1])] [(2, .int .u64 0), (3, .int .i64 3)] w (by kernel_rfl) .nil ?_
              refine GoS.ret (fn := Try.f14) (v := (.tuple #[.int .u64 0, .int .i64 3])) Try.func14 (by kernel_rfl) ?_
              rw [hR]
              rw [scan_none (by omega) (by intro z; simp at z) (by unfold most; simp only [cond_true, cond_false]; omega)] at hF
              subst hF
              exact ⟨rfl, rfl⟩
          ·
            have h18p : ¬ ((bl s k) ≤ 57) := of_decide_eq_false h18
            refine GoS.run [0, 4, 5, 6, 7, 8, 10, 34, 35, 52] [.n, .n, .n, .n, .n, .n, .n, .n, .n, .n, .n, .n, .n, .n, .n] _ [.inRegion (cops (csub (cd Try.f14) [1,1,1,1,1,0,1,0,0,1,1,0,0,1,1,0,1,1,0])) [], .code (csub (cd Try.f14) [1,1,1,1,1,0,1,0,0,1,1,0,0,1,1,0,1,1,1]), .inBlock 3, .inBlock 2, .code (csub (cd Try.f14) [1,1,1,1,1,0,1,0,0,1,1,1]), .inLoop (csub (cd Try.f14) [1,1,1,1,1,0,1,0,0]), .inBlock 1, .code (csub (cd Try.f14) [1,1,1,1,1,1])] [(0, .string (sb s)), (4, .bool false), (5, .int .i64 ((n : Nat) : Int)), (6, .int .i64 ((d : Nat) : Int)), (7, .float .f64 (near (10 ^ d))), (8, .bool true), (10, .int .u8 (bl s k)), (34, .int .i64 ((s.length : Nat) : Int)), (35, .int .i64 ((k : Nat) : Int)), (52, .bool false)] w (by kernel_rfl) .nil ?_
            refine GoS.run [2, 3] [.n, .n, .n, .n, .n, .n, .n] _ [.code (csub (cd Try.f14) [1,1,1,1,1,0,1,0,0,1,1,0,0,1,1,0,1,1,1,1,1]), .inBlock 3, .inBlock 2, .code (csub (cd Try.f14) [1,1,1,1,1,0,1,0,0,1,1,1]), .inLoop (csub (cd Try.f14) [1,1,1,1,1,0,1,0,0]), .inBlock 1, .code (csub (cd Try.f14) [1,1,1,1,1,1])] [(2, .int .u64 0), (3, .int .i64 3)] w (by kernel_rfl) .nil ?_
            refine GoS.ret (fn := Try.f14) (v := (.tuple #[.int .u64 0, .int .i64 3])) Try.func14 (by kernel_rfl) ?_
            rw [hR]
            rw [scan_none (by omega) (by intro z; simp at z) (by unfold most; simp only [cond_true, cond_false]; omega)] at hF
            subst hF
            exact ⟨rfl, rfl⟩
        ·
          have h17p : ¬ ((bl s k) ≥ 48) := of_decide_eq_false h17
          refine GoS.run [0, 4, 5, 6, 7, 8, 10, 34, 35, 52] [.n, .n, .n, .n, .n, .n, .n, .n, .n, .n, .n, .n, .n, .n, .n, .n, .n, .n, .n] _ [.inRegion (cops (csub (cd Try.f14) [1,1,1,1,1,0,1,0,0,1,1,0,0,1,1,0,1,1,0])) [], .code (csub (cd Try.f14) [1,1,1,1,1,0,1,0,0,1,1,0,0,1,1,0,1,1,1]), .inBlock 3, .inBlock 2, .code (csub (cd Try.f14) [1,1,1,1,1,0,1,0,0,1,1,1]), .inLoop (csub (cd Try.f14) [1,1,1,1,1,0,1,0,0]), .inBlock 1, .code (csub (cd Try.f14) [1,1,1,1,1,1])] [(0, .string (sb s)), (4, .bool false), (5, .int .i64 ((n : Nat) : Int)), (6, .int .i64 ((d : Nat) : Int)), (7, .float .f64 (near (10 ^ d))), (8, .bool true), (10, .int .u8 (bl s k)), (34, .int .i64 ((s.length : Nat) : Int)), (35, .int .i64 ((k : Nat) : Int)), (52, .bool false)] w (by kernel_rfl) .nil ?_
          refine GoS.run [2, 3] [.n, .n, .n, .n, .n, .n, .n] _ [.code (csub (cd Try.f14) [1,1,1,1,1,0,1,0,0,1,1,0,0,1,1,0,1,1,1,1,1]), .inBlock 3, .inBlock 2, .code (csub (cd Try.f14) [1,1,1,1,1,0,1,0,0,1,1,1]), .inLoop (csub (cd Try.f14) [1,1,1,1,1,0,1,0,0]), .inBlock 1, .code (csub (cd Try.f14) [1,1,1,1,1,1])] [(2, .int .u64 0), (3, .int .i64 3)] w (by kernel_rfl) .nil ?_
          refine GoS.ret (fn := Try.f14) (v := (.tuple #[.int .u64 0, .int .i64 3])) Try.func14 (by kernel_rfl) ?_
          rw [hR]
          rw [scan_none (by omega) (by intro z; simp at z) (by unfold most; simp only [cond_true, cond_false]; omega)] at hF
          subst hF
          exact ⟨rfl, rfl⟩
    ·
      have h1p : ¬ (((k : Nat) : Int) < ((s.length : Nat) : Int)) := of_decide_eq_false h1
      refine GoS.run [4, 5, 7, 87] [.n, .n, .n, .n, .n, .n, .n] _ [.code (csub (cd Try.f14) [1,1,1,1,1,1,0,1]), .code (csub (cd Try.f14) [1,1,1,1,1,1,1])] [(4, .bool false), (5, .int .i64 ((n : Nat) : Int)), (7, .float .f64 (near (10 ^ d))), (87, .bool (((d : Nat) : Int) == 0))] w (by kernel_rfl) .nil ?_
      refine GoS.cond (((d : Nat) : Int) == 0) [.code (csub (cd Try.f14) [1,1,1,1,1,1,0,1,0]), .code (csub (cd Try.f14) [1,1,1,1,1,1,1])] [.code (csub (cd Try.f14) [1,1,1,1,1,1,0,1,1]), .code (csub (cd Try.f14) [1,1,1,1,1,1,1])] (by kernel_rfl) (fun h2 => ?_) (fun h2 => ?_)
      ·
        have h2p : ((d : Nat) : Int) = 0 := eq_of_beq h2
        refine GoS.run [2, 3] [.n, .n, .n, .n, .n] _ [.code (csub (cd Try.f14) [1,1,1,1,1,1,0,1,0,1]), .code (csub (cd Try.f14) [1,1,1,1,1,1,1])] [(2, .int .u64 0), (3, .int .i64 3)] w (by kernel_rfl) .nil ?_
        refine GoS.ret (fn := Try.f14) (v := (.tuple #[.int .u64 0, .int .i64 3])) Try.func14 (by kernel_rfl) ?_
        rw [hR]
        rw [scan_end (by omega), if_pos (by omega)] at hF
        subst hF
        exact ⟨rfl, rfl⟩
      ·
        have h2p : ¬ (((d : Nat) : Int) = 0) := p_ne h2
        refine GoS.run [4, 5, 7] [.n] _ [.code (csub (cd Try.f14) [1,1,1,1,1,1,1])] [(4, .bool false), (5, .int .i64 ((n : Nat) : Int)), (7, .float .f64 (near (10 ^ d)))] w (by kernel_rfl) .nil ?_
        have o3 : (binOp .quo 33 (.float .f64 (FloatKind.nearest .f64 ((n : Nat) : Int))) (.float .f64 (near (10 ^ d)))).run Try.prog w = .ok (.float .f64 (ratN n (10 ^ d))) w := f_fquo (ratN_some (a := n) (b := (10 ^ d)) (by omega) (by first | decide | omega) (by first | decide | omega))
        refine GoS.run [2, 3] [.n, .n, .n, .n, .n, .h (.float .f64 (ratN n (10 ^ d))), .n, .n, .n, .n, .n, .n, .n, .n, .n, .n, .n, .n, .n, .n, .n, .n] _ [.code (csub (cd Try.f14) [1,1,1,1,1,1,1,1,1,1])] [(2, .int .u64 (((ratN n (10 ^ d)) : Nat) : Int)), (3, .int .i64 0)] w (by kernel_rfl) (.cons o3 .nil) ?_
        refine GoS.ret (fn := Try.f14) (v := (.tuple #[.int .u64 (((ratN n (10 ^ d)) : Nat) : Int), .int .i64 0])) Try.func14 (by kernel_rfl) ?_
        rw [hR]
        rw [scan_end (by omega), if_neg (by omega)] at hF
        subst hF
        exact ⟨by simp only [valP, errP, cond_true, cond_false, Nat.add_zero], rfl⟩

set_option maxHeartbeats 400000 in
theorem parse_Lp (s : List UInt8) (hs : s.length ≤ 9223372036854775807) (w : World) (X : Option (Nat × Nat)) (R : Ending → World → Prop) (hR : R = (fun e w' => e = .returned (.tuple #[.int .u64 ((valP X false : Nat) : Int), .int .i64 (errP X)]) ∧ w = w')) : ∀ (N : Nat) (n d k : Nat) (hF : scan false n d (s.drop k) = X) (hk : k ≤ s.length) (hd : d ≤ 12) (hn : n < 10 ^ d) (hN : s.length - k < N), GoS Try.prog 14 R 97 [.code (csub (cd Try.f14) [1,1,1,1,1,0,1,0,0]), .inLoop (csub (cd Try.f14) [1,1,1,1,1,0,1,0,0]), .inBlock 1, .code (csub (cd Try.f14) [1,1,1,1,1,1])] [(0, .string (sb s)), (4, .bool false), (5, .int .i64 ((n : Nat) : Int)), (6, .int .i64 ((d : Nat) : Int)), (7, .float .f64 4607182418800017408), (8, .bool false), (34, .int .i64 ((s.length : Nat) : Int)), (35, .int .i64 ((k : Nat) : Int))] w := by
  intro N
  induction N with
  | zero => intro n d k hF hk hd hn hN; exact absurd hN (Nat.not_lt_zero _)
  | succ N ih =>
    intro n d k hF hk hd hn hN
    have hb := bl_bd s k
    have hn2 : n < 10 ^ 15 := dec_bd hn (by omega)
    have e15 : (10 : Nat) ^ 15 = 1000000000000000 := by decide
    have hrl := ratN_lt (a := n) (b := 10 ^ 0) (by omega) (by decide) (by decide)
    refine GoS.run [0, 4, 5, 6, 7, 8, 34, 35, 36] [.n, .n, .n, .n, .n] _ [.code (csub (cd Try.f14) [1,1,1,1,1,0,1,0,0,1,0]), .code (csub (cd Try.f14) [1,1,1,1,1,0,1,0,0,1,1]), .inLoop (csub (cd Try.f14) [1,1,1,1,1,0,1,0,0]), .inBlock 1, .code (csub (cd Try.f14) [1,1,1,1,1,1])] [(0, .string (sb s)), (4, .bool false), (5, .int .i64 ((n : Nat) : Int)), (6, .int .i64 ((d : Nat) : Int)), (7, .float .f64 4607182418800017408), (8, .bool false), (34, .int .i64 ((s.length : Nat) : Int)), (35, .int .i64 ((k : Nat) : Int)), (36, .bool (decide (((k : Nat) : Int) < ((s.length : Nat) : Int))))] w (by kernel_rfl) .nil ?_
    refine GoS.cond (decide (((k : Nat) : Int) < ((s.length : Nat) : Int))) [.code (csub (cd Try.f14) [1,1,1,1,1,0,1,0,0,1,0,0]), .code (csub (cd Try.f14) [1,1,1,1,1,0,1,0,0,1,1]), .inLoop (csub (cd Try.f14) [1,1,1,1,1,0,1,0,0]), .inBlock 1, .code (csub (cd Try.f14) [1,1,1,1,1,1])] [.code (csub (cd Try.f14) [1,1,1,1,1,0,1,0,0,1,0,1]), .code (csub (cd Try.f14) [1,1,1,1,1,0,1,0,0,1,1]), .inLoop (csub (cd Try.f14) [1,1,1,1,1,0,1,0,0]), .inBlock 1, .code (csub (cd Try.f14) [1,1,1,1,1,1])] (by kernel_rfl) (fun h1 => ?_) (fun h1 => ?_)
    ·
      have h1p : ((k : Nat) : Int) < ((s.length : Nat) : Int) := of_decide_eq_true h1
      refine GoS.run [0, 4, 5, 6, 7, 8, 34, 35] [.n] _ [.code (csub (cd Try.f14) [1,1,1,1,1,0,1,0,0,1,1]), .inLoop (csub (cd Try.f14) [1,1,1,1,1,0,1,0,0]), .inBlock 1, .code (csub (cd Try.f14) [1,1,1,1,1,1])] [(0, .string (sb s)), (4, .bool false), (5, .int .i64 ((n : Nat) : Int)), (6, .int .i64 ((d : Nat) : Int)), (7, .float .f64 4607182418800017408), (8, .bool false), (34, .int .i64 ((s.length : Nat) : Int)), (35, .int .i64 ((k : Nat) : Int))] w (by kernel_rfl) .nil ?_
      have hb4 := bl_bd s k
      have o5 : (Instr.index 9 (.string (sb s)) (.int .i64 ((k : Nat) : Int))).run Try.prog w = .ok (.int .u8 (bl s k)) w := f_index k (by kernel_rfl) (by omega) (by omega)
      refine GoS.run [0, 4, 5, 6, 7, 8, 10, 34, 35, 44] [.n, .n, .n, .n, .n, .n, .n, .n, .n, .n, .n, .h (.int .u8 (bl s k)), .n, .n, .n, .n, .n, .n, .n, .n] _ [.inRegion (cops (csub (cd Try.f14) [1,1,1,1,1,0,1,0,0,1,1,0,0,1,1,0,0])) [3,4,5,6,7,8,9,10], .code (csub (cd Try.f14) [1,1,1,1,1,0,1,0,0,1,1,0,0,1,1,0,1]), .inBlock 3, .inBlock 2, .code (csub (cd Try.f14) [1,1,1,1,1,0,1,0,0,1,1,1]), .inLoop (csub (cd Try.f14) [1,1,1,1,1,0,1,0,0]), .inBlock 1, .code (csub (cd Try.f14) [1,1,1,1,1,1])] [(0, .string (sb s)), (4, .bool false), (5, .int .i64 ((n : Nat) : Int)), (6, .int .i64 ((d : Nat) : Int)), (7, .float .f64 4607182418800017408), (8, .bool false), (10, .int .u8 (bl s k)), (34, .int .i64 ((s.length : Nat) : Int)), (35, .int .i64 ((k : Nat) : Int)), (44, .bool ((bl s k) == 46))] w (by kernel_rfl) (.cons o5 .nil) ?_
      refine GoS.fork 44 ((bl s k) == 46) (by kernel_rfl) (fun h6 => ?_) (fun h6 => ?_)
      ·
        have h6p : (bl s k) = 46 := eq_of_beq h6
        refine GoS.run [0, 4, 5, 6, 7, 8, 10, 34, 35, 41] [.n, .n, .n, .n, .n, .n, .n, .n] _ [.inRegion (cops (csub (cd Try.f14) [1,1,1,1,1,0,1,0,0,1,1,0,0,1,1,0,0])) [], .code (csub (cd Try.f14) [1,1,1,1,1,0,1,0,0,1,1,0,0,1,1,0,1]), .inBlock 3, .inBlock 2, .code (csub (cd Try.f14) [1,1,1,1,1,0,1,0,0,1,1,1]), .inLoop (csub (cd Try.f14) [1,1,1,1,1,0,1,0,0]), .inBlock 1, .code (csub (cd Try.f14) [1,1,1,1,1,1])] [(0, .string (sb s)), (4, .bool false), (5, .int .i64 ((n : Nat) : Int)), (6, .int .i64 ((d : Nat) : Int)), (7, .float .f64 4607182418800017408), (8, .bool false), (10, .int .u8 (bl s k)), (34, .int .i64 ((s.length : Nat) : Int)), (35, .int .i64 ((k : Nat) : Int)), (41, .bool (decide (((d : Nat) : Int) > 0)))] w (by kernel_rfl) .nil ?_
        refine GoS.run [0, 4, 5, 6, 7, 8, 10, 34, 35, 41] [.n] _ [.code (csub (cd Try.f14) [1,1,1,1,1,0,1,0,0,1,1,0,0,1,1,0,1]), .inBlock 3, .inBlock 2, .code (csub (cd Try.f14) [1,1,1,1,1,0,1,0,0,1,1,1]), .inLoop (csub (cd Try.f14) [1,1,1,1,1,0,1,0,0]), .inBlock 1, .code (csub (cd Try.f14) [1,1,1,1,1,1])] [(0, .string (sb s)), (4, .bool false), (5, .int .i64 ((n : Nat) : Int)), (6, .int .i64 ((d : Nat) : Int)), (7, .float .f64 4607182418800017408), (8, .bool false), (10, .int .u8 (bl s k)), (34, .int .i64 ((s.length : Nat) : Int)), (35, .int .i64 ((k : Nat) : Int)), (41, .bool (decide (((d : Nat) : Int) > 0)))] w (by kernel_rfl) .nil ?_
        refine GoS.cond (decide (((d : Nat) : Int) > 0)) [.code (csub (cd Try.f14) [1,1,1,1,1,0,1,0,0,1,1,0,0,1,1,0,1,0]), .inBlock 3, .inBlock 2, .code (csub (cd Try.f14) [1,1,1,1,1,0,1,0,0,1,1,1]), .inLoop (csub (cd Try.f14) [1,1,1,1,1,0,1,0,0]), .inBlock 1, .code (csub (cd Try.f14) [1,1,1,1,1,1])] [.code (csub (cd Try.f14) [1,1,1,1,1,0,1,0,0,1,1,0,0,1,1,0,1,1]), .inBlock 3, .inBlock 2, .code (csub (cd Try.f14) [1,1,1,1,1,0,1,0,0,1,1,1]), .inLoop (csub (cd Try.f14) [1,1,1,1,1,0,1,0,0]), .inBlock 1, .code (csub (cd Try.f14) [1,1,1,1,1,1])] (by kernel_rfl) (fun h7 => ?_) (fun h7 => ?_)
        ·
          have h7p : ((d : Nat) : Int) > 0 := of_decide_eq_true h7
          refine GoS.run [0, 4, 5, 6, 7, 8, 34, 35] [.n, .n, .n, .n, .n, .n, .n] _ [.inBlock 3, .inBlock 2, .code (csub (cd Try.f14) [1,1,1,1,1,0,1,0,0,1,1,1]), .inLoop (csub (cd Try.f14) [1,1,1,1,1,0,1,0,0]), .inBlock 1, .code (csub (cd Try.f14) [1,1,1,1,1,1])] [(0, .string (sb s)), (4, .bool false), (5, .int .i64 ((n : Nat) : Int)), (6, .int .i64 0), (7, .float .f64 4607182418800017408), (8, .bool true), (34, .int .i64 ((s.length : Nat) : Int)), (35, .int .i64 ((k : Nat) : Int))] w (by kernel_rfl) .nil ?_
          have o16 : (binOp .add 3 (.int .i64 ((k : Nat) : Int)) (.int .i64 1)).run Try.prog w = .ok (.int .i64 (((k + 1) : Nat) : Int)) w := f_add (by rw [show ((k : Nat) : Int) + 1 = (((k + 1) : Nat) : Int) by omega]; exact IntWalk.i64_in _ (by omega))
          refine GoS.run [0, 4, 5, 6, 7, 8, 34, 35] [.n, .n, .n, .h (.int .i64 (((k + 1) : Nat) : Int)), .n, .n, .n] _ [.code (csub (cd Try.f14) [1,1,1,1,1,0,1,0,0]), .inLoop (csub (cd Try.f14) [1,1,1,1,1,0,1,0,0]), .inBlock 1, .code (csub (cd Try.f14) [1,1,1,1,1,1])] [(0, .string (sb s)), (4, .bool false), (5, .int .i64 ((n : Nat) : Int)), (6, .int .i64 0), (7, .float .f64 4607182418800017408), (8, .bool true), (34, .int .i64 ((s.length : Nat) : Int)), (35, .int .i64 (((k + 1) : Nat) : Int))] w (by kernel_rfl) (.cons o16 .nil) ?_
          exact GoS.cast (by rw [sc0]; rfl) (parse_Mp s hs w X R hR (s.length + 1) n 0 (k + 1) ((scan_point (n := n) (d := d) (k := k) (by omega) (by omega) (by omega)).symm.trans hF) (by omega) (by omega) (dec_bd hn (by omega)) (by omega))
        ·
          have h7p : ¬ (((d : Nat) : Int) > 0) := of_decide_eq_false h7
          refine GoS.run [0, 4, 5, 6, 7, 8, 10, 34, 35, 55] [.n, .n, .n, .n, .n] _ [.inRegion (cops (csub (cd Try.f14) [1,1,1,1,1,0,1,0,0,1,1,0,0,1,1,0,1,1,0])) [3,4,5,6,7,8,9,10,11,12,13,14,15,16,17,18,19,20,21], .code (csub (cd Try.f14) [1,1,1,1,1,0,1,0,0,1,1,0,0,1,1,0,1,1,1]), .inBlock 3, .inBlock 2, .code (csub (cd Try.f14) [1,1,1,1,1,0,1,0,0,1,1,1]), .inLoop (csub (cd Try.f14) [1,1,1,1,1,0,1,0,0]), .inBlock 1, .code (csub (cd Try.f14) [1,1,1,1,1,1])] [(0, .string (sb s)), (4, .bool false), (5, .int .i64 ((n : Nat) : Int)), (6, .int .i64 ((d : Nat) : Int)), (7, .float .f64 4607182418800017408), (8, .bool false), (10, .int .u8 (bl s k)), (34, .int .i64 ((s.length : Nat) : Int)), (35, .int .i64 ((k : Nat) : Int)), (55, .bool (decide ((bl s k) ≥ 48)))] w (by kernel_rfl) .nil ?_
          refine GoS.fork 55 (decide ((bl s k) ≥ 48)) (by kernel_rfl) (fun h8 => ?_) (fun h8 => ?_)
          ·
            have h8p : (bl s k) ≥ 48 := of_decide_eq_true h8
            refine GoS.run [0, 4, 5, 6, 7, 8, 10, 34, 35, 59] [.n, .n, .n, .n] _ [.inRegion (cops (csub (cd Try.f14) [1,1,1,1,1,0,1,0,0,1,1,0,0,1,1,0,1,1,0])) [7,8,9,10,11,12,13,14,15,16,17,18,19,20,21], .code (csub (cd Try.f14) [1,1,1,1,1,0,1,0,0,1,1,0,0,1,1,0,1,1,1]), .inBlock 3, .inBlock 2, .code (csub (cd Try.f14) [1,1,1,1,1,0,1,0,0,1,1,1]), .inLoop (csub (cd Try.f14) [1,1,1,1,1,0,1,0,0]), .inBlock 1, .code (csub (cd Try.f14) [1,1,1,1,1,1])] [(0, .string (sb s)), (4, .bool false), (5, .int .i64 ((n : Nat) : Int)), (6, .int .i64 ((d : Nat) : Int)), (7, .float .f64 4607182418800017408), (8, .bool false), (10, .int .u8 (bl s k)), (34, .int .i64 ((s.length : Nat) : Int)), (35, .int .i64 ((k : Nat) : Int)), (59, .bool (decide ((bl s k) ≤ 57)))] w (by kernel_rfl) .nil ?_
            refine GoS.fork 59 (decide ((bl s k) ≤ 57)) (by kernel_rfl) (fun h9 => ?_) (fun h9 => ?_)
            ·
              have h9p : (bl s k) ≤ 57 := of_decide_eq_true h9
              refine GoS.run [0, 4, 5, 6, 7, 8, 10, 34, 35, 52] [.n, .n, .n, .n, .n, .n, .n, .n, .n, .n, .n, .n, .n, .n, .n] _ [.inRegion (cops (csub (cd Try.f14) [1,1,1,1,1,0,1,0,0,1,1,0,0,1,1,0,1,1,0])) [], .code (csub (cd Try.f14) [1,1,1,1,1,0,1,0,0,1,1,0,0,1,1,0,1,1,1]), .inBlock 3, .inBlock 2, .code (csub (cd Try.f14) [1,1,1,1,1,0,1,0,0,1,1,1]), .inLoop (csub (cd Try.f14) [1,1,1,1,1,0,1,0,0]), .inBlock 1, .code (csub (cd Try.f14) [1,1,1,1,1,1])] [(0, .string (sb s)), (4, .bool false), (5, .int .i64 ((n : Nat) : Int)), (6, .int .i64 ((d : Nat) : Int)), (7, .float .f64 4607182418800017408), (8, .bool false), (10, .int .u8 (bl s k)), (34, .int .i64 ((s.length : Nat) : Int)), (35, .int .i64 ((k : Nat) : Int)), (52, .bool (decide (((d : Nat) : Int) < 12)))] w (by kernel_rfl) .nil ?_
              refine GoS.run [0, 4, 5, 6, 7, 8, 10, 34, 35, 52] [.n] _ [.code (csub (cd Try.f14) [1,1,1,1,1,0,1,0,0,1,1,0,0,1,1,0,1,1,1]), .inBlock 3, .inBlock 2, .code (csub (cd Try.f14) [1,1,1,1,1,0,1,0,0,1,1,1]), .inLoop (csub (cd Try.f14) [1,1,1,1,1,0,1,0,0]), .inBlock 1, .code (csub (cd Try.f14) [1,1,1,1,1,1])] [(0, .string (sb s)), (4, .bool false), (5, .int .i64 ((n : Nat) : Int)), (6, .int .i64 ((d : Nat) : Int)), (7, .float .f64 4607182418800017408), (8, .bool false), (10, .int .u8 (bl s k)), (34, .int .i64 ((s.length : Nat) : Int)), (35, .int .i64 ((k : Nat) : Int)), (52, .bool (decide (((d : Nat) : Int) < 12)))] w (by kernel_rfl) .nil ?_
              refine GoS.cond (decide (((d : Nat) : Int) < 12)) [.code (csub (cd Try.f14) [1,1,1,1,1,0,1,0,0,1,1,0,0,1,1,0,1,1,1,0]), .inBlock 3, .inBlock 2, .code (csub (cd Try.f14) [1,1,1,1,1,0,1,0,0,1,1,1]), .inLoop (csub (cd Try.f14) [1,1,1,1,1,0,1,0,0]), .inBlock 1, .code (csub (cd Try.f14) [1,1,1,1,1,1])] [.code (csub (cd Try.f14) [1,1,1,1,1,0,1,0,0,1,1,0,0,1,1,0,1,1,1,1]), .inBlock 3, .inBlock 2, .code (csub (cd Try.f14) [1,1,1,1,1,0,1,0,0,1,1,1]), .inLoop (csub (cd Try.f14) [1,1,1,1,1,0,1,0,0]), .inBlock 1, .code (csub (cd Try.f14) [1,1,1,1,1,1])] (by kernel_rfl) (fun h10 => ?_) (fun h10 => ?_)
              ·
                have h10p : ((d : Nat) : Int) < 12 := of_decide_eq_true h10
                have o11 : (binOp .mul 3 (.int .i64 10) (.int .i64 ((n : Nat) : Int))).run Try.prog w = .ok (.int .i64 (((10 * n) : Nat) : Int)) w := f_mul (by rw [show 10 * ((n : Nat) : Int) = (((10 * n) : Nat) : Int) by omega]; exact IntWalk.i64_in _ (by omega))
                have o12 : (binOp .sub 5 (.int .u8 (bl s k)) (.int .u8 48)).run Try.prog w = .ok (.int .u8 ((bl s k) - 48)) w := f_sub (IntWalk.u8_in _ (by omega))
                have o13 : (convert 5 3 (.int .u8 ((bl s k) - 48))).run Try.prog w = .ok (.int .i64 ((bl s k) - 48)) w := f_conv (u := .int .u8) (by kernel_rfl) (by kernel_rfl) (IntWalk.i64_in _ (by omega))
                have o14 : (binOp .add 3 (.int .i64 (((10 * n) : Nat) : Int)) (.int .i64 ((bl s k) - 48))).run Try.prog w = .ok (.int .i64 ((((10 * n) : Nat) : Int) + ((bl s k) - 48))) w := f_add (IntWalk.i64_in _ (by omega))
                have o15 : (binOp .add 3 (.int .i64 ((d : Nat) : Int)) (.int .i64 1)).run Try.prog w = .ok (.int .i64 (((d + 1) : Nat) : Int)) w := f_add (by rw [show ((d : Nat) : Int) + 1 = (((d + 1) : Nat) : Int) by omega]; exact IntWalk.i64_in _ (by omega))
                refine GoS.run [0, 4, 5, 6, 7, 8, 34, 35] [.n, .n, .n, .h (.int .i64 (((10 * n) : Nat) : Int)), .n, .h (.int .u8 ((bl s k) - 48)), .h (.int .i64 ((bl s k) - 48)), .h (.int .i64 ((((10 * n) : Nat) : Int) + ((bl s k) - 48))), .n, .n, .n, .n, .n, .h (.int .i64 (((d + 1) : Nat) : Int)), .n, .n, .n, .n, .n, .n, .n, .n] _ [.inBlock 3, .inBlock 2, .code (csub (cd Try.f14) [1,1,1,1,1,0,1,0,0,1,1,1]), .inLoop (csub (cd Try.f14) [1,1,1,1,1,0,1,0,0]), .inBlock 1, .code (csub (cd Try.f14) [1,1,1,1,1,1])] [(0, .string (sb s)), (4, .bool false), (5, .int .i64 ((((10 * n) : Nat) : Int) + ((bl s k) - 48))), (6, .int .i64 (((d + 1) : Nat) : Int)), (7, .float .f64 4607182418800017408), (8, .bool false), (34, .int .i64 ((s.length : Nat) : Int)), (35, .int .i64 ((k : Nat) : Int))] w (by kernel_rfl) (.cons o11 (.cons o12 (.cons o13 (.cons o14 (.cons o15 .nil))))) ?_
                have o17 : (binOp .add 3 (.int .i64 ((k : Nat) : Int)) (.int .i64 1)).run Try.prog w = .ok (.int .i64 (((k + 1) : Nat) : Int)) w := f_add (by rw [show ((k : Nat) : Int) + 1 = (((k + 1) : Nat) : Int) by omega]; exact IntWalk.i64_in _ (by omega))
                refine GoS.run [0, 4, 5, 6, 7, 8, 34, 35] [.n, .n, .n, .h (.int .i64 (((k + 1) : Nat) : Int)), .n, .n, .n] _ [.code (csub (cd Try.f14) [1,1,1,1,1,0,1,0,0]), .inLoop (csub (cd Try.f14) [1,1,1,1,1,0,1,0,0]), .inBlock 1, .code (csub (cd Try.f14) [1,1,1,1,1,1])] [(0, .string (sb s)), (4, .bool false), (5, .int .i64 ((((10 * n) : Nat) : Int) + ((bl s k) - 48))), (6, .int .i64 (((d + 1) : Nat) : Int)), (7, .float .f64 4607182418800017408), (8, .bool false), (34, .int .i64 ((s.length : Nat) : Int)), (35, .int .i64 (((k + 1) : Nat) : Int))] w (by kernel_rfl) (.cons o17 .nil) ?_
                exact GoS.cast (by rw [show ((((10 * n) : Nat) : Int) + ((bl s k) - 48)) = ((10 * n + ((bl s k).toNat - 48) : Nat) : Int) by omega]; first | done | rfl) (ih (10 * n + ((bl s k).toNat - 48)) (d + 1) (k + 1) ((scan_digit (n := n) (d := d) (k := k) (by omega) (by omega) (by omega) (by unfold most; simp only [cond_true, cond_false]; omega)).symm.trans hF) (by omega) (by omega) (dec_up hn (by omega)) (by omega))
              ·
                have h10p : ¬ (((d : Nat) : Int) < 12) := of_decide_eq_false h10
                refine GoS.run [2, 3] [.n, .n, .n, .n, .n] _ [.code (csub (cd Try.f14) [1,1,1,1,1,0,1,0,0,1,1,0,0,1,1,0,1,1,1,1,1]), .inBlock 3, .inBlock 2, .code (csub (cd Try.f14) [1,1,1,1,1,0,1,0,0,1,1,1]), .inLoop (csub (cd Try.f14) [1,1,1,1,1,0,1,0,0]), .inBlock 1, .code (csub (cd Try.f14) [1,1,1,1,1,1])] [(2, .int .u64 0), (3, .int .i64 3)] w (by kernel_rfl) .nil ?_
                refine GoS.ret (fn := Try.f14) (v := (.tuple #[.int .u64 0, .int .i64 3])) Try.func14 (by kernel_rfl) ?_
                rw [hR]
                rw [scan_none (by omega) (by intro z; omega) (by unfold most; simp only [cond_true, cond_false]; omega)] at hF
                subst hF
                exact ⟨rfl, rfl⟩
            ·
              have h9p : ¬ ((bl s k) ≤ 57) := of_decide_eq_false h9
              refine GoS.run [0, 4, 5, 6, 7, 8, 10, 34, 35, 52] [.n, .n, .n, .n, .n, .n, .n, .n, .n, .n, .n, .n, .n, .n, .n] _ [.inRegion (cops (csub (cd Try.f14) [1,1,1,1,1,0,1,0,0,1,1,0,0,1,1,0,1,1,0])) [], .code (csub (cd Try.f14) [1,1,1,1,1,0,1,0,0,1,1,0,0,1,1,0,1,1,1]), .inBlock 3, .inBlock 2, .code (csub (cd Try.f14) [1,1,1,1,1,0,1,0,0,1,1,1]), .inLoop (csub (cd Try.f14) [1,1,1,1,1,0,1,0,0]), .inBlock 1, .code (csub (cd Try.f14) [1,1,1,1,1,1])] [(0, .string (sb s)), (4, .bool false), (5, .int .i64 ((n : Nat) : Int)), (6, .int .i64 ((d : Nat) : Int)), (7, .float .f64 4607182418800017408), (8, .bool false), (10, .int .u8 (bl s k)), (34, .int .i64 ((s.length : Nat) : Int)), (35, .int .i64 ((k : Nat) : Int)), (52, .bool false)] w (by kernel_rfl) .nil ?_
              refine GoS.run [2, 3] [.n, .n, .n, .n, .n, .n, .n] _ [.code (csub (cd Try.f14) [1,1,1,1,1,0,1,0,0,1,1,0,0,1,1,0,1,1,1,1,1]), .inBlock 3, .inBlock 2, .code (csub (cd Try.f14) [1,1,1,1,1,0,1,0,0,1,1,1]), .inLoop (csub (cd Try.f14) [1,1,1,1,1,0,1,0,0]), .inBlock 1, .code (csub (cd Try.f14) [1,1,1,1,1,1])] [(2, .int .u64 0), (3, .int .i64 3)] w (by kernel_rfl) .nil ?_
              refine GoS.ret (fn := Try.f14) (v := (.tuple #[.int .u64 0, .int .i64 3])) Try.func14 (by kernel_rfl) ?_
              rw [hR]
              rw [scan_none (by omega) (by intro z; omega) (by unfold most; simp only [cond_true, cond_false]; omega)] at hF
              subst hF
              exact ⟨rfl, rfl⟩
          ·
            have h8p : ¬ ((bl s k) ≥ 48) := of_decide_eq_false h8
            refine GoS.run [0, 4, 5, 6, 7, 8, 10, 34, 35, 52] [.n, .n, .n, .n, .n, .n, .n, .n, .n, .n, .n, .n, .n, .n, .n, .n, .n, .n, .n] _ [.inRegion (cops (csub (cd Try.f14) [1,1,1,1,1,0,1,0,0,1,1,0,0,1,1,0,1,1,0])) [], .code (csub (cd Try.f14) [1,1,1,1,1,0,1,0,0,1,1,0,0,1,1,0,1,1,1]), .inBlock 3, .inBlock 2, .code (csub (cd Try.f14) [1,1,1,1,1,0,1,0,0,1,1,1]), .inLoop (csub (cd Try.f14) [1,1,1,1,1,0,1,0,0]), .inBlock 1, .code (csub (cd Try.f14) [1,1,1,1,1,1])] [(0, .string (sb s)), (4, .bool false), (5, .int .i64 ((n : Nat) : Int)), (6, .int .i64 ((d : Nat) : Int)), (7, .float .f64 4607182418800017408), (8, .bool false), (10, .int .u8 (bl s k)), (34, .int .i64 ((s.length : Nat) : Int)), (35, .int .i64 ((k : Nat) : Int)), (52, .bool false)] w (by kernel_rfl) .nil ?_
            refine GoS.run [2, 3] [.n, .n, .n, .n, .n, .n, .n] _ [.code (csub (cd Try.f14) [1,1,1,1,1,0,1,0,0,1,1,0,0,1,1,0,1,1,1,1,1]), .inBlock 3, .inBlock 2, .code (csub (cd Try.f14) [1,1,1,1,1,0,1,0,0,1,1,1]), .inLoop (csub (cd Try.f14) [1,1,1,1,1,0,1,0,0]), .inBlock 1, .code (csub (cd Try.f14) [1,1,1,1,1,1])] [(2, .int .u64 0), (3, .int .i64 3)] w (by kernel_rfl) .nil ?_
            refine GoS.ret (fn := Try.f14) (v := (.tuple #[.int .u64 0, .int .i64 3])) Try.func14 (by kernel_rfl) ?_
            rw [hR]
            rw [scan_none (by omega) (by intro z; omega) (by unfold most; simp only [cond_true, cond_false]; omega)] at hF
            subst hF
            exact ⟨rfl, rfl⟩
      ·
        have h6p : ¬ ((bl s k) = 46) := p_ne h6
        refine GoS.run [0, 4, 5, 6, 7, 8, 10, 34, 35, 41] [.n, .n, .n, .n, .n, .n, .n, .n] _ [.inRegion (cops (csub (cd Try.f14) [1,1,1,1,1,0,1,0,0,1,1,0,0,1,1,0,0])) [], .code (csub (cd Try.f14) [1,1,1,1,1,0,1,0,0,1,1,0,0,1,1,0,1]), .inBlock 3, .inBlock 2, .code (csub (cd Try.f14) [1,1,1,1,1,0,1,0,0,1,1,1]), .inLoop (csub (cd Try.f14) [1,1,1,1,1,0,1,0,0]), .inBlock 1, .code (csub (cd Try.f14) [1,1,1,1,1,1])] [(0, .string (sb s)), (4, .bool false), (5, .int .i64 ((n : Nat) : Int)), (6, .int .i64 ((d : Nat) : Int)), (7, .float .f64 4607182418800017408), (8, .bool false), (10, .int .u8 (bl s k)), (34, .int .i64 ((s.length : Nat) : Int)), (35, .int .i64 ((k : Nat) : Int)), (41, .bool false)] w (by kernel_rfl) .nil ?_
        refine GoS.run [0, 4, 5, 6, 7, 8, 10, 34, 35, 55] [.n, .n, .n, .n, .n, .n, .n] _ [.inRegion (cops (csub (cd Try.f14) [1,1,1,1,1,0,1,0,0,1,1,0,0,1,1,0,1,1,0])) [3,4,5,6,7,8,9,10,11,12,13,14,15,16,17,18,19,20,21], .code (csub (cd Try.f14) [1,1,1,1,1,0,1,0,0,1,1,0,0,1,1,0,1,1,1]), .inBlock 3, .inBlock 2, .code (csub (cd Try.f14) [1,1,1,1,1,0,1,0,0,1,1,1]), .inLoop (csub (cd Try.f14) [1,1,1,1,1,0,1,0,0]), .inBlock 1, .code (csub (cd Try.f14) [1,1,1,1,1,1])] [(0, .string (sb s)), (4, .bool false), (5, .int .i64 ((n : Nat) : Int)), (6, .int .i64 ((d : Nat) : Int)), (7, .float .f64 4607182418800017408), (8, .bool false), (10, .int .u8 (bl s k)), (34, .int .i64 ((s.length : Nat) : Int)), (35, .int .i64 ((k : Nat) : Int)), (55, .bool (decide ((bl s k) ≥ 48)))] w (by kernel_rfl) .nil ?_
        refine GoS.fork 55 (decide ((bl s k) ≥ 48)) (by kernel_rfl) (fun h18 => ?_) (fun h18 => ?_)
        ·
          have h18p : (bl s k) ≥ 48 := of_decide_eq_true h18
          refine GoS.run [0, 4, 5, 6, 7, 8, 10, 34, 35, 59] [.n, .n, .n, .n] _ [.inRegion (cops (csub (cd Try.f14) [1,1,1,1,1,0,1,0,0,1,1,0,0,1,1,0,1,1,0])) [7,8,9,10,11,12,13,14,15,16,17,18,19,20,21], .code (csub (cd Try.f14) [1,1,1,1,1,0,1,0,0,1,1,0,0,1,1,0,1,1,1]), .inBlock 3, .inBlock 2, .code (csub (cd Try.f14) [1,1,1,1,1,0,1,0,0,1,1,1]), .inLoop (csub (cd Try.f14) [1,1,1,1,1,0,1,0,0]), .inBlock 1, .code (csub (cd Try.f14) [1,1,1,1,1,1])] [(0, .string (sb s)), (4, .bool false), (5, .int .i64 ((n : Nat) : Int)), (6, .int .i64 ((d : Nat) : Int)), (7, .float .f64 4607182418800017408), (8, .bool false), (10, .int .u8 (bl s k)), (34, .int .i64 ((s.length : Nat) : Int)), (35, .int .i64 ((k : Nat) : Int)), (59, .bool (decide ((bl s k) ≤ 57)))] w (by kernel_rfl) .nil ?_
          refine GoS.fork 59 (decide ((bl s k) ≤ 57)) (by kernel_rfl) (fun h19 => ?_) (fun h19 => ?_)
          ·
            have h19p : (bl s k) ≤ 57 := of_decide_eq_true h19
            refine GoS.run [0, 4, 5, 6, 7, 8, 10, 34, 35, 52] [.n, .n, .n, .n, .n, .n, .n, .n, .n, .n, .n, .n, .n, .n, .n] _ [.inRegion (cops (csub (cd Try.f14) [1,1,1,1,1,0,1,0,0,1,1,0,0,1,1,0,1,1,0])) [], .code (csub (cd Try.f14) [1,1,1,1,1,0,1,0,0,1,1,0,0,1,1,0,1,1,1]), .inBlock 3, .inBlock 2, .code (csub (cd Try.f14) [1,1,1,1,1,0,1,0,0,1,1,1]), .inLoop (csub (cd Try.f14) [1,1,1,1,1,0,1,0,0]), .inBlock 1, .code (csub (cd Try.f14) [1,1,1,1,1,1])] [(0, .string (sb s)), (4, .bool false), (5, .int .i64 ((n : Nat) : Int)), (6, .int .i64 ((d : Nat) : Int)), (7, .float .f64 4607182418800017408), (8, .bool false), (10, .int .u8 (bl s k)), (34, .int .i64 ((s.length : Nat) : Int)), (35, .int .i64 ((k : Nat) : Int)), (52, .bool (decide (((d : Nat) : Int) < 12)))] w (by kernel_rfl) .nil ?_
            refine GoS.run [0, 4, 5, 6, 7, 8, 10, 34, 35, 52] [.n] _ [.code (csub (cd Try.f14) [1,1,1,1,1,0,1,0,0,1,1,0,0,1,1,0,1,1,1]), .inBlock 3, .inBlock 2, .code (csub (cd Try.f14) [1,1,1,1,1,0,1,0,0,1,1,1]), .inLoop (csub (cd Try.f14) [1,1,1,1,1,0,1,0,0]), .inBlock 1, .code (csub (cd Try.f14) [1,1,1,1,1,1])] [(0, .string (sb s)), (4, .bool false), (5, .int .i64 ((n : Nat) : Int)), (6, .int .i64 ((d : Nat) : Int)), (7, .float .f64 4607182418800017408), (8, .bool false), (10, .int .u8 (bl s k)), (34, .int .i64 ((s.length : Nat) : Int)), (35, .int .i64 ((k : Nat) : Int)), (52, .bool (decide (((d : Nat) : Int) < 12)))] w (by kernel_rfl) .nil ?_
            refine GoS.cond (decide (((d : Nat) : Int) < 12)) [.code (csub (cd Try.f14) [1,1,1,1,1,0,1,0,0,1,1,0,0,1,1,0,1,1,1,0]), .inBlock 3, .inBlock 2, .code (csub (cd Try.f14) [1,1,1,1,1,0,1,0,0,1,1,1]), .inLoop (csub (cd Try.f14) [1,1,1,1,1,0,1,0,0]), .inBlock 1, .code (csub (cd Try.f14) [1,1,1,1,1,1])] [.code (csub (cd Try.f14) [1,1,1,1,1,0,1,0,0,1,1,0,0,1,1,0,1,1,1,1]), .inBlock 3, .inBlock 2, .code (csub (cd Try.f14) [1,1,1,1,1,0,1,0,0,1,1,1]), .inLoop (csub (cd Try.f14) [1,1,1,1,1,0,1,0,0]), .inBlock 1, .code (csub (cd Try.f14) [1,1,1,1,1,1])] (by kernel_rfl) (fun h20 => ?_) (fun h20 => ?_)
            ·
              have h20p : ((d : Nat) : Int) < 12 := of_decide_eq_true h20
              have o21 : (binOp .mul 3 (.int .i64 10) (.int .i64 ((n : Nat) : Int))).run Try.prog w = .ok (.int .i64 (((10 * n) : Nat) : Int)) w := f_mul (by rw [show 10 * ((n : Nat) : Int) = (((10 * n) : Nat) : Int) by omega]; exact IntWalk.i64_in _ (by omega))
              have o22 : (binOp .sub 5 (.int .u8 (bl s k)) (.int .u8 48)).run Try.prog w = .ok (.int .u8 ((bl s k) - 48)) w := f_sub (IntWalk.u8_in _ (by omega))
              have o23 : (convert 5 3 (.int .u8 ((bl s k) - 48))).run Try.prog w = .ok (.int .i64 ((bl s k) - 48)) w := f_conv (u := .int .u8) (by kernel_rfl) (by kernel_rfl) (IntWalk.i64_in _ (by omega))
              have o24 : (binOp .add 3 (.int .i64 (((10 * n) : Nat) : Int)) (.int .i64 ((bl s k) - 48))).run Try.prog w = .ok (.int .i64 ((((10 * n) : Nat) : Int) + ((bl s k) - 48))) w := f_add (IntWalk.i64_in _ (by omega))
              have o25 : (binOp .add 3 (.int .i64 ((d : Nat) : Int)) (.int .i64 1)).run Try.prog w = .ok (.int .i64 (((d + 1) : Nat) : Int)) w := f_add (by rw [show ((d : Nat) : Int) + 1 = (((d + 1) : Nat) : Int) by omega]; exact IntWalk.i64_in _ (by omega))
              refine GoS.run [0, 4, 5, 6, 7, 8, 34, 35] [.n, .n, .n, .h (.int .i64 (((10 * n) : Nat) : Int)), .n, .h (.int .u8 ((bl s k) - 48)), .h (.int .i64 ((bl s k) - 48)), .h (.int .i64 ((((10 * n) : Nat) : Int) + ((bl s k) - 48))), .n, .n, .n, .n, .n, .h (.int .i64 (((d + 1) : Nat) : Int)), .n, .n, .n, .n, .n, .n, .n, .n] _ [.inBlock 3, .inBlock 2, .code (csub (cd Try.f14) [1,1,1,1,1,0,1,0,0,1,1,1]), .inLoop (csub (cd Try.f14) [1,1,1,1,1,0,1,0,0]), .inBlock 1, .code (csub (cd Try.f14) [1,1,1,1,1,1])] [(0, .string (sb s)), (4, .bool false), (5, .int .i64 ((((10 * n) : Nat) : Int) + ((bl s k) - 48))), (6, .int .i64 (((d + 1) : Nat) : Int)), (7, .float .f64 4607182418800017408), (8, .bool false), (34, .int .i64 ((s.length : Nat) : Int)), (35, .int .i64 ((k : Nat) : Int))] w (by kernel_rfl) (.cons o21 (.cons o22 (.cons o23 (.cons o24 (.cons o25 .nil))))) ?_
              have o26 : (binOp .add 3 (.int .i64 ((k : Nat) : Int)) (.int .i64 1)).run Try.prog w = .ok (.int .i64 (((k + 1) : Nat) : Int)) w := f_add (by rw [show ((k : Nat) : Int) + 1 = (((k + 1) : Nat) : Int) by omega]; exact IntWalk.i64_in _ (by omega))
              refine GoS.run [0, 4, 5, 6, 7, 8, 34, 35] [.n, .n, .n, .h (.int .i64 (((k + 1) : Nat) : Int)), .n, .n, .n] _ [.code (csub (cd Try.f14) [1,1,1,1,1,0,1,0,0]), .inLoop (csub (cd Try.f14) [1,1,1,1,1,0,1,0,0]), .inBlock 1, .code (csub (cd Try.f14) [1,1,1,1,1,1])] [(0, .string (sb s)), (4, .bool false), (5, .int .i64 ((((10 * n) : Nat) : Int) + ((bl s k) - 48))), (6, .int .i64 (((d + 1) : Nat) : Int)), (7, .float .f64 4607182418800017408), (8, .bool false), (34, .int .i64 ((s.length : Nat) : Int)), (35, .int .i64 (((k + 1) : Nat) : Int))] w (by kernel_rfl) (.cons o26 .nil) ?_
              exact GoS.cast (by rw [show ((((10 * n) : Nat) : Int) + ((bl s k) - 48)) = ((10 * n + ((bl s k).toNat - 48) : Nat) : Int) by omega]; first | done | rfl) (ih (10 * n + ((bl s k).toNat - 48)) (d + 1) (k + 1) ((scan_digit (n := n) (d := d) (k := k) (by omega) (by omega) (by omega) (by unfold most; simp only [cond_true, cond_false]; omega)).symm.trans hF) (by omega) (by omega) (dec_up hn (by omega)) (by omega))
            ·
              have h20p : ¬ (((d : Nat) : Int) < 12) := of_decide_eq_false h20
              refine GoS.run [2, 3] [.n, .n, .n, .n, .n] _ [.code (csub (cd Try.f14) [1,1,1,1,1,0,1,0,0,1,1,0,0,1,1,0,1,1,1,1,1]), .inBlock 3, .inBlock 2, .code (csub (cd Try.f14) [1,1,1,1,1,0,1,0,0,1,1,1]), .inLoop (csub (cd Try.f14) [1,1,1,1,1,0,1,0,0]), .inBlock 1, .code (csub (cd Try.f14) [1,1,1,1,1,1])] [(2, .int .u64 0), (3, .int .i64 3)] w (by kernel_rfl) .nil ?_
              refine GoS.ret (fn := Try.f14) (v := (.tuple #[.int .u64 0, .int .i64 3])) Try.func14 (by kernel_rfl) ?_
              rw [hR]
              rw [scan_none (by omega) (by intro z; omega) (by unfold most; simp only [cond_true, cond_false]; omega)] at hF
              subst hF
              exact ⟨rfl, rfl⟩
          ·
            have h19p : ¬ ((bl s k) ≤ 57) := of_decide_eq_false h19
            refine GoS.run [0, 4, 5, 6, 7, 8, 10, 34, 35, 52] [.n, .n, .n, .n, .n, .n, .n, .n, .n, .n, .n, .n, .n, .n, .n] _ [.inRegion (cops (csub (cd Try.f14) [1,1,1,1,1,0,1,0,0,1,1,0,0,1,1,0,1,1,0])) [], .code (csub (cd Try.f14) [1,1,1,1,1,0,1,0,0,1,1,0,0,1,1,0,1,1,1]), .inBlock 3, .inBlock 2, .code (csub (cd Try.f14) [1,1,1,1,1,0,1,0,0,1,1,1]), .inLoop (csub (cd Try.f14) [1,1,1,1,1,0,1,0,0]), .inBlock 1, .code (csub (cd Try.f14) [1,1,1,1,1,1])] [(0, .string (sb s)), (4, .bool false), (5, .int .i64 ((n : Nat) : Int)), (6, .int .i64 ((d : Nat) : Int)), (7, .float .f64 4607182418800017408), (8, .bool false), (10, .int .u8 (bl s k)), (34, .int .i64 ((s.length : Nat) : Int)), (35, .int .i64 ((k : Nat) : Int)), (52, .bool false)] w (by kernel_rfl) .nil ?_
            refine GoS.run [2, 3] [.n, .n, .n, .n, .n, .n, .n] _ [.code (csub (cd Try.f14) [1,1,1,1,1,0,1,0,0,1,1,0,0,1,1,0,1,1,1,1,1]), .inBlock 3, .inBlock 2, .code (csub (cd Try.f14) [1,1,1,1,1,0,1,0,0,1,1,1]), .inLoop (csub (cd Try.f14) [1,1,1,1,1,0,1,0,0]), .inBlock 1, .code (csub (cd Try.f14) [1,1,1,1,1,1])] [(2, .int .u64 0), (3, .int .i64 3)] w (by kernel_rfl) .nil ?_
            refine GoS.ret (fn := Try.f14) (v := (.tuple #[.int .u64 0, .int .i64 3])) Try.func14 (by kernel_rfl) ?_
            rw [hR]
            rw [scan_none (by omega) (by intro z; omega) (by unfold most; simp only [cond_true, cond_false]; omega)] at hF
            subst hF
            exact ⟨rfl, rfl⟩
        ·
          have h18p : ¬ ((bl s k) ≥ 48) := of_decide_eq_false h18
          refine GoS.run [0, 4, 5, 6, 7, 8, 10, 34, 35, 52] [.n, .n, .n, .n, .n, .n, .n, .n, .n, .n, .n, .n, .n, .n, .n, .n, .n, .n, .n] _ [.inRegion (cops (csub (cd Try.f14) [1,1,1,1,1,0,1,0,0,1,1,0,0,1,1,0,1,1,0])) [], .code (csub (cd Try.f14) [1,1,1,1,1,0,1,0,0,1,1,0,0,1,1,0,1,1,1]), .inBlock 3, .inBlock 2, .code (csub (cd Try.f14) [1,1,1,1,1,0,1,0,0,1,1,1]), .inLoop (csub (cd Try.f14) [1,1,1,1,1,0,1,0,0]), .inBlock 1, .code (csub (cd Try.f14) [1,1,1,1,1,1])] [(0, .string (sb s)), (4, .bool false), (5, .int .i64 ((n : Nat) : Int)), (6, .int .i64 ((d : Nat) : Int)), (7, .float .f64 4607182418800017408), (8, .bool false), (10, .int .u8 (bl s k)), (34, .int .i64 ((s.length : Nat) : Int)), (35, .int .i64 ((k : Nat) : Int)), (52, .bool false)] w (by kernel_rfl) .nil ?_
          refine GoS.run [2, 3] [.n, .n, .n, .n, .n, .n, .n] _ [.code (csub (cd Try.f14) [1,1,1,1,1,0,1,0,0,1,1,0,0,1,1,0,1,1,1,1,1]), .inBlock 3, .inBlock 2, .code (csub (cd Try.f14) [1,1,1,1,1,0,1,0,0,1,1,1]), .inLoop (csub (cd Try.f14) [1,1,1,1,1,0,1,0,0]), .inBlock 1, .code (csub (cd Try.f14) [1,1,1,1,1,1])] [(2, .int .u64 0), (3, .int .i64 3)] w (by kernel_rfl) .nil ?_
          refine GoS.ret (fn := Try.f14) (v := (.tuple #[.int .u64 0, .int .i64 3])) Try.func14 (by kernel_rfl) ?_
          rw [hR]
          rw [scan_none (by omega) (by intro z; omega) (by unfold most; simp only [cond_true, cond_false]; omega)] at hF
          subst hF
          exact ⟨rfl, rfl⟩
    ·
      have h1p : ¬ (((k : Nat) : Int) < ((s.length : Nat) : Int)) := of_decide_eq_false h1
      refine GoS.run [4, 5, 7, 87] [.n, .n, .n, .n, .n, .n, .n] _ [.code (csub (cd Try.f14) [1,1,1,1,1,1,0,1]), .code (csub (cd Try.f14) [1,1,1,1,1,1,1])] [(4, .bool false), (5, .int .i64 ((n : Nat) : Int)), (7, .float .f64 4607182418800017408), (87, .bool (((d : Nat) : Int) == 0))] w (by kernel_rfl) .nil ?_
      refine GoS.cond (((d : Nat) : Int) == 0) [.code (csub (cd Try.f14) [1,1,1,1,1,1,0,1,0]), .code (csub (cd Try.f14) [1,1,1,1,1,1,1])] [.code (csub (cd Try.f14) [1,1,1,1,1,1,0,1,1]), .code (csub (cd Try.f14) [1,1,1,1,1,1,1])] (by kernel_rfl) (fun h2 => ?_) (fun h2 => ?_)
      ·
        have h2p : ((d : Nat) : Int) = 0 := eq_of_beq h2
        refine GoS.run [2, 3] [.n, .n, .n, .n, .n] _ [.code (csub (cd Try.f14) [1,1,1,1,1,1,0,1,0,1]), .code (csub (cd Try.f14) [1,1,1,1,1,1,1])] [(2, .int .u64 0), (3, .int .i64 3)] w (by kernel_rfl) .nil ?_
        refine GoS.ret (fn := Try.f14) (v := (.tuple #[.int .u64 0, .int .i64 3])) Try.func14 (by kernel_rfl) ?_
        rw [hR]
        rw [scan_end (by omega), if_pos (by omega)] at hF
        subst hF
        exact ⟨rfl, rfl⟩
      ·
        have h2p : ¬ (((d : Nat) : Int) = 0) := p_ne h2
        refine GoS.run [4, 5, 7] [.n] _ [.code (csub (cd Try.f14) [1,1,1,1,1,1,1])] [(4, .bool false), (5, .int .i64 ((n : Nat) : Int)), (7, .float .f64 4607182418800017408)] w (by kernel_rfl) .nil ?_
        have o3 : (binOp .quo 33 (.float .f64 (FloatKind.nearest .f64 ((n : Nat) : Int))) (.float .f64 4607182418800017408)).run Try.prog w = .ok (.float .f64 (ratN n (10 ^ 0))) w := f_fquo (sc0 ▸ ratN_some (a := n) (b := (10 ^ 0)) (by omega) (by first | decide | omega) (by first | decide | omega))
        refine GoS.run [2, 3] [.n, .n, .n, .n, .n, .h (.float .f64 (ratN n (10 ^ 0))), .n, .n, .n, .n, .n, .n, .n, .n, .n, .n, .n, .n, .n, .n, .n, .n] _ [.code (csub (cd Try.f14) [1,1,1,1,1,1,1,1,1,1])] [(2, .int .u64 (((ratN n (10 ^ 0)) : Nat) : Int)), (3, .int .i64 0)] w (by kernel_rfl) (.cons o3 .nil) ?_
        refine GoS.ret (fn := Try.f14) (v := (.tuple #[.int .u64 (((ratN n (10 ^ 0)) : Nat) : Int), .int .i64 0])) Try.func14 (by kernel_rfl) ?_
        rw [hR]
        rw [scan_end (by omega), if_neg (by omega)] at hF
        subst hF
        exact ⟨by simp only [valP, errP, cond_true, cond_false, Nat.add_zero], rfl⟩

set_option maxHeartbeats 400000 in
theorem parse_c (s : List UInt8) (hs : s.length ≤ 9223372036854775807) (w : World) :
    Calls Try.prog 14 #[.string (sb s)] w (fun e w' => e = .returned (.tuple #[.int .u64 ((parseV s : Nat) : Int), .int .i64 (parseE s)]) ∧ w = w') := by
  obtain ⟨R, hR⟩ : ∃ R : Ending → World → Prop, R = (fun e w' => e = .returned (.tuple #[.int .u64 ((parseV s : Nat) : Int), .int .i64 (parseE s)]) ∧ w = w') := ⟨_, rfl⟩
  rw [← hR]
  refine GoS.enter (n := 97) Try.func14 (by kernel_rfl) rfl [(0, .string (sb s))] (by kernel_rfl) (by kernel_rfl) ?_
  have o1 : (binOp .eql 9 (.string (sb s)) (.string (sb ([110, 97, 110] : List UInt8)))).run Try.prog w = .ok (.bool (decide (s = ([110, 97, 110] : List UInt8)))) w := f_streq
  refine GoS.run [0, 12, 13] [.n, .n, .n, .n, .n, .n, .n, .n, .n, .n, .n, .n, .n, .h (.bool (decide (s = ([110, 97, 110] : List UInt8)))), .n, .n] _ [.code (csub (cd Try.f14) [1,0,1,0,1]), .inBlock 0, .code (csub (cd Try.f14) [1,1])] [(0, .string (sb s)), (12, .string (sb s)), (13, .bool (decide (s = ([110, 97, 110] : List UInt8))))] w (by kernel_rfl) (.cons o1 .nil) ?_
  refine GoS.cond (decide (s = ([110, 97, 110] : List UInt8))) [.code (csub (cd Try.f14) [1,0,1,0,1,0]), .inBlock 0, .code (csub (cd Try.f14) [1,1])] [.code (csub (cd Try.f14) [1,0,1,0,1,1]), .inBlock 0, .code (csub (cd Try.f14) [1,1])] (by kernel_rfl) (fun h2 => ?_) (fun h2 => ?_)
  ·
    have h2p : s = ([110, 97, 110] : List UInt8) := of_decide_eq_true h2
    refine GoS.run [2, 3] [.n, .n, .n, .n, .n] _ [.code (csub (cd Try.f14) [1,0,1,0,1,0,1]), .inBlock 0, .code (csub (cd Try.f14) [1,1])] [(2, .int .u64 9221120237041090560), (3, .int .i64 0)] w (by kernel_rfl) .nil ?_
    refine GoS.ret (fn := Try.f14) (v := (.tuple #[.int .u64 9221120237041090560, .int .i64 0])) Try.func14 (by kernel_rfl) ?_
    rw [hR]
    obtain ⟨e1, e2⟩ := parse_nan (by simpa using h2)
    exact ⟨by rw [e1, e2]; rfl, rfl⟩
  ·
    have h2p : ¬ (s = ([110, 97, 110] : List UInt8)) := of_decide_eq_false h2
    have o3 : (binOp .eql 9 (.string (sb s)) (.string (sb ([105, 110, 102] : List UInt8)))).run Try.prog w = .ok (.bool (decide (s = ([105, 110, 102] : List UInt8)))) w := f_streq
    refine GoS.run [0, 12, 15] [.n, .n, .h (.bool (decide (s = ([105, 110, 102] : List UInt8)))), .n, .n] _ [.code (csub (cd Try.f14) [1,0,1,0,1,1,1]), .inBlock 0, .code (csub (cd Try.f14) [1,1])] [(0, .string (sb s)), (12, .string (sb s)), (15, .bool (decide (s = ([105, 110, 102] : List UInt8))))] w (by kernel_rfl) (.cons o3 .nil) ?_
    refine GoS.cond (decide (s = ([105, 110, 102] : List UInt8))) [.code (csub (cd Try.f14) [1,0,1,0,1,1,1,0]), .inBlock 0, .code (csub (cd Try.f14) [1,1])] [.code (csub (cd Try.f14) [1,0,1,0,1,1,1,1]), .inBlock 0, .code (csub (cd Try.f14) [1,1])] (by kernel_rfl) (fun h4 => ?_) (fun h4 => ?_)
    ·
      have h4p : s = ([105, 110, 102] : List UInt8) := of_decide_eq_true h4
      refine GoS.run [] [.n, .n] _ [.inRegion (cops (csub (cd Try.f14) [1,0,1,0,1,1,1,0,0])) [0,1,2,3], .code (csub (cd Try.f14) [1,0,1,0,1,1,1,0,1]), .inBlock 0, .code (csub (cd Try.f14) [1,1])] [] w (by kernel_rfl) .nil ?_
      refine GoS.call [] 24 #[.int .i64 1] (some 17) [.inRegion (cops (csub (cd Try.f14) [1,0,1,0,1,1,1,0,0])) [1,2,3], .code (csub (cd Try.f14) [1,0,1,0,1,1,1,0,1]), .inBlock 0, .code (csub (cd Try.f14) [1,1])] [] (by kernel_rfl) (pinf_c w) ?_
      rintro _ _ ⟨rfl, rfl⟩
      refine ⟨_, rfl, ?_⟩
      refine GoS.run [2, 3] [.n, .n, .n, .n] _ [.code (csub (cd Try.f14) [1,0,1,0,1,1,1,0,1]), .inBlock 0, .code (csub (cd Try.f14) [1,1])] [(2, .int .u64 9218868437227405312), (3, .int .i64 0)] w (by kernel_rfl) .nil ?_
      refine GoS.ret (fn := Try.f14) (v := (.tuple #[.int .u64 9218868437227405312, .int .i64 0])) Try.func14 (by kernel_rfl) ?_
      rw [hR]
      obtain ⟨e1, e2⟩ := parse_inf (by simpa using h2) (by simpa using h4)
      exact ⟨by rw [e1, e2]; rfl, rfl⟩
    ·
      have h4p : ¬ (s = ([105, 110, 102] : List UInt8)) := of_decide_eq_false h4
      have o5 : (binOp .eql 9 (.string (sb s)) (.string (sb ([45, 105, 110, 102] : List UInt8)))).run Try.prog w = .ok (.bool (decide (s = ([45, 105, 110, 102] : List UInt8)))) w := f_streq
      refine GoS.run [0, 19] [.n, .n, .h (.bool (decide (s = ([45, 105, 110, 102] : List UInt8)))), .n, .n] _ [.code (csub (cd Try.f14) [1,0,1,0,1,1,1,1,1]), .inBlock 0, .code (csub (cd Try.f14) [1,1])] [(0, .string (sb s)), (19, .bool (decide (s = ([45, 105, 110, 102] : List UInt8))))] w (by kernel_rfl) (.cons o5 .nil) ?_
      refine GoS.cond (decide (s = ([45, 105, 110, 102] : List UInt8))) [.code (csub (cd Try.f14) [1,0,1,0,1,1,1,1,1,0]), .inBlock 0, .code (csub (cd Try.f14) [1,1])] [.code (csub (cd Try.f14) [1,0,1,0,1,1,1,1,1,1]), .inBlock 0, .code (csub (cd Try.f14) [1,1])] (by kernel_rfl) (fun h6 => ?_) (fun h6 => ?_)
      ·
        have h6p : s = ([45, 105, 110, 102] : List UInt8) := of_decide_eq_true h6
        refine GoS.run [] [.n, .n] _ [.inRegion (cops (csub (cd Try.f14) [1,0,1,0,1,1,1,1,1,0,0])) [0,1,2,3], .code (csub (cd Try.f14) [1,0,1,0,1,1,1,1,1,0,1]), .inBlock 0, .code (csub (cd Try.f14) [1,1])] [] w (by kernel_rfl) .nil ?_
        refine GoS.call [] 24 #[.int .i64 (-1)] (some 21) [.inRegion (cops (csub (cd Try.f14) [1,0,1,0,1,1,1,1,1,0,0])) [1,2,3], .code (csub (cd Try.f14) [1,0,1,0,1,1,1,1,1,0,1]), .inBlock 0, .code (csub (cd Try.f14) [1,1])] [] (by kernel_rfl) (ninf_c w) ?_
        rintro _ _ ⟨rfl, rfl⟩
        refine ⟨_, rfl, ?_⟩
        refine GoS.run [2, 3] [.n, .n, .n, .n] _ [.code (csub (cd Try.f14) [1,0,1,0,1,1,1,1,1,0,1]), .inBlock 0, .code (csub (cd Try.f14) [1,1])] [(2, .int .u64 18442240474082181120), (3, .int .i64 0)] w (by kernel_rfl) .nil ?_
        refine GoS.ret (fn := Try.f14) (v := (.tuple #[.int .u64 18442240474082181120, .int .i64 0])) Try.func14 (by kernel_rfl) ?_
        rw [hR]
        obtain ⟨e1, e2⟩ := parse_ninf (by simpa using h2) (by simpa using h4) (by simpa using h6)
        exact ⟨by rw [e1, e2]; rfl, rfl⟩
      ·
        have h6p : ¬ (s = ([45, 105, 110, 102] : List UInt8)) := of_decide_eq_false h6
        refine GoS.run [0] [.n] _ [.inBlock 0, .code (csub (cd Try.f14) [1,1])] [(0, .string (sb s))] w (by kernel_rfl) .nil ?_
        have o7 : (binOp .neq 9 (.string (sb s)) (.string (sb ([])))).run Try.prog w = .ok (.bool (!(decide (s = [])))) w := f_strneq
        refine GoS.run [0, 25] [.n, .n, .n, .n, .h (.bool (!(decide (s = [])))), .n] _ [.inRegion (cops (csub (cd Try.f14) [1,1,0])) [3,4,5,6,7], .code (csub (cd Try.f14) [1,1,1])] [(0, .string (sb s)), (25, .bool (!(decide (s = []))))] w (by kernel_rfl) (.cons o7 .nil) ?_
        refine GoS.fork 25 (!(decide (s = []))) (by kernel_rfl) (fun h8 => ?_) (fun h8 => ?_)
        ·
          have h8p : ¬ (s = []) := of_decide_eq_false (p_nf h8)
          have hb9 := bl_bd s 0
          have o10 : (Instr.index 9 (.string (sb s)) (.int .i64 0)).run Try.prog w = .ok (.int .u8 (bl s 0)) w := f_index 0 (by kernel_rfl) (by omega) (by first | omega | exact List.length_pos_iff.2 (by assumption))
          refine GoS.run [0, 4] [.n, .h (.int .u8 (bl s 0)), .n, .n, .n] _ [.inRegion (cops (csub (cd Try.f14) [1,1,0])) [], .code (csub (cd Try.f14) [1,1,1])] [(0, .string (sb s)), (4, .bool ((bl s 0) == 45))] w (by kernel_rfl) (.cons o10 .nil) ?_
          refine GoS.run [0, 4, 30] [.n, .n, .n, .n, .n, .n] _ [.code (csub (cd Try.f14) [1,1,1,0,1]), .code (csub (cd Try.f14) [1,1,1,1])] [(0, .string (sb s)), (4, .bool ((bl s 0) == 45)), (30, .bool ((bl s 0) == 45))] w (by kernel_rfl) .nil ?_
          refine GoS.cond ((bl s 0) == 45) [.code (csub (cd Try.f14) [1,1,1,0,1,0]), .code (csub (cd Try.f14) [1,1,1,1])] [.code (csub (cd Try.f14) [1,1,1,0,1,1]), .code (csub (cd Try.f14) [1,1,1,1])] (by kernel_rfl) (fun h11 => ?_) (fun h11 => ?_)
          ·
            have h11p : (bl s 0) = 45 := eq_of_beq h11
            have o12 : (Instr.sliceAt 9 (.string (sb s)) (some (.int .i64 1)) none none).run Try.prog w = .ok (.string (sb (List.drop 1 s))) w := f_slice_lo 1 (by kernel_rfl) (by omega) (by first | omega | exact List.length_pos_iff.2 (by assumption))
            refine GoS.run [0, 4] [.n, .n, .h (.string (sb (List.drop 1 s))), .n, .n] _ [.code (csub (cd Try.f14) [1,1,1,1])] [(0, .string (sb (List.drop 1 s))), (4, .bool ((bl s 0) == 45))] w (by kernel_rfl) (.cons o12 .nil) ?_
            have o13 : (Builtin.len_ #[9] 3 #[.string (sb (List.drop 1 s))]).run Try.prog w = .ok (.int .i64 (((List.drop 1 s).length : Nat) : Int)) w := f_len (by kernel_rfl)
            refine GoS.run [0, 4, 5, 6, 7, 8, 34, 35] [.n, .n, .n, .n, .n, .n, .n, .n, .n, .n, .n, .h (.int .i64 (((List.drop 1 s).length : Nat) : Int)), .n, .n, .n, .n] _ [.code (csub (cd Try.f14) [1,1,1,1,1,0,1,0,0]), .inLoop (csub (cd Try.f14) [1,1,1,1,1,0,1,0,0]), .inBlock 1, .code (csub (cd Try.f14) [1,1,1,1,1,1])] [(0, .string (sb (List.drop 1 s))), (4, .bool ((bl s 0) == 45)), (5, .int .i64 0), (6, .int .i64 0), (7, .float .f64 4607182418800017408), (8, .bool false), (34, .int .i64 (((List.drop 1 s).length : Nat) : Int)), (35, .int .i64 0)] w (by kernel_rfl) (.cons o13 .nil) ?_
            obtain ⟨e1, e2⟩ := parse_neg h2p h4p h6p (minus_yes h8p h11)
            exact GoS.cast (by rw [h11]; rfl) (parse_Ln (List.drop 1 s) (by rw [List.length_drop]; omega) w (scan false 0 0 ((List.drop 1 s).drop 0)) R (by rw [hR, e1, e2]) ((List.drop 1 s).length + 1) 0 0 0 rfl (by omega) (by decide) (by omega) (by omega))
          ·
            have h11p : ¬ ((bl s 0) = 45) := p_ne h11
            refine GoS.run [0, 4] [.n] _ [.code (csub (cd Try.f14) [1,1,1,1])] [(0, .string (sb s)), (4, .bool ((bl s 0) == 45))] w (by kernel_rfl) .nil ?_
            have o14 : (Builtin.len_ #[9] 3 #[.string (sb s)]).run Try.prog w = .ok (.int .i64 ((s.length : Nat) : Int)) w := f_len (by kernel_rfl)
            refine GoS.run [0, 4, 5, 6, 7, 8, 34, 35] [.n, .n, .n, .n, .n, .n, .n, .n, .n, .n, .n, .h (.int .i64 ((s.length : Nat) : Int)), .n, .n, .n, .n] _ [.code (csub (cd Try.f14) [1,1,1,1,1,0,1,0,0]), .inLoop (csub (cd Try.f14) [1,1,1,1,1,0,1,0,0]), .inBlock 1, .code (csub (cd Try.f14) [1,1,1,1,1,1])] [(0, .string (sb s)), (4, .bool ((bl s 0) == 45)), (5, .int .i64 0), (6, .int .i64 0), (7, .float .f64 4607182418800017408), (8, .bool false), (34, .int .i64 ((s.length : Nat) : Int)), (35, .int .i64 0)] w (by kernel_rfl) (.cons o14 .nil) ?_
            obtain ⟨e1, e2⟩ := parse_pos h2p h4p h6p (minus_no h11)
            exact GoS.cast (by rw [h11]; rfl) (parse_Lp s (by omega) w (scan false 0 0 (s.drop 0)) R (by rw [hR, e1, e2]) (s.length + 1) 0 0 0 rfl (by omega) (by decide) (by omega) (by omega))
        ·
          have h8p : s = [] := of_decide_eq_true (p_nt h8)
          refine GoS.run [0, 4] [.n, .n, .n, .n, .n] _ [.inRegion (cops (csub (cd Try.f14) [1,1,0])) [], .code (csub (cd Try.f14) [1,1,1])] [(0, .string (sb s)), (4, .bool false)] w (by kernel_rfl) .nil ?_
          have o15 : (Builtin.len_ #[9] 3 #[.string (sb s)]).run Try.prog w = .ok (.int .i64 ((s.length : Nat) : Int)) w := f_len (by kernel_rfl)
          refine GoS.run [0, 4, 5, 6, 7, 8, 34, 35] [.n, .n, .n, .n, .n, .n, .n, .n, .n, .n, .n, .n, .n, .n, .n, .n, .n, .n, .n, .h (.int .i64 ((s.length : Nat) : Int)), .n, .n, .n, .n] _ [.code (csub (cd Try.f14) [1,1,1,1,1,0,1,0,0]), .inLoop (csub (cd Try.f14) [1,1,1,1,1,0,1,0,0]), .inBlock 1, .code (csub (cd Try.f14) [1,1,1,1,1,1])] [(0, .string (sb s)), (4, .bool false), (5, .int .i64 0), (6, .int .i64 0), (7, .float .f64 4607182418800017408), (8, .bool false), (34, .int .i64 ((s.length : Nat) : Int)), (35, .int .i64 0)] w (by kernel_rfl) (.cons o15 .nil) ?_
          obtain ⟨e1, e2⟩ := parse_pos h2p h4p h6p (minus_nil (by simpa using h8))
          exact GoS.cast (by rfl) (parse_Lp s (by omega) w (scan false 0 0 (s.drop 0)) R (by rw [hR, e1, e2]) (s.length + 1) 0 0 0 rfl (by omega) (by decide) (by omega) (by omega))


end Go.Proofs.Ythioghimgiknkaa
