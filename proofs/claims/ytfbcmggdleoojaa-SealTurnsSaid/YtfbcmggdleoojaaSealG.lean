/-
  The walks of awake and of the laws of layer 2.
-/
import Derived.Test.YtfbcmggdleoojaaSealC
import Derived.Test.YtfbcmggdleoojaaSealT
namespace Go.Proofs.Ytfbcmggdleoojaa
open Go Go.Gw Go.NumP Go.CrcP Go.SealP Go.RowKit
set_option linter.unusedVariables false
set_option linter.unusedSimpArgs false

theorem pE5 : Plain Try.prog 5 := ⟨.int .u8, by kernel_rfl, (fun _ h => by cases h), (fun _ _ h => by cases h)⟩

set_option maxHeartbeats 400000 in
theorem turn_c (s : List UInt8) (bit : Int) (hs : s.length ≤ 140737488355328) (w : World) :
    Calls Try.prog 14 #[.string (sb s), .int .i64 bit] w (fun e w' => e = .returned (.string (sb (turnP s bit))) ∧ Mem [] w w' []) := by
  obtain ⟨R, hR⟩ : ∃ R : Ending → World → Prop, R = (fun e w' => e = .returned (.string (sb (turnP s bit))) ∧ Mem [] w w' []) := ⟨_, rfl⟩
  rw [← hR]
  refine GoS.enter (n := 34) Try.func14 (by kernel_rfl) rfl [(0, .string (sb s)), (1, .int .i64 bit)] (by kernel_rfl) (by kernel_rfl) ?_
  have hM0 := Mem.start w
  refine GoS.run [0, 1, 8] [.n, .n, .n, .n, .n, .n, .n, .n, .n, .n] _ [.inRegion (cops (csub (cd Try.f14) [1,0,0])) [3,4,5,6,7,8], .code (csub (cd Try.f14) [1,0,1]), .code (csub (cd Try.f14) [1,1])] [(0, .string (sb s)), (1, .int .i64 bit), (8, .bool (decide (bit < 0)))] w (by kernel_rfl) .nil ?_
  refine GoS.fork 8 (decide (bit < 0)) (by kernel_rfl) (fun h1 => ?_) (fun h1 => ?_)
  ·
    have h1p : bit < 0 := of_decide_eq_true h1
    refine GoS.run [0, 1, 14] [.n, .n, .n, .n, .n, .n] _ [.inRegion (cops (csub (cd Try.f14) [1,0,0])) [], .code (csub (cd Try.f14) [1,0,1]), .code (csub (cd Try.f14) [1,1])] [(0, .string (sb s)), (1, .int .i64 bit), (14, .bool true)] w (by kernel_rfl) .nil ?_
    refine GoS.run [4] [.n, .n, .n, .n, .n, .n, .n] _ [.code (csub (cd Try.f14) [1,0,1,0,1]), .code (csub (cd Try.f14) [1,1])] [(4, .string (sb s))] w (by kernel_rfl) .nil ?_
    refine GoS.ret (fn := Try.f14) (v := (.string (sb s))) Try.func14 (by kernel_rfl) ?_
    rw [hR]
    exact ⟨ret_str (turn_none (by omega)).symm, hM0⟩
  ·
    have h1p : ¬ (bit < 0) := of_decide_eq_false h1
    have o2 : (Builtin.len_ #[9] 3 #[.string (sb s)]).run Try.prog w = .ok (.int .i64 ((s.length : Nat) : Int)) w := f_len (by kernel_rfl)
    have o3 : (binOp .mul 3 (.int .i64 8) (.int .i64 ((s.length : Nat) : Int))).run Try.prog w = .ok (.int .i64 (((8 * s.length) : Nat) : Int)) w := f_mul (by rw [show 8 * ((s.length : Nat) : Int) = (((8 * s.length) : Nat) : Int) by omega]; exact IntWalk.i64_in _ (by omega))
    refine GoS.run [0, 1, 14] [.n, .n, .h (.int .i64 ((s.length : Nat) : Int)), .h (.int .i64 (((8 * s.length) : Nat) : Int)), .n, .n] _ [.inRegion (cops (csub (cd Try.f14) [1,0,0])) [], .code (csub (cd Try.f14) [1,0,1]), .code (csub (cd Try.f14) [1,1])] [(0, .string (sb s)), (1, .int .i64 bit), (14, .bool (decide (bit ≥ (((8 * s.length) : Nat) : Int))))] w (by kernel_rfl) (.cons o2 (.cons o3 .nil)) ?_
    refine GoS.run [0, 1, 14] [.n] _ [.code (csub (cd Try.f14) [1,0,1]), .code (csub (cd Try.f14) [1,1])] [(0, .string (sb s)), (1, .int .i64 bit), (14, .bool (decide (bit ≥ (((8 * s.length) : Nat) : Int))))] w (by kernel_rfl) .nil ?_
    refine GoS.cond (decide (bit ≥ (((8 * s.length) : Nat) : Int))) [.code (csub (cd Try.f14) [1,0,1,0]), .code (csub (cd Try.f14) [1,1])] [.code (csub (cd Try.f14) [1,0,1,1]), .code (csub (cd Try.f14) [1,1])] (by kernel_rfl) (fun h4 => ?_) (fun h4 => ?_)
    ·
      have h4p : bit ≥ (((8 * s.length) : Nat) : Int) := of_decide_eq_true h4
      refine GoS.run [4] [.n, .n, .n, .n, .n] _ [.code (csub (cd Try.f14) [1,0,1,0,1]), .code (csub (cd Try.f14) [1,1])] [(4, .string (sb s))] w (by kernel_rfl) .nil ?_
      refine GoS.ret (fn := Try.f14) (v := (.string (sb s))) Try.func14 (by kernel_rfl) ?_
      rw [hR]
      exact ⟨ret_str (turn_none (by omega)).symm, hM0⟩
    ·
      have h4p : ¬ (bit ≥ (((8 * s.length) : Nat) : Int)) := of_decide_eq_false h4
      refine GoS.run [0, 1] [.n] _ [.code (csub (cd Try.f14) [1,1])] [(0, .string (sb s)), (1, .int .i64 bit)] w (by kernel_rfl) .nil ?_
      obtain ⟨v5, w6, hr7, hM8, hB9⟩ := bts_of (src := 9) (dst := 34) (e := 5) (by kernel_rfl) (by kernel_rfl) (by kernel_rfl) hM0 s (by omega)
      have o20 : (convert 9 34 (.string (sb s))).run Try.prog w = .ok v5 w6 := hr7
      have o21 : (binOp .quo 3 (.int .i64 bit) (.int .i64 8)).run Try.prog w6 = .ok (.int .i64 (bit / 8)) w6 := f_quo (by decide) (IntWalk.i64_quo _ _ (by omega))
      have o22 : (binOp .quo 3 (.int .i64 bit) (.int .i64 8)).run Try.prog w6 = .ok (.int .i64 (bit / 8)) w6 := f_quo (by decide) (IntWalk.i64_quo _ _ (by omega))
      obtain ⟨p10, hp11, hq12⟩ := rd_at (i := (bit / 8)) sT34 hB9.rd (Int.toNat (bit / 8)) (by omega) (by first | omega | (rw [numsOf_len]; omega))
      have o23 : (Instr.indexAt 34 (v5) (.int .i64 (bit / 8))).run Try.prog w6 = .ok (.pointer (some p10)) w6 := hq12 _ _
      have o24 : (Instr.loadAt 5 (.pointer (some p10))).run Try.prog w6 = .ok (.int .u8 (List.getD (numsOf s) (Int.toNat (bit / 8)) 0)) w6 := at_load pE5 hB9.rd hp11 (ivals_at (by first | omega | (rw [numsOf_len]; omega)))
      have o25 : (binOp .rem 3 (.int .i64 bit) (.int .i64 8)).run Try.prog w6 = .ok (.int .i64 (bit % 8)) w6 := f_rem (by decide) (IntWalk.rem_in _ _ (by omega))
      have o26 : (convert 3 36 (.int .i64 (bit % 8))).run Try.prog w6 = .ok (.int .u64 (((Int.toNat (bit % 8)) : Nat) : Int)) w6 := f_conv (u := .int .i64) (by kernel_rfl) (by kernel_rfl) ((IntWalk.u64_in _ (by omega)).trans (by omega))
      have o27 : (binOp .shl 5 (.int .u8 1) (.int .u64 (((Int.toNat (bit % 8)) : Nat) : Int))).run Try.prog w6 = .ok (.int .u8 (((2 ^ (Int.toNat (bit % 8))) : Nat) : Int)) w6 := f_shl (by omega) (shl8 (by omega))
      have o28 : (binOp .xor 5 (.int .u8 (List.getD (numsOf s) (Int.toNat (bit / 8)) 0)) (.int .u8 (((2 ^ (Int.toNat (bit % 8))) : Nat) : Int))).run Try.prog w6 = .ok (.int .u8 ((bn s (Int.toNat (bit / 8)) ^^^ 2 ^ Int.toNat (bit % 8) : Nat) : Int)) w6 := f_xor (turn_xor (by omega))
      obtain ⟨p13, hp14, hq15⟩ := rd_at (i := (bit / 8)) sT34 hB9.rd (Int.toNat (bit / 8)) (by omega) (by first | omega | (rw [numsOf_len]; omega))
      have o29 : (Instr.indexAt 34 (v5) (.int .i64 (bit / 8))).run Try.prog w6 = .ok (.pointer (some p13)) w6 := hq15 _ _
      obtain ⟨w16, hr17, hB18⟩ := bts_store (by kernel_rfl : Program.cellsOf Try.prog 5 = 1) hB9 hp14 (by first | omega | (rw [numsOf_len]; omega)) ((bn s (Int.toNat (bit / 8)) ^^^ 2 ^ Int.toNat (bit % 8) : Nat) : Int)
      have hM19 := hB18.mem
      have o30 : (Instr.storeAt 5 (.pointer (some p13)) (.int .u8 ((bn s (Int.toNat (bit / 8)) ^^^ 2 ^ Int.toNat (bit % 8) : Nat) : Int))).run Try.prog w6 = .ok () w16 ∧ undef = undef := ⟨hr17, rfl⟩
      have o31 : (convert 34 9 (v5)).run Try.prog w16 = .ok (.string (sb (bytesOf (List.set (numsOf s) (Int.toNat (bit / 8)) ((bn s (Int.toNat (bit / 8)) ^^^ 2 ^ Int.toNat (bit % 8) : Nat) : Int))))) w16 := f_string_i sT34 (by kernel_rfl) (by kernel_rfl) hB18.rd (by exact set_bd (numsOf_bd _) (by have := turn_lt s (Int.toNat (bit / 8)) (r := Int.toNat (bit % 8)) (by omega); omega))
      refine GoS.run [4] [.n, .n, .n, .u (v5) (w6), .n, .n, .n, .n, .n, .n, .h (.int .i64 (bit / 8)), .n, .n, .h (.int .i64 (bit / 8)), .h (.pointer (some p10)), .h (.int .u8 (List.getD (numsOf s) (Int.toNat (bit / 8)) 0)), .n, .h (.int .i64 (bit % 8)), .h (.int .u64 (((Int.toNat (bit % 8)) : Nat) : Int)), .h (.int .u8 (((2 ^ (Int.toNat (bit % 8))) : Nat) : Int)), .h (.int .u8 ((bn s (Int.toNat (bit / 8)) ^^^ 2 ^ Int.toNat (bit % 8) : Nat) : Int)), .h (.pointer (some p13)), .u (undef) (w16), .n, .n, .n, .n, .h (.string (sb (bytesOf (List.set (numsOf s) (Int.toNat (bit / 8)) ((bn s (Int.toNat (bit / 8)) ^^^ 2 ^ Int.toNat (bit % 8) : Nat) : Int))))), .n, .n] _ [.code (csub (cd Try.f14) [1,1,1,1,1])] [(4, .string (sb (bytesOf (List.set (numsOf s) (Int.toNat (bit / 8)) ((bn s (Int.toNat (bit / 8)) ^^^ 2 ^ Int.toNat (bit % 8) : Nat) : Int)))))] w16 (by kernel_rfl) (.cons o20 (.cons o21 (.cons o22 (.cons o23 (.cons o24 (.cons o25 (.cons o26 (.cons o27 (.cons o28 (.cons o29 (.cons o30 (.cons o31 .nil)))))))))))) ?_
      refine GoS.ret (fn := Try.f14) (v := (.string (sb (bytesOf (List.set (numsOf s) (Int.toNat (bit / 8)) ((bn s (Int.toNat (bit / 8)) ^^^ 2 ^ Int.toNat (bit % 8) : Nat) : Int)))))) Try.func14 (by kernel_rfl) ?_
      rw [hR]
      exact ⟨ret_str (turn_some (by omega) (by omega)), hM19⟩

set_option maxHeartbeats 400000 in
theorem awake_c (w : World) :
    Calls Try.prog 9 #[] w (fun e w' => e = .returned (.bool true) ∧ Mem [] w w' []) := by
  obtain ⟨R, hR⟩ : ∃ R : Ending → World → Prop, R = (fun e w' => e = .returned (.bool true) ∧ Mem [] w w' []) := ⟨_, rfl⟩
  rw [← hR]
  refine GoS.enter (n := 38) Try.func9 (by kernel_rfl) rfl [] (by kernel_rfl) (by kernel_rfl) ?_
  have hM0 := Mem.start w
  refine GoS.run [] [.n, .n, .n, .n, .n, .n] _ [.inRegion (cops (csub (cd Try.f9) [1,0])) [0,1,2,3,4,5], .code (csub (cd Try.f9) [1,1])] [] w (by kernel_rfl) .nil ?_
  refine GoS.call [] 7 #[.int .i64 1, .string (sb ([97] : List UInt8))] (some 6) [.inRegion (cops (csub (cd Try.f9) [1,0])) [1,2,3,4,5], .code (csub (cd Try.f9) [1,1])] [] (by kernel_rfl) (seal_c 1 ([97] : List UInt8) (by decide) w) ?_
  rintro _ w1 ⟨rfl, m2⟩
  refine ⟨_, rfl, ?_⟩
  have hM3 := Mem.join hM0 m2
  have hl4 := sealT_len 1 ([97] : List UInt8)
  refine GoS.run [1, 2, 10] [.n, .n, .n, .n, .n, .n, .n, .n, .n] _ [.inRegion (cops (csub (cd Try.f9) [1,1,0])) [1,2,3,4,5,6], .code (csub (cd Try.f9) [1,1,1])] [(1, .string (sb (sealT 1 ([97] : List UInt8)))), (2, .int .i64 (sealE 1)), (10, .string (sb (sealT 1 ([97] : List UInt8))))] w1 (by kernel_rfl) .nil ?_
  refine GoS.call [1, 2] 12 #[.int .i64 1, .string (sb (sealT 1 ([97] : List UInt8)))] (some 11) [.inRegion (cops (csub (cd Try.f9) [1,1,0])) [2,3,4,5,6], .code (csub (cd Try.f9) [1,1,1])] [(1, .string (sb (sealT 1 ([97] : List UInt8)))), (2, .int .i64 (sealE 1))] (by kernel_rfl) (open_c 1 (sealT 1 ([97] : List UInt8)) (by decide +kernel) w1) ?_
  rintro _ w5 ⟨rfl, m6⟩
  refine ⟨_, rfl, ?_⟩
  have hM7 := Mem.join hM3 m6
  refine GoS.run [1, 2, 3, 4] [.n, .n, .n, .n, .n, .n, .n, .n] _ [.inRegion (cops (csub (cd Try.f9) [1,1,1,0])) [0,1,2,3,4,5,6,7,8,9,10,11,12,13,14,15,16,17,18,19,20,21,22,23,24], .code (csub (cd Try.f9) [1,1,1,1])] [(1, .string (sb (sealT 1 ([97] : List UInt8)))), (2, .int .i64 (sealE 1)), (3, .string (sb (openS 1 (sealT 1 ([97] : List UInt8))))), (4, .int .i64 (openE 1 (sealT 1 ([97] : List UInt8))))] w5 (by kernel_rfl) .nil ?_
  refine GoS.call [1, 2, 3, 4] 10 #[.string (sb ([49, 50, 51, 52, 53, 54, 55, 56, 57] : List UInt8))] (some 14) [.inRegion (cops (csub (cd Try.f9) [1,1,1,0])) [1,2,3,4,5,6,7,8,9,10,11,12,13,14,15,16,17,18,19,20,21,22,23,24], .code (csub (cd Try.f9) [1,1,1,1])] [(1, .string (sb (sealT 1 ([97] : List UInt8)))), (2, .int .i64 (sealE 1)), (3, .string (sb (openS 1 (sealT 1 ([97] : List UInt8))))), (4, .int .i64 (openE 1 (sealT 1 ([97] : List UInt8))))] (by kernel_rfl) (sum_c ([49, 50, 51, 52, 53, 54, 55, 56, 57] : List UInt8) (by decide) w5) ?_
  rintro _ _ ⟨rfl, rfl⟩
  refine ⟨_, rfl, ?_⟩
  have hc8 := crc_lt ([49, 50, 51, 52, 53, 54, 55, 56, 57] : List UInt8)
  have o9 : (IntKind.u32 = IntKind.u32) ∧ w5 = w5 ∧ Value.bool true = .bool ((((crc ([49, 50, 51, 52, 53, 54, 55, 56, 57] : List UInt8)) : Nat) : Int) == 3421780262) := ⟨rfl, rfl, congrArg Value.bool (Eq.symm (by decide +kernel))⟩
  have o10 : (Builtin.len_ #[9] 3 #[.string (sb (sealT 1 ([97] : List UInt8)))]).run Try.prog w5 = .ok (.int .i64 (((sealT 1 ([97] : List UInt8)).length : Nat) : Int)) w5 := f_len (by kernel_rfl)
  have o11 : (IntKind.i64 = IntKind.i64) ∧ w5 = w5 ∧ Value.bool true = .bool ((((sealT 1 ([97] : List UInt8)).length : Nat) : Int) == 10) := ⟨rfl, rfl, congrArg Value.bool (Eq.symm (by decide +kernel))⟩
  have o12 : (Instr.sliceAt 9 (.string (sb (sealT 1 ([97] : List UInt8)))) none (some (.int .i64 6)) none).run Try.prog w5 = .ok (.string (sb (List.take 6 (sealT 1 ([97] : List UInt8))))) w5 := f_slice_hi 6 (by kernel_rfl) (by omega) (by decide +kernel)
  have o13 : (binOp .eql 9 (.string (sb (List.take 6 (sealT 1 ([97] : List UInt8))))) (.string (sb ([103, 108, 115, 1, 129, 97] : List UInt8)))).run Try.prog w5 = .ok (.bool true) w5 := f_streq_yes (by decide +kernel)
  have o14 : (IntKind.i64 = IntKind.i64) ∧ w5 = w5 ∧ Value.bool true = .bool ((sealE 1) == 0) := ⟨rfl, rfl, congrArg Value.bool (Eq.symm (by decide +kernel))⟩
  have o15 : (binOp .eql 9 (.string (sb (openS 1 (sealT 1 ([97] : List UInt8))))) (.string (sb ([97] : List UInt8)))).run Try.prog w5 = .ok (.bool true) w5 := f_streq_yes (by decide +kernel)
  have o16 : (IntKind.i64 = IntKind.i64) ∧ w5 = w5 ∧ Value.bool true = .bool ((openE 1 (sealT 1 ([97] : List UInt8))) == 0) := ⟨rfl, rfl, congrArg Value.bool (Eq.symm (by decide +kernel))⟩
  refine GoS.run [0] [.h (.bool true), .n, .n, .h (.int .i64 (((sealT 1 ([97] : List UInt8)).length : Nat) : Int)), .h (.bool true), .n, .n, .n, .h (.string (sb (List.take 6 (sealT 1 ([97] : List UInt8))))), .h (.bool true), .n, .n, .n, .h (.bool true), .n, .n, .n, .h (.bool true), .n, .n, .n, .h (.bool true), .n, .n, .n] _ [.code (csub (cd Try.f9) [1,1,1,1])] [(0, .bool true)] w5 (by kernel_rfl) (.cons o9 (.cons o10 (.cons o11 (.cons o12 (.cons o13 (.cons o14 (.cons o15 (.cons o16 .nil)))))))) ?_
  refine GoS.ret (fn := Try.f9) (v := (.bool true)) Try.func9 (by kernel_rfl) ?_
  rw [hR]
  exact ⟨ret_bool (by decide +kernel), hM7⟩

set_option maxHeartbeats 400000 in
theorem lseals_c (kind : Int) (s : List UInt8) (w : World) (hs : s.length ≤ 1048576) :
    Calls Try.prog 3 #[.int .i64 kind, .string (sb s)] w (fun e w' => e = .returned (.bool true) ∧ Below w.heap.size w w') := by
  obtain ⟨R, hR⟩ : ∃ R : Ending → World → Prop, R = (fun e w' => e = .returned (.bool true) ∧ Below w.heap.size w w') := ⟨_, rfl⟩
  rw [← hR]
  refine GoS.enter (n := 39) Try.func3 (by kernel_rfl) rfl [(0, .int .i64 kind), (1, .string (sb s))] (by kernel_rfl) (by kernel_rfl) ?_
  have hM0 := Mem.start w
  refine GoS.run [0, 1, 10, 11] [.n, .n, .n, .n, .n, .n, .n, .n] _ [.inRegion (cops (csub (cd Try.f3) [1,0])) [2,3,4,5,6,7], .code (csub (cd Try.f3) [1,1])] [(0, .int .i64 kind), (1, .string (sb s)), (10, .int .i64 kind), (11, .string (sb s))] w (by kernel_rfl) .nil ?_
  refine GoS.call [0, 1] 7 #[.int .i64 kind, .string (sb s)] (some 12) [.inRegion (cops (csub (cd Try.f3) [1,0])) [3,4,5,6,7], .code (csub (cd Try.f3) [1,1])] [(0, .int .i64 kind), (1, .string (sb s))] (by kernel_rfl) (seal_c kind s (by omega) w) ?_
  rintro _ w1 ⟨rfl, m2⟩
  refine ⟨_, rfl, ?_⟩
  have hM3 := Mem.join hM0 m2
  have hl4 := sealT_len kind s
  refine GoS.run [1, 5, 6, 16, 17] [.n, .n, .n, .n, .n, .n, .n, .n, .n, .n] _ [.inRegion (cops (csub (cd Try.f3) [1,1,0])) [2,3,4,5,6,7], .code (csub (cd Try.f3) [1,1,1])] [(1, .string (sb s)), (5, .string (sb (sealT kind s))), (6, .int .i64 (sealE kind)), (16, .int .i64 kind), (17, .string (sb s))] w1 (by kernel_rfl) .nil ?_
  refine GoS.call [1, 5, 6] 8 #[.int .i64 kind, .string (sb s)] (some 18) [.inRegion (cops (csub (cd Try.f3) [1,1,0])) [3,4,5,6,7], .code (csub (cd Try.f3) [1,1,1])] [(1, .string (sb s)), (5, .string (sb (sealT kind s))), (6, .int .i64 (sealE kind))] (by kernel_rfl) (rseal_c kind s (by omega) w1) ?_
  rintro _ w5 ⟨rfl, m6⟩
  refine ⟨_, rfl, ?_⟩
  have hM7 := Mem.join hM3 m6
  have hl8 := sealT_len kind s
  refine GoS.run [1, 5, 6, 7, 8] [.n, .n, .n, .n, .n, .n, .n, .n] _ [.inRegion (cops (csub (cd Try.f3) [1,1,1,0])) [0,1,2,3,4,5,6,7,8,9,10,11,12,13,14,15,16,17,18], .code (csub (cd Try.f3) [1,1,1,1])] [(1, .string (sb s)), (5, .string (sb (sealT kind s))), (6, .int .i64 (sealE kind)), (7, .string (sb (sealT kind s))), (8, .int .i64 (sealE kind))] w5 (by kernel_rfl) .nil ?_
  refine GoS.call [1, 5, 6, 7, 8] 9 #[] (some 21) [.inRegion (cops (csub (cd Try.f3) [1,1,1,0])) [1,2,3,4,5,6,7,8,9,10,11,12,13,14,15,16,17,18], .code (csub (cd Try.f3) [1,1,1,1])] [(1, .string (sb s)), (5, .string (sb (sealT kind s))), (6, .int .i64 (sealE kind)), (7, .string (sb (sealT kind s))), (8, .int .i64 (sealE kind))] (by kernel_rfl) (awake_c w5) ?_
  rintro _ w9 ⟨rfl, m10⟩
  refine ⟨_, rfl, ?_⟩
  have hM11 := Mem.join hM7 m10
  refine GoS.run [1, 5, 6, 7, 8, 22, 23] [.n, .n] _ [.inRegion (cops (csub (cd Try.f3) [1,1,1,0])) [3,4,5,6,7,8,9,10,11,12,13,14,15,16,17,18], .code (csub (cd Try.f3) [1,1,1,1])] [(1, .string (sb s)), (5, .string (sb (sealT kind s))), (6, .int .i64 (sealE kind)), (7, .string (sb (sealT kind s))), (8, .int .i64 (sealE kind)), (22, .bool true), (23, .string (sb s))] w9 (by kernel_rfl) .nil ?_
  refine GoS.call [1, 5, 6, 7, 8, 22] 10 #[.string (sb s)] (some 24) [.inRegion (cops (csub (cd Try.f3) [1,1,1,0])) [4,5,6,7,8,9,10,11,12,13,14,15,16,17,18], .code (csub (cd Try.f3) [1,1,1,1])] [(1, .string (sb s)), (5, .string (sb (sealT kind s))), (6, .int .i64 (sealE kind)), (7, .string (sb (sealT kind s))), (8, .int .i64 (sealE kind)), (22, .bool true)] (by kernel_rfl) (sum_c s (by omega) w9) ?_
  rintro _ _ ⟨rfl, rfl⟩
  refine ⟨_, rfl, ?_⟩
  have hc12 := crc_lt s
  refine GoS.run [5, 6, 7, 8, 22, 24, 25] [.n] _ [.inRegion (cops (csub (cd Try.f3) [1,1,1,0])) [5,6,7,8,9,10,11,12,13,14,15,16,17,18], .code (csub (cd Try.f3) [1,1,1,1])] [(5, .string (sb (sealT kind s))), (6, .int .i64 (sealE kind)), (7, .string (sb (sealT kind s))), (8, .int .i64 (sealE kind)), (22, .bool true), (24, .int .u32 (((crc s) : Nat) : Int)), (25, .string (sb s))] w9 (by kernel_rfl) .nil ?_
  refine GoS.call [5, 6, 7, 8, 22, 24] 11 #[.string (sb s)] (some 26) [.inRegion (cops (csub (cd Try.f3) [1,1,1,0])) [6,7,8,9,10,11,12,13,14,15,16,17,18], .code (csub (cd Try.f3) [1,1,1,1])] [(5, .string (sb (sealT kind s))), (6, .int .i64 (sealE kind)), (7, .string (sb (sealT kind s))), (8, .int .i64 (sealE kind)), (22, .bool true), (24, .int .u32 (((crc s) : Nat) : Int))] (by kernel_rfl) (rsum_c s (by omega) w9) ?_
  rintro _ w13 ⟨rfl, m14⟩
  refine ⟨_, rfl, ?_⟩
  have hM15 := Mem.join hM11 m14
  have hc16 := crc_lt s
  have o17 : (IntKind.u32 = IntKind.u32) ∧ w13 = w13 ∧ Value.bool true = .bool ((((crc s) : Nat) : Int) == (((crc s) : Nat) : Int)) := ⟨rfl, rfl, congrArg Value.bool (Eq.symm (beq_self_eq_true _))⟩
  have o18 : (binOp .eql 9 (.string (sb (sealT kind s))) (.string (sb (sealT kind s)))).run Try.prog w13 = .ok (.bool true) w13 := f_streq_yes (rfl)
  have o19 : (IntKind.i64 = IntKind.i64) ∧ w13 = w13 ∧ Value.bool true = .bool ((sealE kind) == (sealE kind)) := ⟨rfl, rfl, congrArg Value.bool (Eq.symm (beq_self_eq_true _))⟩
  refine GoS.run [4] [.h (.bool true), .n, .n, .n, .n, .h (.bool true), .n, .n, .n, .n, .h (.bool true), .n, .n, .n] _ [.code (csub (cd Try.f3) [1,1,1,1])] [(4, .bool true)] w13 (by kernel_rfl) (.cons o17 (.cons o18 (.cons o19 .nil))) ?_
  refine GoS.ret (fn := Try.f3) (v := (.bool true)) Try.func3 (by kernel_rfl) ?_
  rw [hR]
  exact ⟨rfl, hM15.below⟩

set_option maxHeartbeats 400000 in
theorem lopens_c (kind : Int) (b : List UInt8) (w : World) (hs : b.length ≤ 1048576) :
    Calls Try.prog 4 #[.int .i64 kind, .string (sb b)] w (fun e w' => e = .returned (.bool true) ∧ Below w.heap.size w w') := by
  obtain ⟨R, hR⟩ : ∃ R : Ending → World → Prop, R = (fun e w' => e = .returned (.bool true) ∧ Below w.heap.size w w') := ⟨_, rfl⟩
  rw [← hR]
  refine GoS.enter (n := 32) Try.func4 (by kernel_rfl) rfl [(0, .int .i64 kind), (1, .string (sb b))] (by kernel_rfl) (by kernel_rfl) ?_
  have hM0 := Mem.start w
  refine GoS.run [0, 1, 10, 11] [.n, .n, .n, .n, .n, .n, .n, .n] _ [.inRegion (cops (csub (cd Try.f4) [1,0])) [2,3,4,5,6,7], .code (csub (cd Try.f4) [1,1])] [(0, .int .i64 kind), (1, .string (sb b)), (10, .int .i64 kind), (11, .string (sb b))] w (by kernel_rfl) .nil ?_
  refine GoS.call [0, 1] 12 #[.int .i64 kind, .string (sb b)] (some 12) [.inRegion (cops (csub (cd Try.f4) [1,0])) [3,4,5,6,7], .code (csub (cd Try.f4) [1,1])] [(0, .int .i64 kind), (1, .string (sb b))] (by kernel_rfl) (open_c kind b (by omega) w) ?_
  rintro _ w1 ⟨rfl, m2⟩
  refine ⟨_, rfl, ?_⟩
  have hM3 := Mem.join hM0 m2
  refine GoS.run [5, 6, 16, 17] [.n, .n, .n, .n, .n, .n, .n, .n, .n, .n] _ [.inRegion (cops (csub (cd Try.f4) [1,1,0])) [2,3,4,5,6,7], .code (csub (cd Try.f4) [1,1,1])] [(5, .string (sb (openS kind b))), (6, .int .i64 (openE kind b)), (16, .int .i64 kind), (17, .string (sb b))] w1 (by kernel_rfl) .nil ?_
  refine GoS.call [5, 6] 13 #[.int .i64 kind, .string (sb b)] (some 18) [.inRegion (cops (csub (cd Try.f4) [1,1,0])) [3,4,5,6,7], .code (csub (cd Try.f4) [1,1,1])] [(5, .string (sb (openS kind b))), (6, .int .i64 (openE kind b))] (by kernel_rfl) (ropen_c kind b (by omega) w1) ?_
  rintro _ w4 ⟨rfl, m5⟩
  refine ⟨_, rfl, ?_⟩
  have hM6 := Mem.join hM3 m5
  refine GoS.run [5, 6, 7, 8] [.n, .n, .n, .n, .n, .n, .n, .n] _ [.inRegion (cops (csub (cd Try.f4) [1,1,1,0])) [0,1,2,3,4,5,6,7,8,9,10,11], .code (csub (cd Try.f4) [1,1,1,1])] [(5, .string (sb (openS kind b))), (6, .int .i64 (openE kind b)), (7, .string (sb (openS kind b))), (8, .int .i64 (openE kind b))] w4 (by kernel_rfl) .nil ?_
  refine GoS.call [5, 6, 7, 8] 9 #[] (some 21) [.inRegion (cops (csub (cd Try.f4) [1,1,1,0])) [1,2,3,4,5,6,7,8,9,10,11], .code (csub (cd Try.f4) [1,1,1,1])] [(5, .string (sb (openS kind b))), (6, .int .i64 (openE kind b)), (7, .string (sb (openS kind b))), (8, .int .i64 (openE kind b))] (by kernel_rfl) (awake_c w4) ?_
  rintro _ w7 ⟨rfl, m8⟩
  refine ⟨_, rfl, ?_⟩
  have hM9 := Mem.join hM6 m8
  have o10 : (binOp .eql 9 (.string (sb (openS kind b))) (.string (sb (openS kind b)))).run Try.prog w7 = .ok (.bool true) w7 := f_streq_yes (rfl)
  have o11 : (IntKind.i64 = IntKind.i64) ∧ w7 = w7 ∧ Value.bool true = .bool ((openE kind b) == (openE kind b)) := ⟨rfl, rfl, congrArg Value.bool (Eq.symm (beq_self_eq_true _))⟩
  refine GoS.run [4] [.n, .n, .n, .h (.bool true), .n, .n, .n, .n, .h (.bool true), .n, .n, .n] _ [.code (csub (cd Try.f4) [1,1,1,1])] [(4, .bool true)] w7 (by kernel_rfl) (.cons o10 (.cons o11 .nil)) ?_
  refine GoS.ret (fn := Try.f4) (v := (.bool true)) Try.func4 (by kernel_rfl) ?_
  rw [hR]
  exact ⟨rfl, hM9.below⟩

set_option maxHeartbeats 400000 in
theorem lback_c (kind other : Int) (s : List UInt8) (cut : Int) (more : List UInt8) (w : World) (hs : s.length ≤ 140737488351232) (hm : more.length ≤ 140737488351232) :
    Calls Try.prog 5 #[.int .i64 kind, .int .i64 other, .string (sb s), .int .i64 cut, .string (sb more)] w (fun e w' => e = .returned (.bool true) ∧ Below w.heap.size w w') := by
  obtain ⟨R, hR⟩ : ∃ R : Ending → World → Prop, R = (fun e w' => e = .returned (.bool true) ∧ Below w.heap.size w w') := ⟨_, rfl⟩
  rw [← hR]
  refine GoS.enter (n := 112) Try.func5 (by kernel_rfl) rfl [(0, .int .i64 kind), (1, .int .i64 other), (2, .string (sb s)), (3, .int .i64 cut), (4, .string (sb more))] (by kernel_rfl) (by kernel_rfl) ?_
  have hM0 := Mem.start w
  refine GoS.run [0, 1, 2, 3, 4, 22, 23] [.n, .n, .n, .n, .n, .n, .n, .n] _ [.inRegion (cops (csub (cd Try.f5) [1,0])) [2,3,4,5,6,7], .code (csub (cd Try.f5) [1,1])] [(0, .int .i64 kind), (1, .int .i64 other), (2, .string (sb s)), (3, .int .i64 cut), (4, .string (sb more)), (22, .int .i64 kind), (23, .string (sb s))] w (by kernel_rfl) .nil ?_
  refine GoS.call [0, 1, 2, 3, 4] 7 #[.int .i64 kind, .string (sb s)] (some 24) [.inRegion (cops (csub (cd Try.f5) [1,0])) [3,4,5,6,7], .code (csub (cd Try.f5) [1,1])] [(0, .int .i64 kind), (1, .int .i64 other), (2, .string (sb s)), (3, .int .i64 cut), (4, .string (sb more))] (by kernel_rfl) (seal_c kind s (by omega) w) ?_
  rintro _ w1 ⟨rfl, m2⟩
  refine ⟨_, rfl, ?_⟩
  have hM3 := Mem.join hM0 m2
  have hl4 := sealT_len kind s
  refine GoS.run [0, 1, 2, 3, 4, 11, 12] [.n, .n, .n, .n, .n, .n, .n, .n, .n] _ [.inRegion (cops (csub (cd Try.f5) [1,1,0,0])) [0,1,2,3,4,5,6,7,8,9], .code (csub (cd Try.f5) [1,1,0,1]), .code (csub (cd Try.f5) [1,1,1])] [(0, .int .i64 kind), (1, .int .i64 other), (2, .string (sb s)), (3, .int .i64 cut), (4, .string (sb more)), (11, .string (sb (sealT kind s))), (12, .int .i64 (sealE kind))] w1 (by kernel_rfl) .nil ?_
  refine GoS.call [0, 1, 2, 3, 4, 11, 12] 9 #[] (some 27) [.inRegion (cops (csub (cd Try.f5) [1,1,0,0])) [1,2,3,4,5,6,7,8,9], .code (csub (cd Try.f5) [1,1,0,1]), .code (csub (cd Try.f5) [1,1,1])] [(0, .int .i64 kind), (1, .int .i64 other), (2, .string (sb s)), (3, .int .i64 cut), (4, .string (sb more)), (11, .string (sb (sealT kind s))), (12, .int .i64 (sealE kind))] (by kernel_rfl) (awake_c w1) ?_
  rintro _ w5 ⟨rfl, m6⟩
  refine ⟨_, rfl, ?_⟩
  have hM7 := Mem.join hM3 m6
  refine GoS.run [0, 1, 2, 3, 4, 11, 12, 33] [.n, .n, .n, .n, .n, .n] _ [.inRegion (cops (csub (cd Try.f5) [1,1,0,0])) [7,8,9], .code (csub (cd Try.f5) [1,1,0,1]), .code (csub (cd Try.f5) [1,1,1])] [(0, .int .i64 kind), (1, .int .i64 other), (2, .string (sb s)), (3, .int .i64 cut), (4, .string (sb more)), (11, .string (sb (sealT kind s))), (12, .int .i64 (sealE kind)), (33, .bool (decide (kind < 0)))] w5 (by kernel_rfl) .nil ?_
  refine GoS.fork 33 (decide (kind < 0)) (by kernel_rfl) (fun h8 => ?_) (fun h8 => ?_)
  ·
    have h8p : kind < 0 := of_decide_eq_true h8
    refine GoS.run [0, 1, 2, 3, 4, 11, 12, 36] [.n, .n, .n] _ [.inRegion (cops (csub (cd Try.f5) [1,1,0,0])) [], .code (csub (cd Try.f5) [1,1,0,1]), .code (csub (cd Try.f5) [1,1,1])] [(0, .int .i64 kind), (1, .int .i64 other), (2, .string (sb s)), (3, .int .i64 cut), (4, .string (sb more)), (11, .string (sb (sealT kind s))), (12, .int .i64 (sealE kind)), (36, .bool true)] w5 (by kernel_rfl) .nil ?_
    refine GoS.run [11, 12] [.n, .n, .n, .n] _ [.inRegion (cops (csub (cd Try.f5) [1,1,0,1,0,0])) [0,1,2,3,4,5,6,7,8,9], .code (csub (cd Try.f5) [1,1,0,1,0,1]), .code (csub (cd Try.f5) [1,1,1])] [(11, .string (sb (sealT kind s))), (12, .int .i64 (sealE kind))] w5 (by kernel_rfl) .nil ?_
    refine GoS.call [11, 12] 9 #[] (some 37) [.inRegion (cops (csub (cd Try.f5) [1,1,0,1,0,0])) [1,2,3,4,5,6,7,8,9], .code (csub (cd Try.f5) [1,1,0,1,0,1]), .code (csub (cd Try.f5) [1,1,1])] [(11, .string (sb (sealT kind s))), (12, .int .i64 (sealE kind))] (by kernel_rfl) (awake_c w5) ?_
    rintro _ w9 ⟨rfl, m10⟩
    refine ⟨_, rfl, ?_⟩
    have hM11 := Mem.join hM7 m10
    have o12 : (IntKind.i64 = IntKind.i64) ∧ w9 = w9 ∧ Value.bool true = .bool ((sealE kind) == 1) := ⟨rfl, rfl, congrArg Value.bool (Eq.symm (by rw [(seal_no (s := []) (by omega)).1]; rfl))⟩
    have o13 : (binOp .eql 9 (.string (sb (sealT kind s))) (.string (sb ([])))).run Try.prog w9 = .ok (.bool true) w9 := f_streq_yes ((seal_no (by omega)).2)
    refine GoS.run [10] [.n, .n, .h (.bool true), .n, .n, .n, .h (.bool true), .n, .n, .n] _ [.code (csub (cd Try.f5) [1,1,0,1,0,1]), .code (csub (cd Try.f5) [1,1,1])] [(10, .bool true)] w9 (by kernel_rfl) (.cons o12 (.cons o13 .nil)) ?_
    refine GoS.ret (fn := Try.f5) (v := (.bool true)) Try.func5 (by kernel_rfl) ?_
    rw [hR]
    exact ⟨rfl, hM11.below⟩
  ·
    have h8p : ¬ (kind < 0) := of_decide_eq_false h8
    refine GoS.run [0, 1, 2, 3, 4, 11, 12, 36] [.n, .n, .n] _ [.inRegion (cops (csub (cd Try.f5) [1,1,0,0])) [], .code (csub (cd Try.f5) [1,1,0,1]), .code (csub (cd Try.f5) [1,1,1])] [(0, .int .i64 kind), (1, .int .i64 other), (2, .string (sb s)), (3, .int .i64 cut), (4, .string (sb more)), (11, .string (sb (sealT kind s))), (12, .int .i64 (sealE kind)), (36, .bool (decide (kind > 255)))] w5 (by kernel_rfl) .nil ?_
    refine GoS.run [0, 1, 2, 3, 4, 11, 12, 36] [.n] _ [.code (csub (cd Try.f5) [1,1,0,1]), .code (csub (cd Try.f5) [1,1,1])] [(0, .int .i64 kind), (1, .int .i64 other), (2, .string (sb s)), (3, .int .i64 cut), (4, .string (sb more)), (11, .string (sb (sealT kind s))), (12, .int .i64 (sealE kind)), (36, .bool (decide (kind > 255)))] w5 (by kernel_rfl) .nil ?_
    refine GoS.cond (decide (kind > 255)) [.code (csub (cd Try.f5) [1,1,0,1,0]), .code (csub (cd Try.f5) [1,1,1])] [.code (csub (cd Try.f5) [1,1,0,1,1]), .code (csub (cd Try.f5) [1,1,1])] (by kernel_rfl) (fun h14 => ?_) (fun h14 => ?_)
    ·
      have h14p : kind > 255 := of_decide_eq_true h14
      refine GoS.run [11, 12] [.n, .n] _ [.inRegion (cops (csub (cd Try.f5) [1,1,0,1,0,0])) [0,1,2,3,4,5,6,7,8,9], .code (csub (cd Try.f5) [1,1,0,1,0,1]), .code (csub (cd Try.f5) [1,1,1])] [(11, .string (sb (sealT kind s))), (12, .int .i64 (sealE kind))] w5 (by kernel_rfl) .nil ?_
      refine GoS.call [11, 12] 9 #[] (some 37) [.inRegion (cops (csub (cd Try.f5) [1,1,0,1,0,0])) [1,2,3,4,5,6,7,8,9], .code (csub (cd Try.f5) [1,1,0,1,0,1]), .code (csub (cd Try.f5) [1,1,1])] [(11, .string (sb (sealT kind s))), (12, .int .i64 (sealE kind))] (by kernel_rfl) (awake_c w5) ?_
      rintro _ w15 ⟨rfl, m16⟩
      refine ⟨_, rfl, ?_⟩
      have hM17 := Mem.join hM7 m16
      have o18 : (IntKind.i64 = IntKind.i64) ∧ w15 = w15 ∧ Value.bool true = .bool ((sealE kind) == 1) := ⟨rfl, rfl, congrArg Value.bool (Eq.symm (by rw [(seal_no (s := []) (by omega)).1]; rfl))⟩
      have o19 : (binOp .eql 9 (.string (sb (sealT kind s))) (.string (sb ([])))).run Try.prog w15 = .ok (.bool true) w15 := f_streq_yes ((seal_no (by omega)).2)
      refine GoS.run [10] [.n, .n, .h (.bool true), .n, .n, .n, .h (.bool true), .n, .n, .n] _ [.code (csub (cd Try.f5) [1,1,0,1,0,1]), .code (csub (cd Try.f5) [1,1,1])] [(10, .bool true)] w15 (by kernel_rfl) (.cons o18 (.cons o19 .nil)) ?_
      refine GoS.ret (fn := Try.f5) (v := (.bool true)) Try.func5 (by kernel_rfl) ?_
      rw [hR]
      exact ⟨rfl, hM17.below⟩
    ·
      have h14p : ¬ (kind > 255) := of_decide_eq_false h14
      refine GoS.run [0, 1, 2, 3, 4, 11, 12] [.n] _ [.code (csub (cd Try.f5) [1,1,1])] [(0, .int .i64 kind), (1, .int .i64 other), (2, .string (sb s)), (3, .int .i64 cut), (4, .string (sb more)), (11, .string (sb (sealT kind s))), (12, .int .i64 (sealE kind))] w5 (by kernel_rfl) .nil ?_
      refine GoS.run [0, 1, 2, 3, 4, 11, 12, 47, 48] [.n, .n, .n, .n] _ [.inRegion (cops (csub (cd Try.f5) [1,1,1,0])) [2,3,4,5,6,7], .code (csub (cd Try.f5) [1,1,1,1])] [(0, .int .i64 kind), (1, .int .i64 other), (2, .string (sb s)), (3, .int .i64 cut), (4, .string (sb more)), (11, .string (sb (sealT kind s))), (12, .int .i64 (sealE kind)), (47, .int .i64 kind), (48, .string (sb (sealT kind s)))] w5 (by kernel_rfl) .nil ?_
      refine GoS.call [0, 1, 2, 3, 4, 11, 12] 12 #[.int .i64 kind, .string (sb (sealT kind s))] (some 49) [.inRegion (cops (csub (cd Try.f5) [1,1,1,0])) [3,4,5,6,7], .code (csub (cd Try.f5) [1,1,1,1])] [(0, .int .i64 kind), (1, .int .i64 other), (2, .string (sb s)), (3, .int .i64 cut), (4, .string (sb more)), (11, .string (sb (sealT kind s))), (12, .int .i64 (sealE kind))] (by kernel_rfl) (open_c kind (sealT kind s) (by first | omega | (rw [List.length_append]; omega) | (rw [List.length_take]; omega)) w5) ?_
      rintro _ w20 ⟨rfl, m21⟩
      refine ⟨_, rfl, ?_⟩
      have hM22 := Mem.join hM7 m21
      have o23 : (IntKind.i64 = IntKind.i64) ∧ w20 = w20 ∧ Value.bool false = .bool ((sealE kind) != 0) := ⟨rfl, rfl, congrArg Value.bool (Eq.symm (by rw [seal_yes (by omega) (by omega)]; rfl))⟩
      have o24 : (IntKind.i64 = IntKind.i64) ∧ w20 = w20 ∧ Value.bool false = .bool ((openE kind (sealT kind s)) != 0) := ⟨rfl, rfl, congrArg Value.bool (Eq.symm (by rw [(open_seal (show isKind kind from ⟨by omega, by omega⟩) (by omega)).1]; rfl))⟩
      have o25 : (binOp .neq 9 (.string (sb (openS kind (sealT kind s)))) (.string (sb s))).run Try.prog w20 = .ok (.bool false) w20 := f_strneq_yes ((open_seal (show isKind kind from ⟨by omega, by omega⟩) (by omega)).2)
      refine GoS.run [0, 1, 3, 4, 11, 64, 65] [.n, .n, .n, .n, .n, .n, .n, .n, .n, .n, .h (.bool false), .n, .n, .h (.bool false), .n, .n, .n, .n, .h (.bool false), .n, .n, .n, .n, .n, .n, .n, .n] _ [.inRegion (cops (csub (cd Try.f5) [1,1,1,1,1,0])) [2,3,4,5,6,7], .code (csub (cd Try.f5) [1,1,1,1,1,1])] [(0, .int .i64 kind), (1, .int .i64 other), (3, .int .i64 cut), (4, .string (sb more)), (11, .string (sb (sealT kind s))), (64, .int .i64 other), (65, .string (sb (sealT kind s)))] w20 (by kernel_rfl) (.cons o23 (.cons o24 (.cons o25 .nil))) ?_
      refine GoS.call [0, 1, 3, 4, 11] 12 #[.int .i64 other, .string (sb (sealT kind s))] (some 66) [.inRegion (cops (csub (cd Try.f5) [1,1,1,1,1,0])) [3,4,5,6,7], .code (csub (cd Try.f5) [1,1,1,1,1,1])] [(0, .int .i64 kind), (1, .int .i64 other), (3, .int .i64 cut), (4, .string (sb more)), (11, .string (sb (sealT kind s)))] (by kernel_rfl) (open_c other (sealT kind s) (by first | omega | (rw [List.length_append]; omega) | (rw [List.length_take]; omega)) w20) ?_
      rintro _ w26 ⟨rfl, m27⟩
      refine ⟨_, rfl, ?_⟩
      have hM28 := Mem.join hM22 m27
      refine GoS.run [0, 3, 4, 11, 15, 16, 72] [.n, .n, .n, .n, .n, .n, .n, .n, .n, .n, .n, .n, .n] _ [.inRegion (cops (csub (cd Try.f5) [1,1,1,1,1,1,0,0])) [4,5,6,7,8,9,10], .code (csub (cd Try.f5) [1,1,1,1,1,1,0,1]), .code (csub (cd Try.f5) [1,1,1,1,1,1,1])] [(0, .int .i64 kind), (3, .int .i64 cut), (4, .string (sb more)), (11, .string (sb (sealT kind s))), (15, .string (sb (openS other (sealT kind s)))), (16, .int .i64 (openE other (sealT kind s))), (72, .bool (other != kind))] w26 (by kernel_rfl) .nil ?_
      refine GoS.fork 72 (other != kind) (by kernel_rfl) (fun h29 => ?_) (fun h29 => ?_)
      ·
        have h29p : ¬ (other = kind) := bne_iff_ne.1 h29
        have o30 : (IntKind.i64 = IntKind.i64) ∧ w26 = w26 ∧ Value.bool false = .bool ((openE other (sealT kind s)) == 0) := ⟨rfl, rfl, congrArg Value.bool (Eq.symm (beq_eq_false_iff_ne.2 (open_other (show isKind kind from ⟨by omega, by omega⟩) (bne_iff_ne.1 h29)).1))⟩
        have o31 : (binOp .neq 9 (.string (sb (openS other (sealT kind s)))) (.string (sb ([])))).run Try.prog w26 = .ok (.bool false) w26 := f_strneq_yes ((open_other (show isKind kind from ⟨by omega, by omega⟩) (bne_iff_ne.1 h29)).2)
        refine GoS.run [0, 3, 4, 11, 79] [.n, .h (.bool false), .n, .n, .h (.bool false), .n, .n] _ [.inRegion (cops (csub (cd Try.f5) [1,1,1,1,1,1,0,0])) [], .code (csub (cd Try.f5) [1,1,1,1,1,1,0,1]), .code (csub (cd Try.f5) [1,1,1,1,1,1,1])] [(0, .int .i64 kind), (3, .int .i64 cut), (4, .string (sb more)), (11, .string (sb (sealT kind s))), (79, .bool false)] w26 (by kernel_rfl) (.cons o30 (.cons o31 .nil)) ?_
        refine GoS.run [0, 3, 4, 11, 82] [.n, .n, .n, .n, .n, .n, .n, .n, .n] _ [.inRegion (cops (csub (cd Try.f5) [1,1,1,1,1,1,1,0,0])) [3,4,5,6,7], .code (csub (cd Try.f5) [1,1,1,1,1,1,1,0,1]), .code (csub (cd Try.f5) [1,1,1,1,1,1,1,1])] [(0, .int .i64 kind), (3, .int .i64 cut), (4, .string (sb more)), (11, .string (sb (sealT kind s))), (82, .bool (decide (cut ≥ 0)))] w26 (by kernel_rfl) .nil ?_
        refine GoS.fork 82 (decide (cut ≥ 0)) (by kernel_rfl) (fun h32 => ?_) (fun h32 => ?_)
        ·
          have h32p : cut ≥ 0 := of_decide_eq_true h32
          have o33 : (Builtin.len_ #[9] 3 #[.string (sb (sealT kind s))]).run Try.prog w26 = .ok (.int .i64 (((sealT kind s).length : Nat) : Int)) w26 := f_len (by kernel_rfl)
          refine GoS.run [0, 3, 4, 11, 87] [.n, .n, .h (.int .i64 (((sealT kind s).length : Nat) : Int)), .n, .n] _ [.inRegion (cops (csub (cd Try.f5) [1,1,1,1,1,1,1,0,0])) [], .code (csub (cd Try.f5) [1,1,1,1,1,1,1,0,1]), .code (csub (cd Try.f5) [1,1,1,1,1,1,1,1])] [(0, .int .i64 kind), (3, .int .i64 cut), (4, .string (sb more)), (11, .string (sb (sealT kind s))), (87, .bool (decide (cut < (((sealT kind s).length : Nat) : Int))))] w26 (by kernel_rfl) (.cons o33 .nil) ?_
          refine GoS.run [0, 3, 4, 11, 87] [.n] _ [.code (csub (cd Try.f5) [1,1,1,1,1,1,1,0,1]), .code (csub (cd Try.f5) [1,1,1,1,1,1,1,1])] [(0, .int .i64 kind), (3, .int .i64 cut), (4, .string (sb more)), (11, .string (sb (sealT kind s))), (87, .bool (decide (cut < (((sealT kind s).length : Nat) : Int))))] w26 (by kernel_rfl) .nil ?_
          refine GoS.cond (decide (cut < (((sealT kind s).length : Nat) : Int))) [.code (csub (cd Try.f5) [1,1,1,1,1,1,1,0,1,0]), .code (csub (cd Try.f5) [1,1,1,1,1,1,1,1])] [.code (csub (cd Try.f5) [1,1,1,1,1,1,1,0,1,1]), .code (csub (cd Try.f5) [1,1,1,1,1,1,1,1])] (by kernel_rfl) (fun h34 => ?_) (fun h34 => ?_)
          ·
            have h34p : cut < (((sealT kind s).length : Nat) : Int) := of_decide_eq_true h34
            have o35 : (Instr.sliceAt 9 (.string (sb (sealT kind s))) none (some (.int .i64 cut)) none).run Try.prog w26 = .ok (.string (sb (List.take (Int.toNat cut) (sealT kind s)))) w26 := f_slice_hi (Int.toNat cut) (by kernel_rfl) (by omega) (by omega)
            refine GoS.run [0, 4, 11, 89, 92] [.n, .n, .n, .n, .n, .h (.string (sb (List.take (Int.toNat cut) (sealT kind s))))] _ [.inRegion (cops (csub (cd Try.f5) [1,1,1,1,1,1,1,0,1,0,0])) [4,5,6,7,8,9], .code (csub (cd Try.f5) [1,1,1,1,1,1,1,0,1,0,1]), .code (csub (cd Try.f5) [1,1,1,1,1,1,1,1])] [(0, .int .i64 kind), (4, .string (sb more)), (11, .string (sb (sealT kind s))), (89, .int .i64 kind), (92, .string (sb (List.take (Int.toNat cut) (sealT kind s))))] w26 (by kernel_rfl) (.cons o35 .nil) ?_
            refine GoS.call [0, 4, 11] 12 #[.int .i64 kind, .string (sb (List.take (Int.toNat cut) (sealT kind s)))] (some 93) [.inRegion (cops (csub (cd Try.f5) [1,1,1,1,1,1,1,0,1,0,0])) [5,6,7,8,9], .code (csub (cd Try.f5) [1,1,1,1,1,1,1,0,1,0,1]), .code (csub (cd Try.f5) [1,1,1,1,1,1,1,1])] [(0, .int .i64 kind), (4, .string (sb more)), (11, .string (sb (sealT kind s)))] (by kernel_rfl) (open_c kind (List.take (Int.toNat cut) (sealT kind s)) (by first | omega | (rw [List.length_append]; omega) | (rw [List.length_take]; omega)) w26) ?_
            rintro _ w36 ⟨rfl, m37⟩
            refine ⟨_, rfl, ?_⟩
            have hM38 := Mem.join hM28 m37
            have o39 : (IntKind.i64 = IntKind.i64) ∧ w36 = w36 ∧ Value.bool false = .bool ((openE kind (List.take (Int.toNat cut) (sealT kind s))) != 2) := ⟨rfl, rfl, congrArg Value.bool (Eq.symm (by rw [open_cut (show isKind kind from ⟨by omega, by omega⟩) (by omega) (by omega)]; rfl))⟩
            refine GoS.run [0, 4, 11] [.n, .n, .n, .n, .n, .n, .n, .n, .n, .h (.bool false), .n, .n, .n] _ [.code (csub (cd Try.f5) [1,1,1,1,1,1,1,1])] [(0, .int .i64 kind), (4, .string (sb more)), (11, .string (sb (sealT kind s)))] w36 (by kernel_rfl) (.cons o39 .nil) ?_
            have o40 : (binOp .add 9 (.string (sb (sealT kind s))) (.string (sb more))).run Try.prog w36 = .ok (.string (sb ((sealT kind s) ++ more))) w36 := f_stradd (by omega)
            refine GoS.run [4, 99, 102] [.n, .n, .n, .n, .n, .h (.string (sb ((sealT kind s) ++ more)))] _ [.inRegion (cops (csub (cd Try.f5) [1,1,1,1,1,1,1,1,0])) [4,5,6,7,8,9], .code (csub (cd Try.f5) [1,1,1,1,1,1,1,1,1])] [(4, .string (sb more)), (99, .int .i64 kind), (102, .string (sb ((sealT kind s) ++ more)))] w36 (by kernel_rfl) (.cons o40 .nil) ?_
            refine GoS.call [4] 12 #[.int .i64 kind, .string (sb ((sealT kind s) ++ more))] (some 103) [.inRegion (cops (csub (cd Try.f5) [1,1,1,1,1,1,1,1,0])) [5,6,7,8,9], .code (csub (cd Try.f5) [1,1,1,1,1,1,1,1,1])] [(4, .string (sb more))] (by kernel_rfl) (open_c kind ((sealT kind s) ++ more) (by first | omega | (rw [List.length_append]; omega) | (rw [List.length_take]; omega)) w36) ?_
            rintro _ w41 ⟨rfl, m42⟩
            refine ⟨_, rfl, ?_⟩
            have hM43 := Mem.join hM38 m42
            have o44 : (binOp .eql 9 (.string (sb more)) (.string (sb ([])))).run Try.prog w41 = .ok (.bool (decide (more = []))) w41 := f_streq
            refine GoS.run [20, 108] [.n, .n, .n, .n, .n, .n, .n, .n, .n, .h (.bool (decide (more = []))), .n] _ [.inRegion (cops (csub (cd Try.f5) [1,1,1,1,1,1,1,1,1,0])) [3,4,5,6], .code (csub (cd Try.f5) [1,1,1,1,1,1,1,1,1,1])] [(20, .int .i64 (openE kind ((sealT kind s) ++ more))), (108, .bool (decide (more = [])))] w41 (by kernel_rfl) (.cons o44 .nil) ?_
            refine GoS.fork 108 (decide (more = [])) (by kernel_rfl) (fun h45 => ?_) (fun h45 => ?_)
            ·
              have h45p : more = [] := of_decide_eq_true h45
              refine GoS.run [10] [.n, .n, .n, .n] _ [.inRegion (cops (csub (cd Try.f5) [1,1,1,1,1,1,1,1,1,0])) [], .code (csub (cd Try.f5) [1,1,1,1,1,1,1,1,1,1])] [(10, .bool true)] w41 (by kernel_rfl) .nil ?_
              refine GoS.run [10] [.n] _ [.code (csub (cd Try.f5) [1,1,1,1,1,1,1,1,1,1])] [(10, .bool true)] w41 (by kernel_rfl) .nil ?_
              refine GoS.ret (fn := Try.f5) (v := (.bool true)) Try.func5 (by kernel_rfl) ?_
              rw [hR]
              exact ⟨rfl, hM43.below⟩
            ·
              have h45p : ¬ (more = []) := of_decide_eq_false h45
              have o46 : (IntKind.i64 = IntKind.i64) ∧ w41 = w41 ∧ Value.bool true = .bool ((openE kind ((sealT kind s) ++ more)) == 5) := ⟨rfl, rfl, congrArg Value.bool (Eq.symm (by rw [open_tail (show isKind kind from ⟨by omega, by omega⟩) (by omega) (of_decide_eq_false h45)]; rfl))⟩
              refine GoS.run [10] [.n, .h (.bool true), .n, .n] _ [.inRegion (cops (csub (cd Try.f5) [1,1,1,1,1,1,1,1,1,0])) [], .code (csub (cd Try.f5) [1,1,1,1,1,1,1,1,1,1])] [(10, .bool true)] w41 (by kernel_rfl) (.cons o46 .nil) ?_
              refine GoS.run [10] [.n] _ [.code (csub (cd Try.f5) [1,1,1,1,1,1,1,1,1,1])] [(10, .bool true)] w41 (by kernel_rfl) .nil ?_
              refine GoS.ret (fn := Try.f5) (v := (.bool true)) Try.func5 (by kernel_rfl) ?_
              rw [hR]
              exact ⟨rfl, hM43.below⟩
          ·
            have h34p : ¬ (cut < (((sealT kind s).length : Nat) : Int)) := of_decide_eq_false h34
            refine GoS.run [0, 4, 11] [.n] _ [.code (csub (cd Try.f5) [1,1,1,1,1,1,1,1])] [(0, .int .i64 kind), (4, .string (sb more)), (11, .string (sb (sealT kind s)))] w26 (by kernel_rfl) .nil ?_
            have o47 : (binOp .add 9 (.string (sb (sealT kind s))) (.string (sb more))).run Try.prog w26 = .ok (.string (sb ((sealT kind s) ++ more))) w26 := f_stradd (by omega)
            refine GoS.run [4, 99, 102] [.n, .n, .n, .n, .n, .h (.string (sb ((sealT kind s) ++ more)))] _ [.inRegion (cops (csub (cd Try.f5) [1,1,1,1,1,1,1,1,0])) [4,5,6,7,8,9], .code (csub (cd Try.f5) [1,1,1,1,1,1,1,1,1])] [(4, .string (sb more)), (99, .int .i64 kind), (102, .string (sb ((sealT kind s) ++ more)))] w26 (by kernel_rfl) (.cons o47 .nil) ?_
            refine GoS.call [4] 12 #[.int .i64 kind, .string (sb ((sealT kind s) ++ more))] (some 103) [.inRegion (cops (csub (cd Try.f5) [1,1,1,1,1,1,1,1,0])) [5,6,7,8,9], .code (csub (cd Try.f5) [1,1,1,1,1,1,1,1,1])] [(4, .string (sb more))] (by kernel_rfl) (open_c kind ((sealT kind s) ++ more) (by first | omega | (rw [List.length_append]; omega) | (rw [List.length_take]; omega)) w26) ?_
            rintro _ w48 ⟨rfl, m49⟩
            refine ⟨_, rfl, ?_⟩
            have hM50 := Mem.join hM28 m49
            have o51 : (binOp .eql 9 (.string (sb more)) (.string (sb ([])))).run Try.prog w48 = .ok (.bool (decide (more = []))) w48 := f_streq
            refine GoS.run [20, 108] [.n, .n, .n, .n, .n, .n, .n, .n, .n, .h (.bool (decide (more = []))), .n] _ [.inRegion (cops (csub (cd Try.f5) [1,1,1,1,1,1,1,1,1,0])) [3,4,5,6], .code (csub (cd Try.f5) [1,1,1,1,1,1,1,1,1,1])] [(20, .int .i64 (openE kind ((sealT kind s) ++ more))), (108, .bool (decide (more = [])))] w48 (by kernel_rfl) (.cons o51 .nil) ?_
            refine GoS.fork 108 (decide (more = [])) (by kernel_rfl) (fun h52 => ?_) (fun h52 => ?_)
            ·
              have h52p : more = [] := of_decide_eq_true h52
              refine GoS.run [10] [.n, .n, .n, .n] _ [.inRegion (cops (csub (cd Try.f5) [1,1,1,1,1,1,1,1,1,0])) [], .code (csub (cd Try.f5) [1,1,1,1,1,1,1,1,1,1])] [(10, .bool true)] w48 (by kernel_rfl) .nil ?_
              refine GoS.run [10] [.n] _ [.code (csub (cd Try.f5) [1,1,1,1,1,1,1,1,1,1])] [(10, .bool true)] w48 (by kernel_rfl) .nil ?_
              refine GoS.ret (fn := Try.f5) (v := (.bool true)) Try.func5 (by kernel_rfl) ?_
              rw [hR]
              exact ⟨rfl, hM50.below⟩
            ·
              have h52p : ¬ (more = []) := of_decide_eq_false h52
              have o53 : (IntKind.i64 = IntKind.i64) ∧ w48 = w48 ∧ Value.bool true = .bool ((openE kind ((sealT kind s) ++ more)) == 5) := ⟨rfl, rfl, congrArg Value.bool (Eq.symm (by rw [open_tail (show isKind kind from ⟨by omega, by omega⟩) (by omega) (of_decide_eq_false h52)]; rfl))⟩
              refine GoS.run [10] [.n, .h (.bool true), .n, .n] _ [.inRegion (cops (csub (cd Try.f5) [1,1,1,1,1,1,1,1,1,0])) [], .code (csub (cd Try.f5) [1,1,1,1,1,1,1,1,1,1])] [(10, .bool true)] w48 (by kernel_rfl) (.cons o53 .nil) ?_
              refine GoS.run [10] [.n] _ [.code (csub (cd Try.f5) [1,1,1,1,1,1,1,1,1,1])] [(10, .bool true)] w48 (by kernel_rfl) .nil ?_
              refine GoS.ret (fn := Try.f5) (v := (.bool true)) Try.func5 (by kernel_rfl) ?_
              rw [hR]
              exact ⟨rfl, hM50.below⟩
        ·
          have h32p : ¬ (cut ≥ 0) := of_decide_eq_false h32
          refine GoS.run [0, 3, 4, 11, 87] [.n, .n, .n, .n, .n] _ [.inRegion (cops (csub (cd Try.f5) [1,1,1,1,1,1,1,0,0])) [], .code (csub (cd Try.f5) [1,1,1,1,1,1,1,0,1]), .code (csub (cd Try.f5) [1,1,1,1,1,1,1,1])] [(0, .int .i64 kind), (3, .int .i64 cut), (4, .string (sb more)), (11, .string (sb (sealT kind s))), (87, .bool false)] w26 (by kernel_rfl) .nil ?_
          have o54 : (binOp .add 9 (.string (sb (sealT kind s))) (.string (sb more))).run Try.prog w26 = .ok (.string (sb ((sealT kind s) ++ more))) w26 := f_stradd (by omega)
          refine GoS.run [4, 99, 102] [.n, .n, .n, .n, .n, .n, .n, .n, .h (.string (sb ((sealT kind s) ++ more)))] _ [.inRegion (cops (csub (cd Try.f5) [1,1,1,1,1,1,1,1,0])) [4,5,6,7,8,9], .code (csub (cd Try.f5) [1,1,1,1,1,1,1,1,1])] [(4, .string (sb more)), (99, .int .i64 kind), (102, .string (sb ((sealT kind s) ++ more)))] w26 (by kernel_rfl) (.cons o54 .nil) ?_
          refine GoS.call [4] 12 #[.int .i64 kind, .string (sb ((sealT kind s) ++ more))] (some 103) [.inRegion (cops (csub (cd Try.f5) [1,1,1,1,1,1,1,1,0])) [5,6,7,8,9], .code (csub (cd Try.f5) [1,1,1,1,1,1,1,1,1])] [(4, .string (sb more))] (by kernel_rfl) (open_c kind ((sealT kind s) ++ more) (by first | omega | (rw [List.length_append]; omega) | (rw [List.length_take]; omega)) w26) ?_
          rintro _ w55 ⟨rfl, m56⟩
          refine ⟨_, rfl, ?_⟩
          have hM57 := Mem.join hM28 m56
          have o58 : (binOp .eql 9 (.string (sb more)) (.string (sb ([])))).run Try.prog w55 = .ok (.bool (decide (more = []))) w55 := f_streq
          refine GoS.run [20, 108] [.n, .n, .n, .n, .n, .n, .n, .n, .n, .h (.bool (decide (more = []))), .n] _ [.inRegion (cops (csub (cd Try.f5) [1,1,1,1,1,1,1,1,1,0])) [3,4,5,6], .code (csub (cd Try.f5) [1,1,1,1,1,1,1,1,1,1])] [(20, .int .i64 (openE kind ((sealT kind s) ++ more))), (108, .bool (decide (more = [])))] w55 (by kernel_rfl) (.cons o58 .nil) ?_
          refine GoS.fork 108 (decide (more = [])) (by kernel_rfl) (fun h59 => ?_) (fun h59 => ?_)
          ·
            have h59p : more = [] := of_decide_eq_true h59
            refine GoS.run [10] [.n, .n, .n, .n] _ [.inRegion (cops (csub (cd Try.f5) [1,1,1,1,1,1,1,1,1,0])) [], .code (csub (cd Try.f5) [1,1,1,1,1,1,1,1,1,1])] [(10, .bool true)] w55 (by kernel_rfl) .nil ?_
            refine GoS.run [10] [.n] _ [.code (csub (cd Try.f5) [1,1,1,1,1,1,1,1,1,1])] [(10, .bool true)] w55 (by kernel_rfl) .nil ?_
            refine GoS.ret (fn := Try.f5) (v := (.bool true)) Try.func5 (by kernel_rfl) ?_
            rw [hR]
            exact ⟨rfl, hM57.below⟩
          ·
            have h59p : ¬ (more = []) := of_decide_eq_false h59
            have o60 : (IntKind.i64 = IntKind.i64) ∧ w55 = w55 ∧ Value.bool true = .bool ((openE kind ((sealT kind s) ++ more)) == 5) := ⟨rfl, rfl, congrArg Value.bool (Eq.symm (by rw [open_tail (show isKind kind from ⟨by omega, by omega⟩) (by omega) (of_decide_eq_false h59)]; rfl))⟩
            refine GoS.run [10] [.n, .h (.bool true), .n, .n] _ [.inRegion (cops (csub (cd Try.f5) [1,1,1,1,1,1,1,1,1,0])) [], .code (csub (cd Try.f5) [1,1,1,1,1,1,1,1,1,1])] [(10, .bool true)] w55 (by kernel_rfl) (.cons o60 .nil) ?_
            refine GoS.run [10] [.n] _ [.code (csub (cd Try.f5) [1,1,1,1,1,1,1,1,1,1])] [(10, .bool true)] w55 (by kernel_rfl) .nil ?_
            refine GoS.ret (fn := Try.f5) (v := (.bool true)) Try.func5 (by kernel_rfl) ?_
            rw [hR]
            exact ⟨rfl, hM57.below⟩
      ·
        have h29p : other = kind := p_eq h29
        refine GoS.run [0, 3, 4, 11, 79] [.n, .n, .n, .n, .n, .n, .n] _ [.inRegion (cops (csub (cd Try.f5) [1,1,1,1,1,1,0,0])) [], .code (csub (cd Try.f5) [1,1,1,1,1,1,0,1]), .code (csub (cd Try.f5) [1,1,1,1,1,1,1])] [(0, .int .i64 kind), (3, .int .i64 cut), (4, .string (sb more)), (11, .string (sb (sealT kind s))), (79, .bool false)] w26 (by kernel_rfl) .nil ?_
        refine GoS.run [0, 3, 4, 11, 82] [.n, .n, .n, .n, .n, .n, .n, .n, .n] _ [.inRegion (cops (csub (cd Try.f5) [1,1,1,1,1,1,1,0,0])) [3,4,5,6,7], .code (csub (cd Try.f5) [1,1,1,1,1,1,1,0,1]), .code (csub (cd Try.f5) [1,1,1,1,1,1,1,1])] [(0, .int .i64 kind), (3, .int .i64 cut), (4, .string (sb more)), (11, .string (sb (sealT kind s))), (82, .bool (decide (cut ≥ 0)))] w26 (by kernel_rfl) .nil ?_
        refine GoS.fork 82 (decide (cut ≥ 0)) (by kernel_rfl) (fun h61 => ?_) (fun h61 => ?_)
        ·
          have h61p : cut ≥ 0 := of_decide_eq_true h61
          have o62 : (Builtin.len_ #[9] 3 #[.string (sb (sealT kind s))]).run Try.prog w26 = .ok (.int .i64 (((sealT kind s).length : Nat) : Int)) w26 := f_len (by kernel_rfl)
          refine GoS.run [0, 3, 4, 11, 87] [.n, .n, .h (.int .i64 (((sealT kind s).length : Nat) : Int)), .n, .n] _ [.inRegion (cops (csub (cd Try.f5) [1,1,1,1,1,1,1,0,0])) [], .code (csub (cd Try.f5) [1,1,1,1,1,1,1,0,1]), .code (csub (cd Try.f5) [1,1,1,1,1,1,1,1])] [(0, .int .i64 kind), (3, .int .i64 cut), (4, .string (sb more)), (11, .string (sb (sealT kind s))), (87, .bool (decide (cut < (((sealT kind s).length : Nat) : Int))))] w26 (by kernel_rfl) (.cons o62 .nil) ?_
          refine GoS.run [0, 3, 4, 11, 87] [.n] _ [.code (csub (cd Try.f5) [1,1,1,1,1,1,1,0,1]), .code (csub (cd Try.f5) [1,1,1,1,1,1,1,1])] [(0, .int .i64 kind), (3, .int .i64 cut), (4, .string (sb more)), (11, .string (sb (sealT kind s))), (87, .bool (decide (cut < (((sealT kind s).length : Nat) : Int))))] w26 (by kernel_rfl) .nil ?_
          refine GoS.cond (decide (cut < (((sealT kind s).length : Nat) : Int))) [.code (csub (cd Try.f5) [1,1,1,1,1,1,1,0,1,0]), .code (csub (cd Try.f5) [1,1,1,1,1,1,1,1])] [.code (csub (cd Try.f5) [1,1,1,1,1,1,1,0,1,1]), .code (csub (cd Try.f5) [1,1,1,1,1,1,1,1])] (by kernel_rfl) (fun h63 => ?_) (fun h63 => ?_)
          ·
            have h63p : cut < (((sealT kind s).length : Nat) : Int) := of_decide_eq_true h63
            have o64 : (Instr.sliceAt 9 (.string (sb (sealT kind s))) none (some (.int .i64 cut)) none).run Try.prog w26 = .ok (.string (sb (List.take (Int.toNat cut) (sealT kind s)))) w26 := f_slice_hi (Int.toNat cut) (by kernel_rfl) (by omega) (by omega)
            refine GoS.run [0, 4, 11, 89, 92] [.n, .n, .n, .n, .n, .h (.string (sb (List.take (Int.toNat cut) (sealT kind s))))] _ [.inRegion (cops (csub (cd Try.f5) [1,1,1,1,1,1,1,0,1,0,0])) [4,5,6,7,8,9], .code (csub (cd Try.f5) [1,1,1,1,1,1,1,0,1,0,1]), .code (csub (cd Try.f5) [1,1,1,1,1,1,1,1])] [(0, .int .i64 kind), (4, .string (sb more)), (11, .string (sb (sealT kind s))), (89, .int .i64 kind), (92, .string (sb (List.take (Int.toNat cut) (sealT kind s))))] w26 (by kernel_rfl) (.cons o64 .nil) ?_
            refine GoS.call [0, 4, 11] 12 #[.int .i64 kind, .string (sb (List.take (Int.toNat cut) (sealT kind s)))] (some 93) [.inRegion (cops (csub (cd Try.f5) [1,1,1,1,1,1,1,0,1,0,0])) [5,6,7,8,9], .code (csub (cd Try.f5) [1,1,1,1,1,1,1,0,1,0,1]), .code (csub (cd Try.f5) [1,1,1,1,1,1,1,1])] [(0, .int .i64 kind), (4, .string (sb more)), (11, .string (sb (sealT kind s)))] (by kernel_rfl) (open_c kind (List.take (Int.toNat cut) (sealT kind s)) (by first | omega | (rw [List.length_append]; omega) | (rw [List.length_take]; omega)) w26) ?_
            rintro _ w65 ⟨rfl, m66⟩
            refine ⟨_, rfl, ?_⟩
            have hM67 := Mem.join hM28 m66
            have o68 : (IntKind.i64 = IntKind.i64) ∧ w65 = w65 ∧ Value.bool false = .bool ((openE kind (List.take (Int.toNat cut) (sealT kind s))) != 2) := ⟨rfl, rfl, congrArg Value.bool (Eq.symm (by rw [open_cut (show isKind kind from ⟨by omega, by omega⟩) (by omega) (by omega)]; rfl))⟩
            refine GoS.run [0, 4, 11] [.n, .n, .n, .n, .n, .n, .n, .n, .n, .h (.bool false), .n, .n, .n] _ [.code (csub (cd Try.f5) [1,1,1,1,1,1,1,1])] [(0, .int .i64 kind), (4, .string (sb more)), (11, .string (sb (sealT kind s)))] w65 (by kernel_rfl) (.cons o68 .nil) ?_
            have o69 : (binOp .add 9 (.string (sb (sealT kind s))) (.string (sb more))).run Try.prog w65 = .ok (.string (sb ((sealT kind s) ++ more))) w65 := f_stradd (by omega)
            refine GoS.run [4, 99, 102] [.n, .n, .n, .n, .n, .h (.string (sb ((sealT kind s) ++ more)))] _ [.inRegion (cops (csub (cd Try.f5) [1,1,1,1,1,1,1,1,0])) [4,5,6,7,8,9], .code (csub (cd Try.f5) [1,1,1,1,1,1,1,1,1])] [(4, .string (sb more)), (99, .int .i64 kind), (102, .string (sb ((sealT kind s) ++ more)))] w65 (by kernel_rfl) (.cons o69 .nil) ?_
            refine GoS.call [4] 12 #[.int .i64 kind, .string (sb ((sealT kind s) ++ more))] (some 103) [.inRegion (cops (csub (cd Try.f5) [1,1,1,1,1,1,1,1,0])) [5,6,7,8,9], .code (csub (cd Try.f5) [1,1,1,1,1,1,1,1,1])] [(4, .string (sb more))] (by kernel_rfl) (open_c kind ((sealT kind s) ++ more) (by first | omega | (rw [List.length_append]; omega) | (rw [List.length_take]; omega)) w65) ?_
            rintro _ w70 ⟨rfl, m71⟩
            refine ⟨_, rfl, ?_⟩
            have hM72 := Mem.join hM67 m71
            have o73 : (binOp .eql 9 (.string (sb more)) (.string (sb ([])))).run Try.prog w70 = .ok (.bool (decide (more = []))) w70 := f_streq
            refine GoS.run [20, 108] [.n, .n, .n, .n, .n, .n, .n, .n, .n, .h (.bool (decide (more = []))), .n] _ [.inRegion (cops (csub (cd Try.f5) [1,1,1,1,1,1,1,1,1,0])) [3,4,5,6], .code (csub (cd Try.f5) [1,1,1,1,1,1,1,1,1,1])] [(20, .int .i64 (openE kind ((sealT kind s) ++ more))), (108, .bool (decide (more = [])))] w70 (by kernel_rfl) (.cons o73 .nil) ?_
            refine GoS.fork 108 (decide (more = [])) (by kernel_rfl) (fun h74 => ?_) (fun h74 => ?_)
            ·
              have h74p : more = [] := of_decide_eq_true h74
              refine GoS.run [10] [.n, .n, .n, .n] _ [.inRegion (cops (csub (cd Try.f5) [1,1,1,1,1,1,1,1,1,0])) [], .code (csub (cd Try.f5) [1,1,1,1,1,1,1,1,1,1])] [(10, .bool true)] w70 (by kernel_rfl) .nil ?_
              refine GoS.run [10] [.n] _ [.code (csub (cd Try.f5) [1,1,1,1,1,1,1,1,1,1])] [(10, .bool true)] w70 (by kernel_rfl) .nil ?_
              refine GoS.ret (fn := Try.f5) (v := (.bool true)) Try.func5 (by kernel_rfl) ?_
              rw [hR]
              exact ⟨rfl, hM72.below⟩
            ·
              have h74p : ¬ (more = []) := of_decide_eq_false h74
              have o75 : (IntKind.i64 = IntKind.i64) ∧ w70 = w70 ∧ Value.bool true = .bool ((openE kind ((sealT kind s) ++ more)) == 5) := ⟨rfl, rfl, congrArg Value.bool (Eq.symm (by rw [open_tail (show isKind kind from ⟨by omega, by omega⟩) (by omega) (of_decide_eq_false h74)]; rfl))⟩
              refine GoS.run [10] [.n, .h (.bool true), .n, .n] _ [.inRegion (cops (csub (cd Try.f5) [1,1,1,1,1,1,1,1,1,0])) [], .code (csub (cd Try.f5) [1,1,1,1,1,1,1,1,1,1])] [(10, .bool true)] w70 (by kernel_rfl) (.cons o75 .nil) ?_
              refine GoS.run [10] [.n] _ [.code (csub (cd Try.f5) [1,1,1,1,1,1,1,1,1,1])] [(10, .bool true)] w70 (by kernel_rfl) .nil ?_
              refine GoS.ret (fn := Try.f5) (v := (.bool true)) Try.func5 (by kernel_rfl) ?_
              rw [hR]
              exact ⟨rfl, hM72.below⟩
          ·
            have h63p : ¬ (cut < (((sealT kind s).length : Nat) : Int)) := of_decide_eq_false h63
            refine GoS.run [0, 4, 11] [.n] _ [.code (csub (cd Try.f5) [1,1,1,1,1,1,1,1])] [(0, .int .i64 kind), (4, .string (sb more)), (11, .string (sb (sealT kind s)))] w26 (by kernel_rfl) .nil ?_
            have o76 : (binOp .add 9 (.string (sb (sealT kind s))) (.string (sb more))).run Try.prog w26 = .ok (.string (sb ((sealT kind s) ++ more))) w26 := f_stradd (by omega)
            refine GoS.run [4, 99, 102] [.n, .n, .n, .n, .n, .h (.string (sb ((sealT kind s) ++ more)))] _ [.inRegion (cops (csub (cd Try.f5) [1,1,1,1,1,1,1,1,0])) [4,5,6,7,8,9], .code (csub (cd Try.f5) [1,1,1,1,1,1,1,1,1])] [(4, .string (sb more)), (99, .int .i64 kind), (102, .string (sb ((sealT kind s) ++ more)))] w26 (by kernel_rfl) (.cons o76 .nil) ?_
            refine GoS.call [4] 12 #[.int .i64 kind, .string (sb ((sealT kind s) ++ more))] (some 103) [.inRegion (cops (csub (cd Try.f5) [1,1,1,1,1,1,1,1,0])) [5,6,7,8,9], .code (csub (cd Try.f5) [1,1,1,1,1,1,1,1,1])] [(4, .string (sb more))] (by kernel_rfl) (open_c kind ((sealT kind s) ++ more) (by first | omega | (rw [List.length_append]; omega) | (rw [List.length_take]; omega)) w26) ?_
            rintro _ w77 ⟨rfl, m78⟩
            refine ⟨_, rfl, ?_⟩
            have hM79 := Mem.join hM28 m78
            have o80 : (binOp .eql 9 (.string (sb more)) (.string (sb ([])))).run Try.prog w77 = .ok (.bool (decide (more = []))) w77 := f_streq
            refine GoS.run [20, 108] [.n, .n, .n, .n, .n, .n, .n, .n, .n, .h (.bool (decide (more = []))), .n] _ [.inRegion (cops (csub (cd Try.f5) [1,1,1,1,1,1,1,1,1,0])) [3,4,5,6], .code (csub (cd Try.f5) [1,1,1,1,1,1,1,1,1,1])] [(20, .int .i64 (openE kind ((sealT kind s) ++ more))), (108, .bool (decide (more = [])))] w77 (by kernel_rfl) (.cons o80 .nil) ?_
            refine GoS.fork 108 (decide (more = [])) (by kernel_rfl) (fun h81 => ?_) (fun h81 => ?_)
            ·
              have h81p : more = [] := of_decide_eq_true h81
              refine GoS.run [10] [.n, .n, .n, .n] _ [.inRegion (cops (csub (cd Try.f5) [1,1,1,1,1,1,1,1,1,0])) [], .code (csub (cd Try.f5) [1,1,1,1,1,1,1,1,1,1])] [(10, .bool true)] w77 (by kernel_rfl) .nil ?_
              refine GoS.run [10] [.n] _ [.code (csub (cd Try.f5) [1,1,1,1,1,1,1,1,1,1])] [(10, .bool true)] w77 (by kernel_rfl) .nil ?_
              refine GoS.ret (fn := Try.f5) (v := (.bool true)) Try.func5 (by kernel_rfl) ?_
              rw [hR]
              exact ⟨rfl, hM79.below⟩
            ·
              have h81p : ¬ (more = []) := of_decide_eq_false h81
              have o82 : (IntKind.i64 = IntKind.i64) ∧ w77 = w77 ∧ Value.bool true = .bool ((openE kind ((sealT kind s) ++ more)) == 5) := ⟨rfl, rfl, congrArg Value.bool (Eq.symm (by rw [open_tail (show isKind kind from ⟨by omega, by omega⟩) (by omega) (of_decide_eq_false h81)]; rfl))⟩
              refine GoS.run [10] [.n, .h (.bool true), .n, .n] _ [.inRegion (cops (csub (cd Try.f5) [1,1,1,1,1,1,1,1,1,0])) [], .code (csub (cd Try.f5) [1,1,1,1,1,1,1,1,1,1])] [(10, .bool true)] w77 (by kernel_rfl) (.cons o82 .nil) ?_
              refine GoS.run [10] [.n] _ [.code (csub (cd Try.f5) [1,1,1,1,1,1,1,1,1,1])] [(10, .bool true)] w77 (by kernel_rfl) .nil ?_
              refine GoS.ret (fn := Try.f5) (v := (.bool true)) Try.func5 (by kernel_rfl) ?_
              rw [hR]
              exact ⟨rfl, hM79.below⟩
        ·
          have h61p : ¬ (cut ≥ 0) := of_decide_eq_false h61
          refine GoS.run [0, 3, 4, 11, 87] [.n, .n, .n, .n, .n] _ [.inRegion (cops (csub (cd Try.f5) [1,1,1,1,1,1,1,0,0])) [], .code (csub (cd Try.f5) [1,1,1,1,1,1,1,0,1]), .code (csub (cd Try.f5) [1,1,1,1,1,1,1,1])] [(0, .int .i64 kind), (3, .int .i64 cut), (4, .string (sb more)), (11, .string (sb (sealT kind s))), (87, .bool false)] w26 (by kernel_rfl) .nil ?_
          have o83 : (binOp .add 9 (.string (sb (sealT kind s))) (.string (sb more))).run Try.prog w26 = .ok (.string (sb ((sealT kind s) ++ more))) w26 := f_stradd (by omega)
          refine GoS.run [4, 99, 102] [.n, .n, .n, .n, .n, .n, .n, .n, .h (.string (sb ((sealT kind s) ++ more)))] _ [.inRegion (cops (csub (cd Try.f5) [1,1,1,1,1,1,1,1,0])) [4,5,6,7,8,9], .code (csub (cd Try.f5) [1,1,1,1,1,1,1,1,1])] [(4, .string (sb more)), (99, .int .i64 kind), (102, .string (sb ((sealT kind s) ++ more)))] w26 (by kernel_rfl) (.cons o83 .nil) ?_
          refine GoS.call [4] 12 #[.int .i64 kind, .string (sb ((sealT kind s) ++ more))] (some 103) [.inRegion (cops (csub (cd Try.f5) [1,1,1,1,1,1,1,1,0])) [5,6,7,8,9], .code (csub (cd Try.f5) [1,1,1,1,1,1,1,1,1])] [(4, .string (sb more))] (by kernel_rfl) (open_c kind ((sealT kind s) ++ more) (by first | omega | (rw [List.length_append]; omega) | (rw [List.length_take]; omega)) w26) ?_
          rintro _ w84 ⟨rfl, m85⟩
          refine ⟨_, rfl, ?_⟩
          have hM86 := Mem.join hM28 m85
          have o87 : (binOp .eql 9 (.string (sb more)) (.string (sb ([])))).run Try.prog w84 = .ok (.bool (decide (more = []))) w84 := f_streq
          refine GoS.run [20, 108] [.n, .n, .n, .n, .n, .n, .n, .n, .n, .h (.bool (decide (more = []))), .n] _ [.inRegion (cops (csub (cd Try.f5) [1,1,1,1,1,1,1,1,1,0])) [3,4,5,6], .code (csub (cd Try.f5) [1,1,1,1,1,1,1,1,1,1])] [(20, .int .i64 (openE kind ((sealT kind s) ++ more))), (108, .bool (decide (more = [])))] w84 (by kernel_rfl) (.cons o87 .nil) ?_
          refine GoS.fork 108 (decide (more = [])) (by kernel_rfl) (fun h88 => ?_) (fun h88 => ?_)
          ·
            have h88p : more = [] := of_decide_eq_true h88
            refine GoS.run [10] [.n, .n, .n, .n] _ [.inRegion (cops (csub (cd Try.f5) [1,1,1,1,1,1,1,1,1,0])) [], .code (csub (cd Try.f5) [1,1,1,1,1,1,1,1,1,1])] [(10, .bool true)] w84 (by kernel_rfl) .nil ?_
            refine GoS.run [10] [.n] _ [.code (csub (cd Try.f5) [1,1,1,1,1,1,1,1,1,1])] [(10, .bool true)] w84 (by kernel_rfl) .nil ?_
            refine GoS.ret (fn := Try.f5) (v := (.bool true)) Try.func5 (by kernel_rfl) ?_
            rw [hR]
            exact ⟨rfl, hM86.below⟩
          ·
            have h88p : ¬ (more = []) := of_decide_eq_false h88
            have o89 : (IntKind.i64 = IntKind.i64) ∧ w84 = w84 ∧ Value.bool true = .bool ((openE kind ((sealT kind s) ++ more)) == 5) := ⟨rfl, rfl, congrArg Value.bool (Eq.symm (by rw [open_tail (show isKind kind from ⟨by omega, by omega⟩) (by omega) (of_decide_eq_false h88)]; rfl))⟩
            refine GoS.run [10] [.n, .h (.bool true), .n, .n] _ [.inRegion (cops (csub (cd Try.f5) [1,1,1,1,1,1,1,1,1,0])) [], .code (csub (cd Try.f5) [1,1,1,1,1,1,1,1,1,1])] [(10, .bool true)] w84 (by kernel_rfl) (.cons o89 .nil) ?_
            refine GoS.run [10] [.n] _ [.code (csub (cd Try.f5) [1,1,1,1,1,1,1,1,1,1])] [(10, .bool true)] w84 (by kernel_rfl) .nil ?_
            refine GoS.ret (fn := Try.f5) (v := (.bool true)) Try.func5 (by kernel_rfl) ?_
            rw [hR]
            exact ⟨rfl, hM86.below⟩

set_option maxHeartbeats 400000 in
theorem lturns_c (kind : Int) (s : List UInt8) (bit : Int) (w : World) (hs : s.length ≤ 140737488351232) :
    Calls Try.prog 6 #[.int .i64 kind, .string (sb s), .int .i64 bit] w (fun e w' => e = .returned (.bool true) ∧ Below w.heap.size w w') := by
  obtain ⟨R, hR⟩ : ∃ R : Ending → World → Prop, R = (fun e w' => e = .returned (.bool true) ∧ Below w.heap.size w w') := ⟨_, rfl⟩
  rw [← hR]
  refine GoS.enter (n := 49) Try.func6 (by kernel_rfl) rfl [(0, .int .i64 kind), (1, .string (sb s)), (2, .int .i64 bit)] (by kernel_rfl) (by kernel_rfl) ?_
  have hM0 := Mem.start w
  refine GoS.run [0, 2, 12, 13] [.n, .n, .n, .n, .n, .n, .n, .n] _ [.inRegion (cops (csub (cd Try.f6) [1,0])) [2,3,4,5,6,7], .code (csub (cd Try.f6) [1,1])] [(0, .int .i64 kind), (2, .int .i64 bit), (12, .int .i64 kind), (13, .string (sb s))] w (by kernel_rfl) .nil ?_
  refine GoS.call [0, 2] 7 #[.int .i64 kind, .string (sb s)] (some 14) [.inRegion (cops (csub (cd Try.f6) [1,0])) [3,4,5,6,7], .code (csub (cd Try.f6) [1,1])] [(0, .int .i64 kind), (2, .int .i64 bit)] (by kernel_rfl) (seal_c kind s (by omega) w) ?_
  rintro _ w1 ⟨rfl, m2⟩
  refine ⟨_, rfl, ?_⟩
  have hM3 := Mem.join hM0 m2
  have hl4 := sealT_len kind s
  refine GoS.run [0, 2, 7, 8] [.n, .n, .n, .n, .n, .n, .n, .n, .n] _ [.inRegion (cops (csub (cd Try.f6) [1,1,0,0])) [0,1,2,3,4,5,6,7,8,9,10,11,12,13,14,15,16], .code (csub (cd Try.f6) [1,1,0,1]), .code (csub (cd Try.f6) [1,1,1])] [(0, .int .i64 kind), (2, .int .i64 bit), (7, .string (sb (sealT kind s))), (8, .int .i64 (sealE kind))] w1 (by kernel_rfl) .nil ?_
  refine GoS.call [0, 2, 7, 8] 9 #[] (some 17) [.inRegion (cops (csub (cd Try.f6) [1,1,0,0])) [1,2,3,4,5,6,7,8,9,10,11,12,13,14,15,16], .code (csub (cd Try.f6) [1,1,0,1]), .code (csub (cd Try.f6) [1,1,1])] [(0, .int .i64 kind), (2, .int .i64 bit), (7, .string (sb (sealT kind s))), (8, .int .i64 (sealE kind))] (by kernel_rfl) (awake_c w1) ?_
  rintro _ w5 ⟨rfl, m6⟩
  refine ⟨_, rfl, ?_⟩
  have hM7 := Mem.join hM3 m6
  refine GoS.run [0, 2, 7, 23] [.n, .n, .n, .n, .n, .n] _ [.inRegion (cops (csub (cd Try.f6) [1,1,0,0])) [7,8,9,10,11,12,13,14,15,16], .code (csub (cd Try.f6) [1,1,0,1]), .code (csub (cd Try.f6) [1,1,1])] [(0, .int .i64 kind), (2, .int .i64 bit), (7, .string (sb (sealT kind s))), (23, .bool ((sealE kind) != 0))] w5 (by kernel_rfl) .nil ?_
  refine GoS.fork 23 ((sealE kind) != 0) (by kernel_rfl) (fun h8 => ?_) (fun h8 => ?_)
  ·
    have h8p : ¬ ((sealE kind) = 0) := bne_iff_ne.1 h8
    refine GoS.run [0, 2, 7, 33] [.n, .n, .n, .n, .n, .n, .n, .n, .n, .n] _ [.inRegion (cops (csub (cd Try.f6) [1,1,0,0])) [], .code (csub (cd Try.f6) [1,1,0,1]), .code (csub (cd Try.f6) [1,1,1])] [(0, .int .i64 kind), (2, .int .i64 bit), (7, .string (sb (sealT kind s))), (33, .bool true)] w5 (by kernel_rfl) .nil ?_
    refine GoS.run [] [.n, .n, .n, .n] _ [.inRegion (cops (csub (cd Try.f6) [1,1,0,1,0,0])) [0,1], .code (csub (cd Try.f6) [1,1,0,1,0,1]), .code (csub (cd Try.f6) [1,1,1])] [] w5 (by kernel_rfl) .nil ?_
    refine GoS.call [] 9 #[] (some 34) [.inRegion (cops (csub (cd Try.f6) [1,1,0,1,0,0])) [1], .code (csub (cd Try.f6) [1,1,0,1,0,1]), .code (csub (cd Try.f6) [1,1,1])] [] (by kernel_rfl) (awake_c w5) ?_
    rintro _ w12 ⟨rfl, m13⟩
    refine ⟨_, rfl, ?_⟩
    have hM14 := Mem.join hM7 m13
    refine GoS.run [6] [.n, .n] _ [.code (csub (cd Try.f6) [1,1,0,1,0,1]), .code (csub (cd Try.f6) [1,1,1])] [(6, .bool true)] w12 (by kernel_rfl) .nil ?_
    refine GoS.ret (fn := Try.f6) (v := (.bool true)) Try.func6 (by kernel_rfl) ?_
    rw [hR]
    exact ⟨rfl, hM14.below⟩
  ·
    have h8p : (sealE kind) = 0 := p_eq h8
    refine GoS.run [0, 2, 7, 27] [.n, .n, .n, .n] _ [.inRegion (cops (csub (cd Try.f6) [1,1,0,0])) [11,12,13,14,15,16], .code (csub (cd Try.f6) [1,1,0,1]), .code (csub (cd Try.f6) [1,1,1])] [(0, .int .i64 kind), (2, .int .i64 bit), (7, .string (sb (sealT kind s))), (27, .bool (decide (bit < 0)))] w5 (by kernel_rfl) .nil ?_
    refine GoS.fork 27 (decide (bit < 0)) (by kernel_rfl) (fun h9 => ?_) (fun h9 => ?_)
    ·
      have h9p : bit < 0 := of_decide_eq_true h9
      refine GoS.run [0, 2, 7, 33] [.n, .n, .n, .n, .n, .n] _ [.inRegion (cops (csub (cd Try.f6) [1,1,0,0])) [], .code (csub (cd Try.f6) [1,1,0,1]), .code (csub (cd Try.f6) [1,1,1])] [(0, .int .i64 kind), (2, .int .i64 bit), (7, .string (sb (sealT kind s))), (33, .bool true)] w5 (by kernel_rfl) .nil ?_
      refine GoS.run [] [.n, .n, .n, .n] _ [.inRegion (cops (csub (cd Try.f6) [1,1,0,1,0,0])) [0,1], .code (csub (cd Try.f6) [1,1,0,1,0,1]), .code (csub (cd Try.f6) [1,1,1])] [] w5 (by kernel_rfl) .nil ?_
      refine GoS.call [] 9 #[] (some 34) [.inRegion (cops (csub (cd Try.f6) [1,1,0,1,0,0])) [1], .code (csub (cd Try.f6) [1,1,0,1,0,1]), .code (csub (cd Try.f6) [1,1,1])] [] (by kernel_rfl) (awake_c w5) ?_
      rintro _ w15 ⟨rfl, m16⟩
      refine ⟨_, rfl, ?_⟩
      have hM17 := Mem.join hM7 m16
      refine GoS.run [6] [.n, .n] _ [.code (csub (cd Try.f6) [1,1,0,1,0,1]), .code (csub (cd Try.f6) [1,1,1])] [(6, .bool true)] w15 (by kernel_rfl) .nil ?_
      refine GoS.ret (fn := Try.f6) (v := (.bool true)) Try.func6 (by kernel_rfl) ?_
      rw [hR]
      exact ⟨rfl, hM17.below⟩
    ·
      have h9p : ¬ (bit < 0) := of_decide_eq_false h9
      have o10 : (Builtin.len_ #[9] 3 #[.string (sb (sealT kind s))]).run Try.prog w5 = .ok (.int .i64 (((sealT kind s).length : Nat) : Int)) w5 := f_len (by kernel_rfl)
      have o11 : (binOp .mul 3 (.int .i64 8) (.int .i64 (((sealT kind s).length : Nat) : Int))).run Try.prog w5 = .ok (.int .i64 (((8 * (sealT kind s).length) : Nat) : Int)) w5 := f_mul (by rw [show 8 * (((sealT kind s).length : Nat) : Int) = (((8 * (sealT kind s).length) : Nat) : Int) by omega]; exact IntWalk.i64_in _ (by omega))
      refine GoS.run [0, 2, 7, 33] [.n, .n, .h (.int .i64 (((sealT kind s).length : Nat) : Int)), .h (.int .i64 (((8 * (sealT kind s).length) : Nat) : Int)), .n, .n] _ [.inRegion (cops (csub (cd Try.f6) [1,1,0,0])) [], .code (csub (cd Try.f6) [1,1,0,1]), .code (csub (cd Try.f6) [1,1,1])] [(0, .int .i64 kind), (2, .int .i64 bit), (7, .string (sb (sealT kind s))), (33, .bool (decide (bit ≥ (((8 * (sealT kind s).length) : Nat) : Int))))] w5 (by kernel_rfl) (.cons o10 (.cons o11 .nil)) ?_
      refine GoS.run [0, 2, 7, 33] [.n] _ [.code (csub (cd Try.f6) [1,1,0,1]), .code (csub (cd Try.f6) [1,1,1])] [(0, .int .i64 kind), (2, .int .i64 bit), (7, .string (sb (sealT kind s))), (33, .bool (decide (bit ≥ (((8 * (sealT kind s).length) : Nat) : Int))))] w5 (by kernel_rfl) .nil ?_
      refine GoS.cond (decide (bit ≥ (((8 * (sealT kind s).length) : Nat) : Int))) [.code (csub (cd Try.f6) [1,1,0,1,0]), .code (csub (cd Try.f6) [1,1,1])] [.code (csub (cd Try.f6) [1,1,0,1,1]), .code (csub (cd Try.f6) [1,1,1])] (by kernel_rfl) (fun h18 => ?_) (fun h18 => ?_)
      ·
        have h18p : bit ≥ (((8 * (sealT kind s).length) : Nat) : Int) := of_decide_eq_true h18
        refine GoS.run [] [.n, .n] _ [.inRegion (cops (csub (cd Try.f6) [1,1,0,1,0,0])) [0,1], .code (csub (cd Try.f6) [1,1,0,1,0,1]), .code (csub (cd Try.f6) [1,1,1])] [] w5 (by kernel_rfl) .nil ?_
        refine GoS.call [] 9 #[] (some 34) [.inRegion (cops (csub (cd Try.f6) [1,1,0,1,0,0])) [1], .code (csub (cd Try.f6) [1,1,0,1,0,1]), .code (csub (cd Try.f6) [1,1,1])] [] (by kernel_rfl) (awake_c w5) ?_
        rintro _ w19 ⟨rfl, m20⟩
        refine ⟨_, rfl, ?_⟩
        have hM21 := Mem.join hM7 m20
        refine GoS.run [6] [.n, .n] _ [.code (csub (cd Try.f6) [1,1,0,1,0,1]), .code (csub (cd Try.f6) [1,1,1])] [(6, .bool true)] w19 (by kernel_rfl) .nil ?_
        refine GoS.ret (fn := Try.f6) (v := (.bool true)) Try.func6 (by kernel_rfl) ?_
        rw [hR]
        exact ⟨rfl, hM21.below⟩
      ·
        have h18p : ¬ (bit ≥ (((8 * (sealT kind s).length) : Nat) : Int)) := of_decide_eq_false h18
        refine GoS.run [0, 2, 7] [.n] _ [.code (csub (cd Try.f6) [1,1,1])] [(0, .int .i64 kind), (2, .int .i64 bit), (7, .string (sb (sealT kind s)))] w5 (by kernel_rfl) .nil ?_
        refine GoS.run [36, 37, 38] [.n, .n, .n, .n, .n] _ [.inRegion (cops (csub (cd Try.f6) [1,1,1,0])) [3,4,5,6,7,8,9], .code (csub (cd Try.f6) [1,1,1,1])] [(36, .int .i64 kind), (37, .string (sb (sealT kind s))), (38, .int .i64 bit)] w5 (by kernel_rfl) .nil ?_
        refine GoS.call [36] 14 #[.string (sb (sealT kind s)), .int .i64 bit] (some 39) [.inRegion (cops (csub (cd Try.f6) [1,1,1,0])) [4,5,6,7,8,9], .code (csub (cd Try.f6) [1,1,1,1])] [(36, .int .i64 kind)] (by kernel_rfl) (turn_c (sealT kind s) bit (by omega) w5) ?_
        rintro _ w22 ⟨rfl, m23⟩
        refine ⟨_, rfl, ?_⟩
        have hM24 := Mem.join hM7 m23
        have hl25 := turn_len (sealT kind s) bit
        refine GoS.call [] 12 #[.int .i64 kind, .string (sb (turnP (sealT kind s) bit))] (some 40) [.inRegion (cops (csub (cd Try.f6) [1,1,1,0])) [5,6,7,8,9], .code (csub (cd Try.f6) [1,1,1,1])] [] (by kernel_rfl) (open_c kind (turnP (sealT kind s) bit) (by omega) w22) ?_
        rintro _ w26 ⟨rfl, m27⟩
        refine ⟨_, rfl, ?_⟩
        have hM28 := Mem.join hM24 m27
        have o29 : (IntKind.i64 = IntKind.i64) ∧ w26 = w26 ∧ Value.bool true = .bool ((openE kind (turnP (sealT kind s) bit)) != 0) := ⟨rfl, rfl, congrArg Value.bool (Eq.symm (bne_iff_ne.2 (turn_bad (show isKind kind from kind_of (by assumption)) (by omega) (by omega))))⟩
        have o30 : (binOp .eql 9 (.string (sb (openS kind (turnP (sealT kind s) bit)))) (.string (sb ([])))).run Try.prog w26 = .ok (.bool true) w26 := f_streq_yes (by unfold openS; rw [if_neg (turn_bad (show isKind kind from kind_of (by assumption)) (by omega) (by omega))])
        refine GoS.run [6] [.n, .n, .n, .n, .n, .n, .n, .n, .n, .h (.bool true), .n, .n, .h (.bool true), .n, .n, .n] _ [.code (csub (cd Try.f6) [1,1,1,1,1])] [(6, .bool true)] w26 (by kernel_rfl) (.cons o29 (.cons o30 .nil)) ?_
        refine GoS.ret (fn := Try.f6) (v := (.bool true)) Try.func6 (by kernel_rfl) ?_
        rw [hR]
        exact ⟨rfl, hM28.below⟩


end Go.Proofs.Ytfbcmggdleoojaa
