/-
  The walk of strings.Replace.
-/
import Derived.Test.YtmjkbmlcclmdkaaDoorGro
namespace Go.Proofs.YtmjkbmlcclmdkaaDoor
open Go Go.Gw Go.NumP Go.CrcP Go.SealP Go.TupP Go.DoorP Go.RowKit
set_option linter.unusedVariables false
set_option linter.unusedSimpArgs false


set_option maxHeartbeats 400000 in
theorem count_c (s : List UInt8) (w : World) :
    Calls Tryd.prog 37 #[.string (sb s), .string (sb ([0] : List UInt8))] w (fun e w' => e = .returned (.int .i64 ((List.count 0 s : Nat) : Int)) ∧ w = w') := by
  obtain ⟨R, hR⟩ : ∃ R : Ending → World → Prop, R = (fun e w' => e = .returned (.int .i64 ((List.count 0 s : Nat) : Int)) ∧ w = w') := ⟨_, rfl⟩
  rw [← hR]
  refine GoS.enter (n := 34) Tryd.func37 (by kernel_rfl) rfl [(0, .string (sb s)), (1, .string (sb ([0] : List UInt8)))] (by kernel_rfl) (by kernel_rfl) ?_
  have o1 : (callFunc 44 #[.string (sb s), .int .u8 0]).run Tryd.prog w = .ok (.value (.int .i64 (((List.count 0 s) : Nat) : Int))) w := x_count Tryd.func44 (by kernel_rfl) (by kernel_rfl) (by kernel_rfl) (by kernel_rfl) s 0 w
  refine GoS.run [4] [.n, .n, .n, .n, .n, .n, .n, .n, .n, .n, .n, .n, .n, .n, .n, .n, .n, .n, .n, .n, .n, .n, .n, .n, .n, .n, .h (.int .i64 (((List.count 0 s) : Nat) : Int)), .n, .n] _ [.code (csub (cd Tryd.f37) [1,1,0,1,0,1]), .code (csub (cd Tryd.f37) [1,1,1])] [(4, .int .i64 (((List.count 0 s) : Nat) : Int))] w (by kernel_rfl) (.cons o1 .nil) ?_
  refine GoS.ret (fn := Tryd.f37) (v := (.int .i64 (((List.count 0 s) : Nat) : Int))) Tryd.func37 (by kernel_rfl) ?_
  rw [hR]
  exact ⟨rfl, rfl⟩

set_option maxHeartbeats 400000 in
theorem ixb_c (s : List UInt8) (w : World) :
    Calls Tryd.prog 49 #[.string (sb s), .int .u8 0] w (fun e w' => e = .returned (.int .i64 (Lib.indexByte s 0)) ∧ w = w') := by
  obtain ⟨R, hR⟩ : ∃ R : Ending → World → Prop, R = (fun e w' => e = .returned (.int .i64 (Lib.indexByte s 0)) ∧ w = w') := ⟨_, rfl⟩
  rw [← hR]
  refine GoS.enter (n := 8) Tryd.func49 (by kernel_rfl) rfl [(0, .string (sb s)), (1, .int .u8 0)] (by kernel_rfl) (by kernel_rfl) ?_
  have o1 : (callFunc 53 #[.string (sb s), .int .u8 0]).run Tryd.prog w = .ok (.value (.int .i64 (Lib.indexByte s 0))) w := x_index Tryd.func53 (by kernel_rfl) (by kernel_rfl) (by kernel_rfl) (by kernel_rfl) s 0 w
  refine GoS.run [4] [.n, .n, .n, .n, .n, .n, .n, .n, .h (.int .i64 (Lib.indexByte s 0)), .n, .n] _ [.code (csub (cd Tryd.f49) [1,1])] [(4, .int .i64 (Lib.indexByte s 0))] w (by kernel_rfl) (.cons o1 .nil) ?_
  refine GoS.ret (fn := Tryd.f49) (v := (.int .i64 (Lib.indexByte s 0))) Tryd.func49 (by kernel_rfl) ?_
  rw [hR]
  exact ⟨rfl, rfl⟩

set_option maxHeartbeats 400000 in
theorem ix_c (s : List UInt8) (w : World) :
    Calls Tryd.prog 46 #[.string (sb s), .string (sb ([0] : List UInt8))] w (fun e w' => e = .returned (.int .i64 (Lib.indexByte s 0)) ∧ w = w') := by
  obtain ⟨R, hR⟩ : ∃ R : Ending → World → Prop, R = (fun e w' => e = .returned (.int .i64 (Lib.indexByte s 0)) ∧ w = w') := ⟨_, rfl⟩
  rw [← hR]
  refine GoS.enter (n := 143) Tryd.func46 (by kernel_rfl) rfl [(0, .string (sb s)), (1, .string (sb ([0] : List UInt8)))] (by kernel_rfl) (by kernel_rfl) ?_
  have o1 : (binOp .eql 9 (.string (sb ([0] : List UInt8))) (.string (sb s))).run Tryd.prog w = .ok (.bool (decide (([0] : List UInt8) = s))) w := f_streq
  refine GoS.run [0, 1, 5, 16] [.n, .n, .n, .n, .n, .n, .n, .n, .n, .n, .n, .n, .n, .n, .n, .n, .n, .n, .n, .h (.bool (decide (([0] : List UInt8) = s))), .n, .n, .n] _ [.code (csub (cd Tryd.f46) [1,1,0,0,1]), .inBlock 0, .code (csub (cd Tryd.f46) [1,1,1])] [(0, .string (sb s)), (1, .string (sb ([0] : List UInt8))), (5, .int .i64 1), (16, .bool (decide (([0] : List UInt8) = s)))] w (by kernel_rfl) (.cons o1 .nil) ?_
  refine GoS.cond (decide (([0] : List UInt8) = s)) [.code (csub (cd Tryd.f46) [1,1,0,0,1,0]), .inBlock 0, .code (csub (cd Tryd.f46) [1,1,1])] [.code (csub (cd Tryd.f46) [1,1,0,0,1,1]), .inBlock 0, .code (csub (cd Tryd.f46) [1,1,1])] (by kernel_rfl) (fun h2 => ?_) (fun h2 => ?_)
  ·
    have h2p : ([0] : List UInt8) = s := of_decide_eq_true h2
    refine GoS.run [4] [.n, .n, .n, .n] _ [.code (csub (cd Tryd.f46) [1,1,0,0,1,0,1]), .inBlock 0, .code (csub (cd Tryd.f46) [1,1,1])] [(4, .int .i64 0)] w (by kernel_rfl) .nil ?_
    refine GoS.ret (fn := Tryd.f46) (v := (.int .i64 0)) Tryd.func46 (by kernel_rfl) ?_
    rw [hR]
    subst h2p
    exact ⟨rfl, rfl⟩
  ·
    have h2p : ¬ (([0] : List UInt8) = s) := of_decide_eq_false h2
    refine GoS.run [27, 29] [.n, .n, .n, .n, .n, .n, .n, .n, .n, .n, .n, .n] _ [.inRegion (cops (csub (cd Tryd.f46) [1,1,0,0,1,1,1,0,0])) [3,4], .code (csub (cd Tryd.f46) [1,1,0,0,1,1,1,0,1]), .inBlock 0, .code (csub (cd Tryd.f46) [1,1,1])] [(27, .string (sb s)), (29, .int .u8 0)] w (by kernel_rfl) .nil ?_
    refine GoS.call [] 49 #[.string (sb s), .int .u8 0] (some 30) [.inRegion (cops (csub (cd Tryd.f46) [1,1,0,0,1,1,1,0,0])) [4], .code (csub (cd Tryd.f46) [1,1,0,0,1,1,1,0,1]), .inBlock 0, .code (csub (cd Tryd.f46) [1,1,1])] [] (by kernel_rfl) (ixb_c s w) ?_
    rintro _ _ ⟨rfl, rfl⟩
    refine ⟨_, rfl, ?_⟩
    refine GoS.run [4] [.n, .n] _ [.code (csub (cd Tryd.f46) [1,1,0,0,1,1,1,0,1]), .inBlock 0, .code (csub (cd Tryd.f46) [1,1,1])] [(4, .int .i64 (Lib.indexByte s 0))] w (by kernel_rfl) .nil ?_
    refine GoS.ret (fn := Tryd.f46) (v := (.int .i64 (Lib.indexByte s 0))) Tryd.func46 (by kernel_rfl) ?_
    rw [hR]
    exact ⟨rfl, rfl⟩

set_option maxHeartbeats 400000 in
theorem six_c (s : List UInt8) (w : World) :
    Calls Tryd.prog 39 #[.string (sb s), .string (sb ([0] : List UInt8))] w (fun e w' => e = .returned (.int .i64 (Lib.indexByte s 0)) ∧ w = w') := by
  obtain ⟨R, hR⟩ : ∃ R : Ending → World → Prop, R = (fun e w' => e = .returned (.int .i64 (Lib.indexByte s 0)) ∧ w = w') := ⟨_, rfl⟩
  rw [← hR]
  refine GoS.enter (n := 8) Tryd.func39 (by kernel_rfl) rfl [(0, .string (sb s)), (1, .string (sb ([0] : List UInt8)))] (by kernel_rfl) (by kernel_rfl) ?_
  refine GoS.run [5, 6] [.n, .n, .n, .n, .n, .n, .n, .n] _ [.inRegion (cops (csub (cd Tryd.f39) [1,0])) [2,3], .code (csub (cd Tryd.f39) [1,1])] [(5, .string (sb s)), (6, .string (sb ([0] : List UInt8)))] w (by kernel_rfl) .nil ?_
  refine GoS.call [] 46 #[.string (sb s), .string (sb ([0] : List UInt8))] (some 7) [.inRegion (cops (csub (cd Tryd.f39) [1,0])) [3], .code (csub (cd Tryd.f39) [1,1])] [] (by kernel_rfl) (ix_c s w) ?_
  rintro _ _ ⟨rfl, rfl⟩
  refine ⟨_, rfl, ?_⟩
  refine GoS.run [4] [.n, .n] _ [.code (csub (cd Tryd.f39) [1,1])] [(4, .int .i64 (Lib.indexByte s 0))] w (by kernel_rfl) .nil ?_
  refine GoS.ret (fn := Tryd.f39) (v := (.int .i64 (Lib.indexByte s 0))) Tryd.func39 (by kernel_rfl) ?_
  rw [hR]
  exact ⟨rfl, rfl⟩

theorem six_yes (s : List UInt8) (hc : 0 < s.count 0) (w : World) :
    Calls Tryd.prog 39 #[.string (sb s), .string (sb ([0] : List UInt8))] w (fun e w' => e = .returned (.int .i64 ((zix s : Nat) : Int)) ∧ w = w') := by
  have h := six_c s w
  rwa [(index_zix hc).1] at h

set_option maxHeartbeats 1000000 in
theorem repl_L (s : List UInt8) {w0 : World} (b n : Nat) (hn : 1 ≤ n) (hn2 : n ≤ 140737488355328) (hs : s.length ≤ 140737488355328) (hs0 : 0 < s.length) (v : Value) (R : Ending → World → Prop) (hR : R = (fun e w' => e = .returned (.string (sb (enc s))) ∧ Mem [] w0 w' [])) : ∀ (N : Nat) (i a : Nat) (xs : List Value) (w : World) (hc : i + List.count 0 (List.drop a s) = n) (hk : a ≤ s.length) (hx : List.take (List.length (enc (List.take a s))) xs = u8s (enc (List.take a s))) (hl : xs.length = (List.length (enc s))) (hM : Mem [] w0 w [⟨57, 2, (obj b), 1, [.pointer (some (⟨b, 0, none⟩)), (cut v (List.length (enc (List.take a s))))]⟩, ⟨5, 1, v, (List.length (enc s)), xs⟩]) (hN : n - i < N), GoS Tryd.prog 33 R 104 [.code (csub (cd Tryd.f33) [1,1,1,1,1,1,0,1,0,1,0,0]), .inLoop (csub (cd Tryd.f33) [1,1,1,1,1,1,0,1,0,1,0,0]), .inBlock 0, .code (csub (cd Tryd.f33) [1,1,1,1,1,1,1])] [(0, .string (sb s)), (1, .string (sb ([0] : List UInt8))), (2, .string (sb ([0, 255] : List UInt8))), (10, .pointer (some (⟨b, 0, none⟩))), (11, .int .i64 ((a : Nat) : Int)), (52, .int .i64 ((n : Nat) : Int)), (53, .int .i64 ((i : Nat) : Int))] w := by
  intro N
  induction N with
  | zero => intro i a xs w hc hk hx hl hM hN; exact absurd hN (Nat.not_lt_zero _)
  | succ N ih =>
    intro i a xs w hc hk hx hl hM hN
    have hel := enc_len s
    have hts : List.length (enc (List.take a s)) + List.length (List.drop a s) ≤ List.length (enc s) := by rw [rp_all hk, List.length_append]; have := enc_len (List.drop a s); omega
    refine GoS.run [0, 1, 2, 10, 11, 52, 53, 54] [.n, .n, .n, .n, .n] _ [.code (csub (cd Tryd.f33) [1,1,1,1,1,1,0,1,0,1,0,0,1,0]), .code (csub (cd Tryd.f33) [1,1,1,1,1,1,0,1,0,1,0,0,1,1]), .inLoop (csub (cd Tryd.f33) [1,1,1,1,1,1,0,1,0,1,0,0]), .inBlock 0, .code (csub (cd Tryd.f33) [1,1,1,1,1,1,1])] [(0, .string (sb s)), (1, .string (sb ([0] : List UInt8))), (2, .string (sb ([0, 255] : List UInt8))), (10, .pointer (some (⟨b, 0, none⟩))), (11, .int .i64 ((a : Nat) : Int)), (52, .int .i64 ((n : Nat) : Int)), (53, .int .i64 ((i : Nat) : Int)), (54, .bool (decide (((i : Nat) : Int) < ((n : Nat) : Int))))] w (by kernel_rfl) .nil ?_
    refine GoS.cond (decide (((i : Nat) : Int) < ((n : Nat) : Int))) [.code (csub (cd Tryd.f33) [1,1,1,1,1,1,0,1,0,1,0,0,1,0,0]), .code (csub (cd Tryd.f33) [1,1,1,1,1,1,0,1,0,1,0,0,1,1]), .inLoop (csub (cd Tryd.f33) [1,1,1,1,1,1,0,1,0,1,0,0]), .inBlock 0, .code (csub (cd Tryd.f33) [1,1,1,1,1,1,1])] [.code (csub (cd Tryd.f33) [1,1,1,1,1,1,0,1,0,1,0,0,1,0,1]), .code (csub (cd Tryd.f33) [1,1,1,1,1,1,0,1,0,1,0,0,1,1]), .inLoop (csub (cd Tryd.f33) [1,1,1,1,1,1,0,1,0,1,0,0]), .inBlock 0, .code (csub (cd Tryd.f33) [1,1,1,1,1,1,1])] (by kernel_rfl) (fun h1 => ?_) (fun h1 => ?_)
    ·
      have h1p : ((i : Nat) : Int) < ((n : Nat) : Int) := of_decide_eq_true h1
      refine GoS.run [0, 1, 2, 10, 11, 52, 53] [.n] _ [.code (csub (cd Tryd.f33) [1,1,1,1,1,1,0,1,0,1,0,0,1,1]), .inLoop (csub (cd Tryd.f33) [1,1,1,1,1,1,0,1,0,1,0,0]), .inBlock 0, .code (csub (cd Tryd.f33) [1,1,1,1,1,1,1])] [(0, .string (sb s)), (1, .string (sb ([0] : List UInt8))), (2, .string (sb ([0, 255] : List UInt8))), (10, .pointer (some (⟨b, 0, none⟩))), (11, .int .i64 ((a : Nat) : Int)), (52, .int .i64 ((n : Nat) : Int)), (53, .int .i64 ((i : Nat) : Int))] w (by kernel_rfl) .nil ?_
      obtain ⟨hr1, hr2, hr3, hr4⟩ := rp_step (s := s) (a := a) hk (by omega)
      have o16 : (Instr.sliceAt 9 (.string (sb s)) (some (.int .i64 ((a : Nat) : Int))) none none).run Tryd.prog w = .ok (.string (sb (List.drop a s))) w := f_slice_lo a (by kernel_rfl) (by omega) (by first | omega | (simp only [List.length_drop]; omega))
      refine GoS.run [0, 1, 2, 10, 11, 52, 53, 55, 58, 59] [.n, .n, .n, .n, .n, .n, .n, .h (.string (sb (List.drop a s))), .n] _ [.inRegion (cops (csub (cd Tryd.f33) [1,1,1,1,1,1,0,1,0,1,0,0,1,1,0,0,0])) [5,6,7], .code (csub (cd Tryd.f33) [1,1,1,1,1,1,0,1,0,1,0,0,1,1,0,0,1]), .inBlock 1, .code (csub (cd Tryd.f33) [1,1,1,1,1,1,0,1,0,1,0,0,1,1,1]), .inLoop (csub (cd Tryd.f33) [1,1,1,1,1,1,0,1,0,1,0,0]), .inBlock 0, .code (csub (cd Tryd.f33) [1,1,1,1,1,1,1])] [(0, .string (sb s)), (1, .string (sb ([0] : List UInt8))), (2, .string (sb ([0, 255] : List UInt8))), (10, .pointer (some (⟨b, 0, none⟩))), (11, .int .i64 ((a : Nat) : Int)), (52, .int .i64 ((n : Nat) : Int)), (53, .int .i64 ((i : Nat) : Int)), (55, .int .i64 ((a : Nat) : Int)), (58, .string (sb (List.drop a s))), (59, .string (sb ([0] : List UInt8)))] w (by kernel_rfl) (.cons o16 .nil) ?_
      refine GoS.call [0, 1, 2, 10, 11, 52, 53, 55] 39 #[.string (sb (List.drop a s)), .string (sb ([0] : List UInt8))] (some 60) [.inRegion (cops (csub (cd Tryd.f33) [1,1,1,1,1,1,0,1,0,1,0,0,1,1,0,0,0])) [6,7], .code (csub (cd Tryd.f33) [1,1,1,1,1,1,0,1,0,1,0,0,1,1,0,0,1]), .inBlock 1, .code (csub (cd Tryd.f33) [1,1,1,1,1,1,0,1,0,1,0,0,1,1,1]), .inLoop (csub (cd Tryd.f33) [1,1,1,1,1,1,0,1,0,1,0,0]), .inBlock 0, .code (csub (cd Tryd.f33) [1,1,1,1,1,1,1])] [(0, .string (sb s)), (1, .string (sb ([0] : List UInt8))), (2, .string (sb ([0, 255] : List UInt8))), (10, .pointer (some (⟨b, 0, none⟩))), (11, .int .i64 ((a : Nat) : Int)), (52, .int .i64 ((n : Nat) : Int)), (53, .int .i64 ((i : Nat) : Int)), (55, .int .i64 ((a : Nat) : Int))] (by kernel_rfl) (six_yes (List.drop a s) (by omega) w) ?_
      rintro _ _ ⟨rfl, rfl⟩
      refine ⟨_, rfl, ?_⟩
      have o17 : (binOp .add 3 (.int .i64 ((a : Nat) : Int)) (.int .i64 (((zix (List.drop a s)) : Nat) : Int))).run Tryd.prog w = .ok (.int .i64 (((a + (zix (List.drop a s))) : Nat) : Int)) w := f_add (by rw [show ((a : Nat) : Int) + (((zix (List.drop a s)) : Nat) : Int) = (((a + (zix (List.drop a s))) : Nat) : Int) by omega]; exact IntWalk.i64_in _ (by omega))
      have o18 : (Instr.sliceAt 9 (.string (sb s)) (some (.int .i64 ((a : Nat) : Int))) (some (.int .i64 (((a + (zix (List.drop a s))) : Nat) : Int))) none).run Tryd.prog w = .ok (.string (sb (List.drop a (List.take (a + (zix (List.drop a s))) s)))) w := f_slice_lohi a (a + (zix (List.drop a s))) (by kernel_rfl) (by omega) (by omega) (by first | omega | (simp only [List.length_drop]; omega)) (by first | omega | (simp only [List.length_drop]; omega))
      refine GoS.run [0, 1, 2, 10, 12, 52, 53, 65] [.h (.int .i64 (((a + (zix (List.drop a s))) : Nat) : Int)), .n, .n, .n, .n, .n, .n, .n, .h (.string (sb (List.drop a (List.take (a + (zix (List.drop a s))) s))))] _ [.inRegion (cops (csub (cd Tryd.f33) [1,1,1,1,1,1,0,1,0,1,0,0,1,1,0,0,1,0])) [4], .code (csub (cd Tryd.f33) [1,1,1,1,1,1,0,1,0,1,0,0,1,1,0,0,1,1]), .inBlock 1, .code (csub (cd Tryd.f33) [1,1,1,1,1,1,0,1,0,1,0,0,1,1,1]), .inLoop (csub (cd Tryd.f33) [1,1,1,1,1,1,0,1,0,1,0,0]), .inBlock 0, .code (csub (cd Tryd.f33) [1,1,1,1,1,1,1])] [(0, .string (sb s)), (1, .string (sb ([0] : List UInt8))), (2, .string (sb ([0, 255] : List UInt8))), (10, .pointer (some (⟨b, 0, none⟩))), (12, .int .i64 (((a + (zix (List.drop a s))) : Nat) : Int)), (52, .int .i64 ((n : Nat) : Int)), (53, .int .i64 ((i : Nat) : Int)), (65, .string (sb (List.drop a (List.take (a + (zix (List.drop a s))) s))))] w (by kernel_rfl) (.cons o17 (.cons o18 .nil)) ?_
      have hM19 : Mem [] w0 w [⟨5, 1, v, (List.length (enc s)), xs⟩, ⟨57, 2, (obj b), 1, [.pointer (some (⟨b, 0, none⟩)), (cut v (List.length (enc (List.take a s))))]⟩] := hM.perm ((List.Perm.cons _ (List.Perm.refl _)).trans (List.Perm.swap _ _ _))
      have hM20 : Mem [] w0 w [⟨57, 2, (obj b), 1, [.pointer (some (⟨b, 0, none⟩)), (cut v (List.length (enc (List.take a s))))]⟩, ⟨5, 1, v, (List.length (enc s)), xs⟩] := hM19.perm ((List.Perm.cons _ (List.Perm.refl _)).trans (List.Perm.swap _ _ _))
      refine GoS.call [0, 1, 2, 10, 12, 52, 53] 40 #[.pointer (some (⟨b, 0, none⟩)), .string (sb (List.drop a (List.take (a + (zix (List.drop a s))) s)))] (some 66) [.inRegion (cops (csub (cd Tryd.f33) [1,1,1,1,1,1,0,1,0,1,0,0,1,1,0,0,1,0])) [], .code (csub (cd Tryd.f33) [1,1,1,1,1,1,0,1,0,1,0,0,1,1,0,0,1,1]), .inBlock 1, .code (csub (cd Tryd.f33) [1,1,1,1,1,1,0,1,0,1,0,0,1,1,1]), .inLoop (csub (cd Tryd.f33) [1,1,1,1,1,1,0,1,0,1,0,0]), .inBlock 0, .code (csub (cd Tryd.f33) [1,1,1,1,1,1,1])] [(0, .string (sb s)), (1, .string (sb ([0] : List UInt8))), (2, .string (sb ([0, 255] : List UInt8))), (10, .pointer (some (⟨b, 0, none⟩))), (12, .int .i64 (((a + (zix (List.drop a s))) : Nat) : Int)), (52, .int .i64 ((n : Nat) : Int)), (53, .int .i64 ((i : Nat) : Int))] (by kernel_rfl) (bws_c b v (List.length (enc s)) (List.length (enc (List.take a s))) xs (List.drop a (List.take (a + (zix (List.drop a s))) s)) (by simp only [List.length_append, List.length_drop, List.length_take, List.length_cons, List.length_nil] at *; omega) (by omega) w (Mem.lend (R := [⟨57, 2, (obj b), 1, [.pointer (some (⟨b, 0, none⟩)), (cut v (List.length (enc (List.take a s))))]⟩, ⟨5, 1, v, (List.length (enc s)), xs⟩]) (L := []) hM20)) ?_
      rintro _ w21 ⟨rfl, m22⟩
      refine ⟨_, rfl, ?_⟩
      have hM26 : Mem [] w0 w21 [⟨57, 2, (obj b), 1, [.pointer (some (⟨b, 0, none⟩)), (cut v ((List.length (enc (List.take a s))) + List.length (List.drop a (List.take (a + (zix (List.drop a s))) s))))]⟩, ⟨5, 1, v, (List.length (enc s)), (gapp xs (List.length (enc (List.take a s))) (List.drop a (List.take (a + (zix (List.drop a s))) s)))⟩] := Mem.back (R := [⟨57, 2, (obj b), 1, [.pointer (some (⟨b, 0, none⟩)), (cut v (List.length (enc (List.take a s))))]⟩, ⟨5, 1, v, (List.length (enc s)), xs⟩]) (L := []) hM20 m22
      have hx23 := (gapp_take (acc := (enc (List.take a s))) (s := (List.drop a (List.take (a + (zix (List.drop a s))) s))) hx hl (by simp only [List.length_append, List.length_drop, List.length_take, List.length_cons, List.length_nil] at *; omega)).1
      have hl24 := (gapp_take (acc := (enc (List.take a s))) (s := (List.drop a (List.take (a + (zix (List.drop a s))) s))) hx hl (by simp only [List.length_append, List.length_drop, List.length_take, List.length_cons, List.length_nil] at *; omega)).2
      have hM25 : Mem [] w0 w21 [⟨57, 2, (obj b), 1, [.pointer (some (⟨b, 0, none⟩)), (cut v (List.length ((enc (List.take a s)) ++ (List.drop a (List.take (a + (zix (List.drop a s))) s)))))]⟩, ⟨5, 1, v, (List.length (enc s)), (gapp xs (List.length (enc (List.take a s))) (List.drop a (List.take (a + (zix (List.drop a s))) s)))⟩] := hM26.cast (by rw [@List.length_append _ (enc (List.take a s)) (List.drop a (List.take (a + (zix (List.drop a s))) s))])
      refine GoS.run [0, 1, 2, 10, 12, 52, 53, 67] [.n, .n, .n, .n] _ [.inRegion (cops (csub (cd Tryd.f33) [1,1,1,1,1,1,0,1,0,1,0,0,1,1,0,0,1,1,0])) [1], .code (csub (cd Tryd.f33) [1,1,1,1,1,1,0,1,0,1,0,0,1,1,0,0,1,1,1]), .inBlock 1, .code (csub (cd Tryd.f33) [1,1,1,1,1,1,0,1,0,1,0,0,1,1,1]), .inLoop (csub (cd Tryd.f33) [1,1,1,1,1,1,0,1,0,1,0,0]), .inBlock 0, .code (csub (cd Tryd.f33) [1,1,1,1,1,1,1])] [(0, .string (sb s)), (1, .string (sb ([0] : List UInt8))), (2, .string (sb ([0, 255] : List UInt8))), (10, .pointer (some (⟨b, 0, none⟩))), (12, .int .i64 (((a + (zix (List.drop a s))) : Nat) : Int)), (52, .int .i64 ((n : Nat) : Int)), (53, .int .i64 ((i : Nat) : Int)), (67, .string (sb ([0, 255] : List UInt8)))] w21 (by kernel_rfl) .nil ?_
      have hM27 : Mem [] w0 w21 [⟨5, 1, v, (List.length (enc s)), (gapp xs (List.length (enc (List.take a s))) (List.drop a (List.take (a + (zix (List.drop a s))) s)))⟩, ⟨57, 2, (obj b), 1, [.pointer (some (⟨b, 0, none⟩)), (cut v (List.length ((enc (List.take a s)) ++ (List.drop a (List.take (a + (zix (List.drop a s))) s)))))]⟩] := hM25.perm ((List.Perm.cons _ (List.Perm.refl _)).trans (List.Perm.swap _ _ _))
      have hM28 : Mem [] w0 w21 [⟨57, 2, (obj b), 1, [.pointer (some (⟨b, 0, none⟩)), (cut v (List.length ((enc (List.take a s)) ++ (List.drop a (List.take (a + (zix (List.drop a s))) s)))))]⟩, ⟨5, 1, v, (List.length (enc s)), (gapp xs (List.length (enc (List.take a s))) (List.drop a (List.take (a + (zix (List.drop a s))) s)))⟩] := hM27.perm ((List.Perm.cons _ (List.Perm.refl _)).trans (List.Perm.swap _ _ _))
      refine GoS.call [0, 1, 2, 10, 12, 52, 53] 40 #[.pointer (some (⟨b, 0, none⟩)), .string (sb ([0, 255] : List UInt8))] (some 68) [.inRegion (cops (csub (cd Tryd.f33) [1,1,1,1,1,1,0,1,0,1,0,0,1,1,0,0,1,1,0])) [], .code (csub (cd Tryd.f33) [1,1,1,1,1,1,0,1,0,1,0,0,1,1,0,0,1,1,1]), .inBlock 1, .code (csub (cd Tryd.f33) [1,1,1,1,1,1,0,1,0,1,0,0,1,1,1]), .inLoop (csub (cd Tryd.f33) [1,1,1,1,1,1,0,1,0,1,0,0]), .inBlock 0, .code (csub (cd Tryd.f33) [1,1,1,1,1,1,1])] [(0, .string (sb s)), (1, .string (sb ([0] : List UInt8))), (2, .string (sb ([0, 255] : List UInt8))), (10, .pointer (some (⟨b, 0, none⟩))), (12, .int .i64 (((a + (zix (List.drop a s))) : Nat) : Int)), (52, .int .i64 ((n : Nat) : Int)), (53, .int .i64 ((i : Nat) : Int))] (by kernel_rfl) (bws_c b v (List.length (enc s)) (List.length ((enc (List.take a s)) ++ (List.drop a (List.take (a + (zix (List.drop a s))) s)))) (gapp xs (List.length (enc (List.take a s))) (List.drop a (List.take (a + (zix (List.drop a s))) s))) ([0, 255] : List UInt8) (by simp only [List.length_append, List.length_drop, List.length_take, List.length_cons, List.length_nil] at *; omega) (by omega) w21 (Mem.lend (R := [⟨57, 2, (obj b), 1, [.pointer (some (⟨b, 0, none⟩)), (cut v (List.length ((enc (List.take a s)) ++ (List.drop a (List.take (a + (zix (List.drop a s))) s)))))]⟩, ⟨5, 1, v, (List.length (enc s)), (gapp xs (List.length (enc (List.take a s))) (List.drop a (List.take (a + (zix (List.drop a s))) s)))⟩]) (L := []) hM28)) ?_
      rintro _ w29 ⟨rfl, m30⟩
      refine ⟨_, rfl, ?_⟩
      have hM34 : Mem [] w0 w29 [⟨57, 2, (obj b), 1, [.pointer (some (⟨b, 0, none⟩)), (cut v ((List.length ((enc (List.take a s)) ++ (List.drop a (List.take (a + (zix (List.drop a s))) s)))) + List.length ([0, 255] : List UInt8)))]⟩, ⟨5, 1, v, (List.length (enc s)), (gapp (gapp xs (List.length (enc (List.take a s))) (List.drop a (List.take (a + (zix (List.drop a s))) s))) (List.length ((enc (List.take a s)) ++ (List.drop a (List.take (a + (zix (List.drop a s))) s)))) ([0, 255] : List UInt8))⟩] := Mem.back (R := [⟨57, 2, (obj b), 1, [.pointer (some (⟨b, 0, none⟩)), (cut v (List.length ((enc (List.take a s)) ++ (List.drop a (List.take (a + (zix (List.drop a s))) s)))))]⟩, ⟨5, 1, v, (List.length (enc s)), (gapp xs (List.length (enc (List.take a s))) (List.drop a (List.take (a + (zix (List.drop a s))) s)))⟩]) (L := []) hM28 m30
      have hx31 := (gapp_take (acc := ((enc (List.take a s)) ++ (List.drop a (List.take (a + (zix (List.drop a s))) s)))) (s := ([0, 255] : List UInt8)) hx23 hl24 (by simp only [List.length_append, List.length_drop, List.length_take, List.length_cons, List.length_nil] at *; omega)).1
      have hl32 := (gapp_take (acc := ((enc (List.take a s)) ++ (List.drop a (List.take (a + (zix (List.drop a s))) s)))) (s := ([0, 255] : List UInt8)) hx23 hl24 (by simp only [List.length_append, List.length_drop, List.length_take, List.length_cons, List.length_nil] at *; omega)).2
      have hM33 : Mem [] w0 w29 [⟨57, 2, (obj b), 1, [.pointer (some (⟨b, 0, none⟩)), (cut v (List.length (((enc (List.take a s)) ++ (List.drop a (List.take (a + (zix (List.drop a s))) s))) ++ ([0, 255] : List UInt8))))]⟩, ⟨5, 1, v, (List.length (enc s)), (gapp (gapp xs (List.length (enc (List.take a s))) (List.drop a (List.take (a + (zix (List.drop a s))) s))) (List.length ((enc (List.take a s)) ++ (List.drop a (List.take (a + (zix (List.drop a s))) s)))) ([0, 255] : List UInt8))⟩] := hM34.cast (by rw [@List.length_append _ ((enc (List.take a s)) ++ (List.drop a (List.take (a + (zix (List.drop a s))) s))) ([0, 255] : List UInt8)])
      have o35 : (binOp .add 3 (.int .i64 (((a + (zix (List.drop a s))) : Nat) : Int)) (.int .i64 1)).run Tryd.prog w29 = .ok (.int .i64 ((((a + (zix (List.drop a s))) + 1) : Nat) : Int)) w29 := f_add (by rw [show (((a + (zix (List.drop a s))) : Nat) : Int) + 1 = ((((a + (zix (List.drop a s))) + 1) : Nat) : Int) by omega]; exact IntWalk.i64_in _ (by omega))
      have o36 : (binOp .add 3 (.int .i64 ((i : Nat) : Int)) (.int .i64 1)).run Tryd.prog w29 = .ok (.int .i64 (((i + 1) : Nat) : Int)) w29 := f_add (by rw [show ((i : Nat) : Int) + 1 = (((i + 1) : Nat) : Int) by omega]; exact IntWalk.i64_in _ (by omega))
      refine GoS.run [0, 1, 2, 10, 11, 52, 53] [.n, .n, .n, .n, .n, .h (.int .i64 ((((a + (zix (List.drop a s))) + 1) : Nat) : Int)), .n, .n, .n, .n, .h (.int .i64 (((i + 1) : Nat) : Int)), .n, .n, .n] _ [.code (csub (cd Tryd.f33) [1,1,1,1,1,1,0,1,0,1,0,0]), .inLoop (csub (cd Tryd.f33) [1,1,1,1,1,1,0,1,0,1,0,0]), .inBlock 0, .code (csub (cd Tryd.f33) [1,1,1,1,1,1,1])] [(0, .string (sb s)), (1, .string (sb ([0] : List UInt8))), (2, .string (sb ([0, 255] : List UInt8))), (10, .pointer (some (⟨b, 0, none⟩))), (11, .int .i64 ((((a + (zix (List.drop a s))) + 1) : Nat) : Int)), (52, .int .i64 ((n : Nat) : Int)), (53, .int .i64 (((i + 1) : Nat) : Int))] w29 (by kernel_rfl) (.cons o35 (.cons o36 .nil)) ?_
      rw [← hr1] at hx31
      exact GoS.cast (by first | rfl | simp) (ih (i + 1) (a + zix (List.drop a s) + 1) _ w29 (by omega) (by omega) hx31 hl32 (hM33.cast (by rw [← hr1])) (by omega))
    ·
      have h1p : ¬ (((i : Nat) : Int) < ((n : Nat) : Int)) := of_decide_eq_false h1
      have o2 : (Instr.sliceAt 9 (.string (sb s)) (some (.int .i64 ((a : Nat) : Int))) none none).run Tryd.prog w = .ok (.string (sb (List.drop a s))) w := f_slice_lo a (by kernel_rfl) (by omega) (by first | omega | (simp only [List.length_drop]; omega))
      refine GoS.run [10, 101] [.n, .n, .n, .n, .n, .h (.string (sb (List.drop a s)))] _ [.inRegion (cops (csub (cd Tryd.f33) [1,1,1,1,1,1,1,0])) [3], .code (csub (cd Tryd.f33) [1,1,1,1,1,1,1,1])] [(10, .pointer (some (⟨b, 0, none⟩))), (101, .string (sb (List.drop a s)))] w (by kernel_rfl) (.cons o2 .nil) ?_
      have hM3 : Mem [] w0 w [⟨5, 1, v, (List.length (enc s)), xs⟩, ⟨57, 2, (obj b), 1, [.pointer (some (⟨b, 0, none⟩)), (cut v (List.length (enc (List.take a s))))]⟩] := hM.perm ((List.Perm.cons _ (List.Perm.refl _)).trans (List.Perm.swap _ _ _))
      have hM4 : Mem [] w0 w [⟨57, 2, (obj b), 1, [.pointer (some (⟨b, 0, none⟩)), (cut v (List.length (enc (List.take a s))))]⟩, ⟨5, 1, v, (List.length (enc s)), xs⟩] := hM3.perm ((List.Perm.cons _ (List.Perm.refl _)).trans (List.Perm.swap _ _ _))
      refine GoS.call [10] 40 #[.pointer (some (⟨b, 0, none⟩)), .string (sb (List.drop a s))] (some 102) [.inRegion (cops (csub (cd Tryd.f33) [1,1,1,1,1,1,1,0])) [], .code (csub (cd Tryd.f33) [1,1,1,1,1,1,1,1])] [(10, .pointer (some (⟨b, 0, none⟩)))] (by kernel_rfl) (bws_c b v (List.length (enc s)) (List.length (enc (List.take a s))) xs (List.drop a s) (by simp only [List.length_append, List.length_drop, List.length_take, List.length_cons, List.length_nil] at *; omega) (by omega) w (Mem.lend (R := [⟨57, 2, (obj b), 1, [.pointer (some (⟨b, 0, none⟩)), (cut v (List.length (enc (List.take a s))))]⟩, ⟨5, 1, v, (List.length (enc s)), xs⟩]) (L := []) hM4)) ?_
      rintro _ w5 ⟨rfl, m6⟩
      refine ⟨_, rfl, ?_⟩
      have hM10 : Mem [] w0 w5 [⟨57, 2, (obj b), 1, [.pointer (some (⟨b, 0, none⟩)), (cut v ((List.length (enc (List.take a s))) + List.length (List.drop a s)))]⟩, ⟨5, 1, v, (List.length (enc s)), (gapp xs (List.length (enc (List.take a s))) (List.drop a s))⟩] := Mem.back (R := [⟨57, 2, (obj b), 1, [.pointer (some (⟨b, 0, none⟩)), (cut v (List.length (enc (List.take a s))))]⟩, ⟨5, 1, v, (List.length (enc s)), xs⟩]) (L := []) hM4 m6
      have hx7 := (gapp_take (acc := (enc (List.take a s))) (s := (List.drop a s)) hx hl (by simp only [List.length_append, List.length_drop, List.length_take, List.length_cons, List.length_nil] at *; omega)).1
      have hl8 := (gapp_take (acc := (enc (List.take a s))) (s := (List.drop a s)) hx hl (by simp only [List.length_append, List.length_drop, List.length_take, List.length_cons, List.length_nil] at *; omega)).2
      have hM9 : Mem [] w0 w5 [⟨57, 2, (obj b), 1, [.pointer (some (⟨b, 0, none⟩)), (cut v (List.length ((enc (List.take a s)) ++ (List.drop a s))))]⟩, ⟨5, 1, v, (List.length (enc s)), (gapp xs (List.length (enc (List.take a s))) (List.drop a s))⟩] := hM10.cast (by rw [@List.length_append _ (enc (List.take a s)) (List.drop a s)])
      refine GoS.run [10] [.n, .n, .n] _ [.inRegion (cops (csub (cd Tryd.f33) [1,1,1,1,1,1,1,1,0])) [0,1], .code (csub (cd Tryd.f33) [1,1,1,1,1,1,1,1,1])] [(10, .pointer (some (⟨b, 0, none⟩)))] w5 (by kernel_rfl) .nil ?_
      have hM11 : Mem [] w0 w5 [⟨5, 1, v, (List.length (enc s)), (gapp xs (List.length (enc (List.take a s))) (List.drop a s))⟩, ⟨57, 2, (obj b), 1, [.pointer (some (⟨b, 0, none⟩)), (cut v (List.length ((enc (List.take a s)) ++ (List.drop a s))))]⟩] := hM9.perm ((List.Perm.cons _ (List.Perm.refl _)).trans (List.Perm.swap _ _ _))
      have hM12 : Mem [] w0 w5 [⟨57, 2, (obj b), 1, [.pointer (some (⟨b, 0, none⟩)), (cut v (List.length ((enc (List.take a s)) ++ (List.drop a s))))]⟩, ⟨5, 1, v, (List.length (enc s)), (gapp xs (List.length (enc (List.take a s))) (List.drop a s))⟩] := hM11.perm ((List.Perm.cons _ (List.Perm.refl _)).trans (List.Perm.swap _ _ _))
      refine GoS.call [] 29 #[.pointer (some (⟨b, 0, none⟩))] (some 103) [.inRegion (cops (csub (cd Tryd.f33) [1,1,1,1,1,1,1,1,0])) [1], .code (csub (cd Tryd.f33) [1,1,1,1,1,1,1,1,1])] [] (by kernel_rfl) (bstrg_c b v (List.length (enc s)) (gapp xs (List.length (enc (List.take a s))) (List.drop a s)) ((enc (List.take a s)) ++ (List.drop a s)) hx7 (by have q := rp_end hk (by omega); have q2 := congrArg List.length q; rw [List.length_append] at q2; simp only [List.length_append] at *; omega) (by have q := rp_end hk (by omega); have q2 := congrArg List.length q; rw [List.length_append] at q2; have q3 := enc_len s; simp only [List.length_append] at *; omega) w5 (Mem.lend (R := [⟨57, 2, (obj b), 1, [.pointer (some (⟨b, 0, none⟩)), (cut v (List.length ((enc (List.take a s)) ++ (List.drop a s))))]⟩, ⟨5, 1, v, (List.length (enc s)), (gapp xs (List.length (enc (List.take a s))) (List.drop a s))⟩]) (L := []) hM12)) ?_
      rintro _ w13 ⟨rfl, m14⟩
      refine ⟨_, rfl, ?_⟩
      have hM15 : Mem [] w0 w13 [⟨57, 2, (obj b), 1, [.pointer (some (⟨b, 0, none⟩)), (cut v (List.length ((enc (List.take a s)) ++ (List.drop a s))))]⟩] := Mem.back (R := [⟨57, 2, (obj b), 1, [.pointer (some (⟨b, 0, none⟩)), (cut v (List.length ((enc (List.take a s)) ++ (List.drop a s))))]⟩, ⟨5, 1, v, (List.length (enc s)), (gapp xs (List.length (enc (List.take a s))) (List.drop a s))⟩]) (L := []) hM12 m14
      refine GoS.run [8] [.n, .n] _ [.code (csub (cd Tryd.f33) [1,1,1,1,1,1,1,1,1])] [(8, .string (sb ((enc (List.take a s)) ++ (List.drop a s))))] w13 (by kernel_rfl) .nil ?_
      refine GoS.ret (fn := Tryd.f33) (v := (.string (sb ((enc (List.take a s)) ++ (List.drop a s))))) Tryd.func33 (by kernel_rfl) ?_
      rw [hR]
      exact ⟨ret_str (rp_end hk (by omega)).symm, hM15.sub (List.nil_sublist _)⟩

set_option maxHeartbeats 400000 in
theorem repl_c (s : List UInt8) (hs : s.length ≤ 140737488355328) (w : World) :
    Calls Tryd.prog 33 #[.string (sb s), .string (sb ([0] : List UInt8)), .string (sb ([0, 255] : List UInt8)), .int .i64 (-1)] w (fun e w' => e = .returned (.string (sb (enc s))) ∧ Mem [] w w' []) := by
  have hel := enc_len s
  obtain ⟨R, hR⟩ : ∃ R : Ending → World → Prop, R = (fun e w' => e = .returned (.string (sb (enc s))) ∧ Mem [] w w' []) := ⟨_, rfl⟩
  rw [← hR]
  refine GoS.enter (n := 104) Tryd.func33 (by kernel_rfl) rfl [(0, .string (sb s)), (1, .string (sb ([0] : List UInt8))), (2, .string (sb ([0, 255] : List UInt8))), (3, .int .i64 (-1))] (by kernel_rfl) (by kernel_rfl) ?_
  have hM0 := Mem.start w
  have o1 : (binOp .eql 9 (.string (sb ([0] : List UInt8))) (.string (sb ([0, 255] : List UInt8)))).run Tryd.prog w = .ok (.bool false) w := f_streq_no (by decide)
  refine GoS.run [0, 1, 2, 3, 24, 25] [.n, .n, .n, .n, .n, .n, .n, .n, .n, .h (.bool false), .n, .n, .n, .n, .n, .n, .n, .n, .n, .n, .n, .n] _ [.inRegion (cops (csub (cd Tryd.f33) [1,1,0,0])) [2,3], .code (csub (cd Tryd.f33) [1,1,0,1]), .code (csub (cd Tryd.f33) [1,1,1])] [(0, .string (sb s)), (1, .string (sb ([0] : List UInt8))), (2, .string (sb ([0, 255] : List UInt8))), (3, .int .i64 (-1)), (24, .string (sb s)), (25, .string (sb ([0] : List UInt8)))] w (by kernel_rfl) (.cons o1 .nil) ?_
  refine GoS.call [0, 1, 2, 3] 37 #[.string (sb s), .string (sb ([0] : List UInt8))] (some 26) [.inRegion (cops (csub (cd Tryd.f33) [1,1,0,0])) [3], .code (csub (cd Tryd.f33) [1,1,0,1]), .code (csub (cd Tryd.f33) [1,1,1])] [(0, .string (sb s)), (1, .string (sb ([0] : List UInt8))), (2, .string (sb ([0, 255] : List UInt8))), (3, .int .i64 (-1))] (by kernel_rfl) (count_c s w) ?_
  rintro _ _ ⟨rfl, rfl⟩
  refine ⟨_, rfl, ?_⟩
  refine GoS.run [0, 1, 2, 3, 9, 28] [.n, .n, .n, .n, .n, .n, .n] _ [.code (csub (cd Tryd.f33) [1,1,0,1,1]), .code (csub (cd Tryd.f33) [1,1,1])] [(0, .string (sb s)), (1, .string (sb ([0] : List UInt8))), (2, .string (sb ([0, 255] : List UInt8))), (3, .int .i64 (-1)), (9, .int .i64 (((List.count 0 s) : Nat) : Int)), (28, .bool ((((List.count 0 s) : Nat) : Int) == 0))] w (by kernel_rfl) .nil ?_
  refine GoS.cond ((((List.count 0 s) : Nat) : Int) == 0) [.code (csub (cd Tryd.f33) [1,1,0,1,1,0]), .code (csub (cd Tryd.f33) [1,1,1])] [.code (csub (cd Tryd.f33) [1,1,0,1,1,1]), .code (csub (cd Tryd.f33) [1,1,1])] (by kernel_rfl) (fun h2 => ?_) (fun h2 => ?_)
  ·
    have h2p : (((List.count 0 s) : Nat) : Int) = 0 := eq_of_beq h2
    refine GoS.run [8] [.n, .n, .n, .n, .n] _ [.code (csub (cd Tryd.f33) [1,1,0,1,1,0,1]), .code (csub (cd Tryd.f33) [1,1,1])] [(8, .string (sb s))] w (by kernel_rfl) .nil ?_
    refine GoS.ret (fn := Tryd.f33) (v := (.string (sb s))) Tryd.func33 (by kernel_rfl) ?_
    rw [hR]
    exact ⟨ret_str (enc_free (by omega)).symm, hM0⟩
  ·
    have h2p : ¬ ((((List.count 0 s) : Nat) : Int) = 0) := p_ne h2
    refine GoS.run [0, 1, 2, 3] [.n, .n, .n, .n, .n, .n, .n, .n, .n, .n, .n, .n, .n, .n, .n] _ [.code (csub (cd Tryd.f33) [1,1,1])] [(0, .string (sb s)), (1, .string (sb ([0] : List UInt8))), (2, .string (sb ([0, 255] : List UInt8))), (3, .int .i64 (((List.count 0 s) : Nat) : Int))] w (by kernel_rfl) .nil ?_
    obtain ⟨b3, w4, hr5, hM6⟩ := m_alloc oT57 hM0
    have hM7 : Mem [] w w4 [⟨57, 2, (obj b3), 1, [.pointer none, .slice none 0 0]⟩] := hM6
    have o8 : (Instr.alloc 57 true (.tuple #[])).run Tryd.prog w = .ok (.pointer (some (⟨b3, 0, none⟩))) w4 := hr5
    have o9 : (Builtin.len_ #[9] 3 #[.string (sb s)]).run Tryd.prog w4 = .ok (.int .i64 ((s.length : Nat) : Int)) w4 := f_len (by kernel_rfl)
    have o10 : (binOp .mul 3 (.int .i64 (((List.count 0 s) : Nat) : Int)) (.int .i64 1)).run Tryd.prog w4 = .ok (.int .i64 (((List.count 0 s) : Nat) : Int)) w4 := f_mul (by rw [show (((List.count 0 s) : Nat) : Int) * 1 = (((List.count 0 s) : Nat) : Int) by omega]; exact IntWalk.i64_in _ (by omega))
    have o11 : (binOp .add 3 (.int .i64 ((s.length : Nat) : Int)) (.int .i64 (((List.count 0 s) : Nat) : Int))).run Tryd.prog w4 = .ok (.int .i64 (((s.length + (List.count 0 s)) : Nat) : Int)) w4 := f_add (by rw [show ((s.length : Nat) : Int) + (((List.count 0 s) : Nat) : Int) = (((s.length + (List.count 0 s)) : Nat) : Int) by omega]; exact IntWalk.i64_in _ (by omega))
    refine GoS.run [0, 1, 2, 3, 10, 47] [.n, .n, .u (.pointer (some (⟨b3, 0, none⟩))) (w4), .n, .n, .n, .n, .h (.int .i64 ((s.length : Nat) : Int)), .n, .n, .n, .n, .n, .n, .h (.int .i64 (((List.count 0 s) : Nat) : Int)), .h (.int .i64 (((s.length + (List.count 0 s)) : Nat) : Int))] _ [.inRegion (cops (csub (cd Tryd.f33) [1,1,1,1,0])) [10], .code (csub (cd Tryd.f33) [1,1,1,1,1])] [(0, .string (sb s)), (1, .string (sb ([0] : List UInt8))), (2, .string (sb ([0, 255] : List UInt8))), (3, .int .i64 (((List.count 0 s) : Nat) : Int)), (10, .pointer (some (⟨b3, 0, none⟩))), (47, .int .i64 (((s.length + (List.count 0 s)) : Nat) : Int))] w4 (by kernel_rfl) (.cons o8 (.cons o9 (.cons o10 (.cons o11 .nil)))) ?_
    refine GoS.call [0, 1, 2, 3, 10] 38 #[.pointer (some (⟨b3, 0, none⟩)), .int .i64 (((s.length + (List.count 0 s)) : Nat) : Int)] (some 48) [.inRegion (cops (csub (cd Tryd.f33) [1,1,1,1,0])) [], .code (csub (cd Tryd.f33) [1,1,1,1,1])] [(0, .string (sb s)), (1, .string (sb ([0] : List UInt8))), (2, .string (sb ([0, 255] : List UInt8))), (3, .int .i64 (((List.count 0 s) : Nat) : Int)), (10, .pointer (some (⟨b3, 0, none⟩)))] (by kernel_rfl) (bgrow2_c b3 (s.length + (List.count 0 s)) (by omega) (by omega) w4 (Mem.lend (R := [⟨57, 2, (obj b3), 1, [.pointer none, .slice none 0 0]⟩]) (L := []) hM7)) ?_
    rintro _ w12 ⟨v14, xs15, rfl, hx16, m13⟩
    refine ⟨_, rfl, ?_⟩
    have hM17 : Mem [] w w12 [⟨57, 2, (obj b3), 1, [.pointer (some (⟨b3, 0, none⟩)), (cut v14 0)]⟩, ⟨5, 1, v14, (s.length + (List.count 0 s)), xs15⟩] := Mem.back (R := [⟨57, 2, (obj b3), 1, [.pointer none, .slice none 0 0]⟩]) (L := []) hM7 m13
    refine GoS.run [0, 1, 2, 10, 11, 52, 53] [.n, .n, .n, .n, .n, .n, .n, .n, .n, .n, .n, .n, .n, .n, .n, .n, .n, .n, .n, .n] _ [.code (csub (cd Tryd.f33) [1,1,1,1,1,1,0,1,0,1,0,0]), .inLoop (csub (cd Tryd.f33) [1,1,1,1,1,1,0,1,0,1,0,0]), .inBlock 0, .code (csub (cd Tryd.f33) [1,1,1,1,1,1,1])] [(0, .string (sb s)), (1, .string (sb ([0] : List UInt8))), (2, .string (sb ([0, 255] : List UInt8))), (10, .pointer (some (⟨b3, 0, none⟩))), (11, .int .i64 0), (52, .int .i64 (((List.count 0 s) : Nat) : Int)), (53, .int .i64 0)] w12 (by kernel_rfl) .nil ?_
    have hcn := enc_len s
    exact GoS.cast (by first | rfl | simp) (repl_L s b3 (List.count 0 s) (by omega) (by omega) hs (by omega) v14 R hR (List.count 0 s + 1) 0 0 xs15 w12 (by simp) (Nat.zero_le _) (by rw [List.take_zero]; rfl) (by rw [hx16]; omega) (hM17.cast (by rw [show List.length s + List.count 0 s = List.length (enc s) by omega]; rfl)) (by omega))


end Go.Proofs.YtmjkbmlcclmdkaaDoor
