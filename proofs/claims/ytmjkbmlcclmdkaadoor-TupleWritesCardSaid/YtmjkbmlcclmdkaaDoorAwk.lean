/-
  The walks of Text, of the reference's Text, of stands, of awake.
-/
import Derived.Test.YtmjkbmlcclmdkaaDoorRpl
namespace Go.Proofs.YtmjkbmlcclmdkaaDoor
open Go Go.Gw Go.NumP Go.CrcP Go.SealP Go.TupP Go.DoorP Go.RowKit
set_option linter.unusedVariables false
set_option linter.unusedSimpArgs false


set_option maxHeartbeats 400000 in
theorem rall_c (s : List UInt8) (hs : s.length ≤ 140737488355328) (w : World) :
    Calls Tryd.prog 25 #[.string (sb s), .string (sb ([0] : List UInt8)), .string (sb ([0, 255] : List UInt8))] w (fun e w' => e = .returned (.string (sb (enc s))) ∧ Mem [] w w' []) := by
  obtain ⟨R, hR⟩ : ∃ R : Ending → World → Prop, R = (fun e w' => e = .returned (.string (sb (enc s))) ∧ Mem [] w w' []) := ⟨_, rfl⟩
  rw [← hR]
  refine GoS.enter (n := 11) Tryd.func25 (by kernel_rfl) rfl [(0, .string (sb s)), (1, .string (sb ([0] : List UInt8))), (2, .string (sb ([0, 255] : List UInt8)))] (by kernel_rfl) (by kernel_rfl) ?_
  have hM0 := Mem.start w
  refine GoS.run [7, 8, 9] [.n, .n, .n, .n, .n, .n, .n, .n, .n] _ [.inRegion (cops (csub (cd Tryd.f25) [1,0])) [3,4], .code (csub (cd Tryd.f25) [1,1])] [(7, .string (sb s)), (8, .string (sb ([0] : List UInt8))), (9, .string (sb ([0, 255] : List UInt8)))] w (by kernel_rfl) .nil ?_
  refine GoS.call [] 33 #[.string (sb s), .string (sb ([0] : List UInt8)), .string (sb ([0, 255] : List UInt8)), .int .i64 (-1)] (some 10) [.inRegion (cops (csub (cd Tryd.f25) [1,0])) [4], .code (csub (cd Tryd.f25) [1,1])] [] (by kernel_rfl) (repl_c s (by omega) w) ?_
  rintro _ w1 ⟨rfl, m2⟩
  refine ⟨_, rfl, ?_⟩
  have hM3 := Mem.join hM0 m2
  refine GoS.run [6] [.n, .n] _ [.code (csub (cd Tryd.f25) [1,1])] [(6, .string (sb (enc s)))] w1 (by kernel_rfl) .nil ?_
  refine GoS.ret (fn := Tryd.f25) (v := (.string (sb (enc s)))) Tryd.func25 (by kernel_rfl) ?_
  rw [hR]
  exact ⟨rfl, hM3⟩

set_option maxHeartbeats 400000 in
theorem text_c (s : List UInt8) (hs : s.length ≤ 140737488355328) (w : World) :
    Calls Tryd.prog 11 #[.string (sb s)] w (fun e w' => e = .returned (.string (sb (textB s))) ∧ Mem [] w w' []) := by
  obtain ⟨R, hR⟩ : ∃ R : Ending → World → Prop, R = (fun e w' => e = .returned (.string (sb (textB s))) ∧ Mem [] w w' []) := ⟨_, rfl⟩
  rw [← hR]
  refine GoS.enter (n := 6) Tryd.func11 (by kernel_rfl) rfl [(0, .string (sb s))] (by kernel_rfl) (by kernel_rfl) ?_
  have hM0 := Mem.start w
  refine GoS.run [3] [.n, .n, .n, .n, .n, .n, .n] _ [.inRegion (cops (csub (cd Tryd.f11) [1,0])) [1,2,3], .code (csub (cd Tryd.f11) [1,1])] [(3, .string (sb s))] w (by kernel_rfl) .nil ?_
  refine GoS.call [] 25 #[.string (sb s), .string (sb ([0] : List UInt8)), .string (sb ([0, 255] : List UInt8))] (some 4) [.inRegion (cops (csub (cd Tryd.f11) [1,0])) [2,3], .code (csub (cd Tryd.f11) [1,1])] [] (by kernel_rfl) (rall_c s (by omega) w) ?_
  rintro _ w1 ⟨rfl, m2⟩
  refine ⟨_, rfl, ?_⟩
  have hM3 := Mem.join hM0 m2
  have o4 : (binOp .add 9 (.string (sb (enc s))) (.string (sb ([0, 1] : List UInt8)))).run Tryd.prog w1 = .ok (.string (sb ((enc s) ++ ([0, 1] : List UInt8)))) w1 := f_stradd (by have q := enc_len s; simp only [List.length_cons, List.length_nil]; omega)
  refine GoS.run [2] [.h (.string (sb ((enc s) ++ ([0, 1] : List UInt8)))), .n, .n] _ [.code (csub (cd Tryd.f11) [1,1])] [(2, .string (sb ((enc s) ++ ([0, 1] : List UInt8))))] w1 (by kernel_rfl) (.cons o4 .nil) ?_
  refine GoS.ret (fn := Tryd.f11) (v := (.string (sb ((enc s) ++ ([0, 1] : List UInt8))))) Tryd.func11 (by kernel_rfl) ?_
  rw [hR]
  exact ⟨rfl, hM3⟩

set_option maxHeartbeats 400000 in
theorem rtxt_L (s : List UInt8) (hs : s.length ≤ 140737488355328) (w : World) (R : Ending → World → Prop) (hR : R = (fun e w' => e = .returned (.string (sb (textB s))) ∧ w = w')) : ∀ (N : Nat) (f i : Nat) (hf : f ≤ i) (hi : i ≤ s.length) (hz : ∀ j, f ≤ j → j < i → ¬ bl s j = 0) (hN : s.length - i < N), GoS Tryd.prog 13 R 32 [.code (csub (cd Tryd.f13) [1,1,1,0,1,0,0]), .inLoop (csub (cd Tryd.f13) [1,1,1,0,1,0,0]), .inBlock 0, .code (csub (cd Tryd.f13) [1,1,1,1])] [(0, .string (sb s)), (3, .string (sb (enc (List.take f s)))), (4, .int .i64 ((f : Nat) : Int)), (5, .int .i64 ((i : Nat) : Int))] w := by
  intro N
  induction N with
  | zero => intro f i hf hi hz hN; exact absurd hN (Nat.not_lt_zero _)
  | succ N ih =>
    intro f i hf hi hz hN
    have o1 : (Builtin.len_ #[9] 3 #[.string (sb s)]).run Tryd.prog w = .ok (.int .i64 ((s.length : Nat) : Int)) w := f_len (by kernel_rfl)
    refine GoS.run [0, 3, 4, 5, 9] [.n, .n, .n, .n, .n, .h (.int .i64 ((s.length : Nat) : Int)), .n, .n] _ [.code (csub (cd Tryd.f13) [1,1,1,0,1,0,0,0,1]), .code (csub (cd Tryd.f13) [1,1,1,0,1,0,0,1]), .inLoop (csub (cd Tryd.f13) [1,1,1,0,1,0,0]), .inBlock 0, .code (csub (cd Tryd.f13) [1,1,1,1])] [(0, .string (sb s)), (3, .string (sb (enc (List.take f s)))), (4, .int .i64 ((f : Nat) : Int)), (5, .int .i64 ((i : Nat) : Int)), (9, .bool (decide (((i : Nat) : Int) < ((s.length : Nat) : Int))))] w (by kernel_rfl) (.cons o1 .nil) ?_
    refine GoS.cond (decide (((i : Nat) : Int) < ((s.length : Nat) : Int))) [.code (csub (cd Tryd.f13) [1,1,1,0,1,0,0,0,1,0]), .code (csub (cd Tryd.f13) [1,1,1,0,1,0,0,1]), .inLoop (csub (cd Tryd.f13) [1,1,1,0,1,0,0]), .inBlock 0, .code (csub (cd Tryd.f13) [1,1,1,1])] [.code (csub (cd Tryd.f13) [1,1,1,0,1,0,0,0,1,1]), .code (csub (cd Tryd.f13) [1,1,1,0,1,0,0,1]), .inLoop (csub (cd Tryd.f13) [1,1,1,0,1,0,0]), .inBlock 0, .code (csub (cd Tryd.f13) [1,1,1,1])] (by kernel_rfl) (fun h2 => ?_) (fun h2 => ?_)
    ·
      have h2p : ((i : Nat) : Int) < ((s.length : Nat) : Int) := of_decide_eq_true h2
      refine GoS.run [0, 3, 4, 5] [.n] _ [.code (csub (cd Tryd.f13) [1,1,1,0,1,0,0,1]), .inLoop (csub (cd Tryd.f13) [1,1,1,0,1,0,0]), .inBlock 0, .code (csub (cd Tryd.f13) [1,1,1,1])] [(0, .string (sb s)), (3, .string (sb (enc (List.take f s)))), (4, .int .i64 ((f : Nat) : Int)), (5, .int .i64 ((i : Nat) : Int))] w (by kernel_rfl) .nil ?_
      have hb6 := bl_bd s i
      have o7 : (Instr.index 9 (.string (sb s)) (.int .i64 ((i : Nat) : Int))).run Tryd.prog w = .ok (.int .u8 (bl s i)) w := f_index i (by kernel_rfl) (by omega) (by omega)
      refine GoS.run [0, 3, 4, 5, 15] [.n, .n, .n, .n, .n, .n, .h (.int .u8 (bl s i)), .n, .n] _ [.code (csub (cd Tryd.f13) [1,1,1,0,1,0,0,1,0,0,1]), .inBlock 1, .code (csub (cd Tryd.f13) [1,1,1,0,1,0,0,1,1]), .inLoop (csub (cd Tryd.f13) [1,1,1,0,1,0,0]), .inBlock 0, .code (csub (cd Tryd.f13) [1,1,1,1])] [(0, .string (sb s)), (3, .string (sb (enc (List.take f s)))), (4, .int .i64 ((f : Nat) : Int)), (5, .int .i64 ((i : Nat) : Int)), (15, .bool ((bl s i) == 0))] w (by kernel_rfl) (.cons o7 .nil) ?_
      refine GoS.cond ((bl s i) == 0) [.code (csub (cd Tryd.f13) [1,1,1,0,1,0,0,1,0,0,1,0]), .inBlock 1, .code (csub (cd Tryd.f13) [1,1,1,0,1,0,0,1,1]), .inLoop (csub (cd Tryd.f13) [1,1,1,0,1,0,0]), .inBlock 0, .code (csub (cd Tryd.f13) [1,1,1,1])] [.code (csub (cd Tryd.f13) [1,1,1,0,1,0,0,1,0,0,1,1]), .inBlock 1, .code (csub (cd Tryd.f13) [1,1,1,0,1,0,0,1,1]), .inLoop (csub (cd Tryd.f13) [1,1,1,0,1,0,0]), .inBlock 0, .code (csub (cd Tryd.f13) [1,1,1,1])] (by kernel_rfl) (fun h8 => ?_) (fun h8 => ?_)
      ·
        have h8p : (bl s i) = 0 := eq_of_beq h8
        have o9 : (binOp .add 3 (.int .i64 ((i : Nat) : Int)) (.int .i64 1)).run Tryd.prog w = .ok (.int .i64 (((i + 1) : Nat) : Int)) w := f_add (by rw [show ((i : Nat) : Int) + 1 = (((i + 1) : Nat) : Int) by omega]; exact IntWalk.i64_in _ (by omega))
        have o10 : (Instr.sliceAt 9 (.string (sb s)) (some (.int .i64 ((f : Nat) : Int))) (some (.int .i64 (((i + 1) : Nat) : Int))) none).run Tryd.prog w = .ok (.string (sb (List.drop f (List.take (i + 1) s)))) w := f_slice_lohi f (i + 1) (by kernel_rfl) (by omega) (by omega) (by omega) (by omega)
        have o11 : (binOp .add 9 (.string (sb (enc (List.take f s)))) (.string (sb (List.drop f (List.take (i + 1) s))))).run Tryd.prog w = .ok (.string (sb ((enc (List.take f s)) ++ (List.drop f (List.take (i + 1) s))))) w := f_stradd (by have q := enc_len (List.take f s); simp only [List.length_append, List.length_drop, List.length_take, List.length_cons, List.length_nil] at *; omega)
        have o12 : (binOp .add 9 (.string (sb ((enc (List.take f s)) ++ (List.drop f (List.take (i + 1) s))))) (.string (sb ([255] : List UInt8)))).run Tryd.prog w = .ok (.string (sb (((enc (List.take f s)) ++ (List.drop f (List.take (i + 1) s))) ++ ([255] : List UInt8)))) w := f_stradd (by have q := enc_len (List.take f s); simp only [List.length_append, List.length_drop, List.length_take, List.length_cons, List.length_nil] at *; omega)
        have o13 : (binOp .add 3 (.int .i64 ((i : Nat) : Int)) (.int .i64 1)).run Tryd.prog w = .ok (.int .i64 (((i + 1) : Nat) : Int)) w := f_add (by rw [show ((i : Nat) : Int) + 1 = (((i + 1) : Nat) : Int) by omega]; exact IntWalk.i64_in _ (by omega))
        refine GoS.run [0, 3, 4, 5] [.n, .n, .n, .n, .n, .n, .h (.int .i64 (((i + 1) : Nat) : Int)), .h (.string (sb (List.drop f (List.take (i + 1) s)))), .h (.string (sb ((enc (List.take f s)) ++ (List.drop f (List.take (i + 1) s))))), .h (.string (sb (((enc (List.take f s)) ++ (List.drop f (List.take (i + 1) s))) ++ ([255] : List UInt8)))), .n, .n, .n, .n, .h (.int .i64 (((i + 1) : Nat) : Int)), .n, .n] _ [.inBlock 1, .code (csub (cd Tryd.f13) [1,1,1,0,1,0,0,1,1]), .inLoop (csub (cd Tryd.f13) [1,1,1,0,1,0,0]), .inBlock 0, .code (csub (cd Tryd.f13) [1,1,1,1])] [(0, .string (sb s)), (3, .string (sb (((enc (List.take f s)) ++ (List.drop f (List.take (i + 1) s))) ++ ([255] : List UInt8)))), (4, .int .i64 (((i + 1) : Nat) : Int)), (5, .int .i64 ((i : Nat) : Int))] w (by kernel_rfl) (.cons o9 (.cons o10 (.cons o11 (.cons o12 (.cons o13 .nil))))) ?_
        have o14 : (binOp .add 3 (.int .i64 ((i : Nat) : Int)) (.int .i64 1)).run Tryd.prog w = .ok (.int .i64 (((i + 1) : Nat) : Int)) w := f_add (by rw [show ((i : Nat) : Int) + 1 = (((i + 1) : Nat) : Int) by omega]; exact IntWalk.i64_in _ (by omega))
        refine GoS.run [0, 3, 4, 5] [.n, .n, .n, .h (.int .i64 (((i + 1) : Nat) : Int)), .n, .n, .n] _ [.code (csub (cd Tryd.f13) [1,1,1,0,1,0,0]), .inLoop (csub (cd Tryd.f13) [1,1,1,0,1,0,0]), .inBlock 0, .code (csub (cd Tryd.f13) [1,1,1,1])] [(0, .string (sb s)), (3, .string (sb (((enc (List.take f s)) ++ (List.drop f (List.take (i + 1) s))) ++ ([255] : List UInt8)))), (4, .int .i64 (((i + 1) : Nat) : Int)), (5, .int .i64 (((i + 1) : Nat) : Int))] w (by kernel_rfl) (.cons o14 .nil) ?_
        have hb := bl_bd s i
        exact GoS.cast (by rw [rt_zero (by omega) hf hz (by omega)]) (ih (i + 1) (i + 1) (Nat.le_refl _) (by omega) (fun j h1 h2 => absurd h2 (by omega)) (by omega))
      ·
        have h8p : ¬ ((bl s i) = 0) := p_ne h8
        refine GoS.run [0, 3, 4, 5] [.n] _ [.inBlock 1, .code (csub (cd Tryd.f13) [1,1,1,0,1,0,0,1,1]), .inLoop (csub (cd Tryd.f13) [1,1,1,0,1,0,0]), .inBlock 0, .code (csub (cd Tryd.f13) [1,1,1,1])] [(0, .string (sb s)), (3, .string (sb (enc (List.take f s)))), (4, .int .i64 ((f : Nat) : Int)), (5, .int .i64 ((i : Nat) : Int))] w (by kernel_rfl) .nil ?_
        have o15 : (binOp .add 3 (.int .i64 ((i : Nat) : Int)) (.int .i64 1)).run Tryd.prog w = .ok (.int .i64 (((i + 1) : Nat) : Int)) w := f_add (by rw [show ((i : Nat) : Int) + 1 = (((i + 1) : Nat) : Int) by omega]; exact IntWalk.i64_in _ (by omega))
        refine GoS.run [0, 3, 4, 5] [.n, .n, .n, .h (.int .i64 (((i + 1) : Nat) : Int)), .n, .n, .n] _ [.code (csub (cd Tryd.f13) [1,1,1,0,1,0,0]), .inLoop (csub (cd Tryd.f13) [1,1,1,0,1,0,0]), .inBlock 0, .code (csub (cd Tryd.f13) [1,1,1,1])] [(0, .string (sb s)), (3, .string (sb (enc (List.take f s)))), (4, .int .i64 ((f : Nat) : Int)), (5, .int .i64 (((i + 1) : Nat) : Int))] w (by kernel_rfl) (.cons o15 .nil) ?_
        exact ih f (i + 1) (by omega) (by omega) (fun j h1 h2 => by rcases Nat.lt_succ_iff_lt_or_eq.1 h2 with h | h; exact hz j h1 h; subst h; omega) (by omega)
    ·
      have h2p : ¬ (((i : Nat) : Int) < ((s.length : Nat) : Int)) := of_decide_eq_false h2
      have o3 : (Instr.sliceAt 9 (.string (sb s)) (some (.int .i64 ((f : Nat) : Int))) none none).run Tryd.prog w = .ok (.string (sb (List.drop f s))) w := f_slice_lo f (by kernel_rfl) (by omega) (by omega)
      have o4 : (binOp .add 9 (.string (sb (enc (List.take f s)))) (.string (sb (List.drop f s)))).run Tryd.prog w = .ok (.string (sb ((enc (List.take f s)) ++ (List.drop f s)))) w := f_stradd (by have q := enc_len (List.take f s); simp only [List.length_append, List.length_drop, List.length_take, List.length_cons, List.length_nil] at *; omega)
      have o5 : (binOp .add 9 (.string (sb ((enc (List.take f s)) ++ (List.drop f s)))) (.string (sb ([0, 1] : List UInt8)))).run Tryd.prog w = .ok (.string (sb (((enc (List.take f s)) ++ (List.drop f s)) ++ ([0, 1] : List UInt8)))) w := f_stradd (by have q := enc_len (List.take f s); simp only [List.length_append, List.length_drop, List.length_take, List.length_cons, List.length_nil] at *; omega)
      refine GoS.run [2] [.n, .n, .n, .n, .n, .n, .h (.string (sb (List.drop f s))), .h (.string (sb ((enc (List.take f s)) ++ (List.drop f s)))), .h (.string (sb (((enc (List.take f s)) ++ (List.drop f s)) ++ ([0, 1] : List UInt8)))), .n, .n] _ [.code (csub (cd Tryd.f13) [1,1,1,1,1])] [(2, .string (sb (((enc (List.take f s)) ++ (List.drop f s)) ++ ([0, 1] : List UInt8))))] w (by kernel_rfl) (.cons o3 (.cons o4 (.cons o5 .nil))) ?_
      refine GoS.ret (fn := Tryd.f13) (v := (.string (sb (((enc (List.take f s)) ++ (List.drop f s)) ++ ([0, 1] : List UInt8))))) Tryd.func13 (by kernel_rfl) ?_
      rw [hR]
      exact ⟨ret_str (by unfold textB; rw [rt_end (by omega) (fun j h1 h2 => hz j h1 (by omega))]), rfl⟩

set_option maxHeartbeats 400000 in
theorem rtxt_c (s : List UInt8) (hs : s.length ≤ 140737488355328) (w : World) :
    Calls Tryd.prog 13 #[.string (sb s)] w (fun e w' => e = .returned (.string (sb (textB s))) ∧ w = w') := by
  obtain ⟨R, hR⟩ : ∃ R : Ending → World → Prop, R = (fun e w' => e = .returned (.string (sb (textB s))) ∧ w = w') := ⟨_, rfl⟩
  rw [← hR]
  refine GoS.enter (n := 32) Tryd.func13 (by kernel_rfl) rfl [(0, .string (sb s))] (by kernel_rfl) (by kernel_rfl) ?_
  refine GoS.run [0, 3, 4, 5] [.n, .n, .n, .n, .n, .n, .n, .n, .n, .n, .n, .n, .n, .n, .n, .n, .n, .n, .n] _ [.code (csub (cd Tryd.f13) [1,1,1,0,1,0,0]), .inLoop (csub (cd Tryd.f13) [1,1,1,0,1,0,0]), .inBlock 0, .code (csub (cd Tryd.f13) [1,1,1,1])] [(0, .string (sb s)), (3, .string (sb ([]))), (4, .int .i64 0), (5, .int .i64 0)] w (by kernel_rfl) .nil ?_
  exact rtxt_L s hs w R hR (s.length + 1) 0 0 (Nat.le_refl _) (Nat.zero_le _) (fun j h1 h2 => absurd h2 (by omega)) (by omega)

theorem nums1_c (u : Value) (n : Int) (hn : Fit n) (w : World) (hu : Rd w 1 u 1 (ivals .i64 [n])) :
    Calls Tryd.prog 10 #[u] w (fun e w' => e = .returned (.string (sb (nb n))) ∧ Mem [] w w' []) := by
  have h := nums_c u [n] (one_bd hn) (by simp) w hu
  have e : numsB [n] = numB n := by simp [numsB]
  rwa [e] at h

set_option maxHeartbeats 400000 in
theorem stands_c (a b : List UInt8) (w : World) :
    Calls Tryd.prog 9 #[.string (sb a), .string (sb b)] w (fun e w' => e = .returned (.int .i64 (cmpT a b)) ∧ w = w') := by
  obtain ⟨R, hR⟩ : ∃ R : Ending → World → Prop, R = (fun e w' => e = .returned (.int .i64 (cmpT a b)) ∧ w = w') := ⟨_, rfl⟩
  rw [← hR]
  refine GoS.enter (n := 11) Tryd.func9 (by kernel_rfl) rfl [(0, .string (sb a)), (1, .string (sb b))] (by kernel_rfl) (by kernel_rfl) ?_
  have o1 : (binOp .lss 9 (.string (sb a)) (.string (sb b))).run Tryd.prog w = .ok (.bool (Op.bytesLess a b)) w := f_strlt
  refine GoS.run [0, 1, 7] [.n, .n, .n, .n, .n, .n, .n, .n, .n, .h (.bool (Op.bytesLess a b)), .n] _ [.code (csub (cd Tryd.f9) [1,0,1]), .code (csub (cd Tryd.f9) [1,1])] [(0, .string (sb a)), (1, .string (sb b)), (7, .bool (Op.bytesLess a b))] w (by kernel_rfl) (.cons o1 .nil) ?_
  refine GoS.cond (Op.bytesLess a b) [.code (csub (cd Tryd.f9) [1,0,1,0]), .code (csub (cd Tryd.f9) [1,1])] [.code (csub (cd Tryd.f9) [1,0,1,1]), .code (csub (cd Tryd.f9) [1,1])] (by kernel_rfl) (fun h2 => ?_) (fun h2 => ?_)
  ·
    refine GoS.run [4] [.n, .n, .n, .n] _ [.code (csub (cd Tryd.f9) [1,0,1,0,1]), .code (csub (cd Tryd.f9) [1,1])] [(4, .int .i64 (-1))] w (by kernel_rfl) .nil ?_
    refine GoS.ret (fn := Tryd.f9) (v := (.int .i64 (-1))) Tryd.func9 (by kernel_rfl) ?_
    rw [hR]
    exact ⟨ret_int (by unfold cmpT less; rw [h2]; rfl), rfl⟩
  ·
    refine GoS.run [0, 1] [.n] _ [.code (csub (cd Tryd.f9) [1,1])] [(0, .string (sb a)), (1, .string (sb b))] w (by kernel_rfl) .nil ?_
    have o3 : Sem.run Tryd.prog (do pure (Next.value (← binOp .gtr 9 (.string (sb a)) (.string (sb b))))) w = .ok (.value (.bool (Op.bytesLess b a))) w := f_strgt a b w
    refine GoS.run [10] [.n, .n, .n, .n, .n, .h (.bool (Op.bytesLess b a)), .n] _ [.code (csub (cd Tryd.f9) [1,1,0,1]), .code (csub (cd Tryd.f9) [1,1,1])] [(10, .bool (Op.bytesLess b a))] w (by kernel_rfl) (.cons o3 .nil) ?_
    refine GoS.cond (Op.bytesLess b a) [.code (csub (cd Tryd.f9) [1,1,0,1,0]), .code (csub (cd Tryd.f9) [1,1,1])] [.code (csub (cd Tryd.f9) [1,1,0,1,1]), .code (csub (cd Tryd.f9) [1,1,1])] (by kernel_rfl) (fun h4 => ?_) (fun h4 => ?_)
    ·
      refine GoS.run [4] [.n, .n, .n, .n] _ [.code (csub (cd Tryd.f9) [1,1,0,1,0,1]), .code (csub (cd Tryd.f9) [1,1,1])] [(4, .int .i64 1)] w (by kernel_rfl) .nil ?_
      refine GoS.ret (fn := Tryd.f9) (v := (.int .i64 1)) Tryd.func9 (by kernel_rfl) ?_
      rw [hR]
      exact ⟨ret_int (by unfold cmpT less; rw [h2, h4]; rfl), rfl⟩
    ·
      refine GoS.run [] [.n] _ [.code (csub (cd Tryd.f9) [1,1,1])] [] w (by kernel_rfl) .nil ?_
      refine GoS.run [4] [.n, .n, .n, .n] _ [.code (csub (cd Tryd.f9) [1,1,1,1])] [(4, .int .i64 0)] w (by kernel_rfl) .nil ?_
      refine GoS.ret (fn := Tryd.f9) (v := (.int .i64 0)) Tryd.func9 (by kernel_rfl) ?_
      rw [hR]
      exact ⟨ret_int (by unfold cmpT less; rw [h2, h4]; rfl), rfl⟩

set_option maxHeartbeats 400000 in
theorem awake_c (w : World) :
    Calls Tryd.prog 8 #[] w (fun e w' => e = .returned (.bool true) ∧ Mem [] w w' []) := by
  obtain ⟨R, hR⟩ : ∃ R : Ending → World → Prop, R = (fun e w' => e = .returned (.bool true) ∧ Mem [] w w' []) := ⟨_, rfl⟩
  rw [← hR]
  refine GoS.enter (n := 57) Tryd.func8 (by kernel_rfl) rfl [] (by kernel_rfl) (by kernel_rfl) ?_
  have hM0 := Mem.start w
  refine GoS.run [] [.n, .n, .n, .n, .n, .n] _ [.inRegion (cops (csub (cd Tryd.f8) [1,0])) [0,1], .code (csub (cd Tryd.f8) [1,1])] [] w (by kernel_rfl) .nil ?_
  refine GoS.call [] 16 #[.string (sb ([130, 97, 0, 1, 5] : List UInt8))] (some 8) [.inRegion (cops (csub (cd Tryd.f8) [1,0])) [1], .code (csub (cd Tryd.f8) [1,1])] [] (by kernel_rfl) (at_c ([130, 97, 0, 1, 5] : List UInt8) w) ?_
  rintro _ w2 ⟨b1, rfl, m3⟩
  refine ⟨_, rfl, ?_⟩
  have hM4 := Mem.join hM0 m3
  refine GoS.run [1, 10] [.n, .n, .n, .n, .n] _ [.inRegion (cops (csub (cd Tryd.f8) [1,1,0])) [1,2,3,4,5,6], .code (csub (cd Tryd.f8) [1,1,1])] [(1, .pointer (some (⟨b1, 0, none⟩))), (10, .pointer (some (⟨b1, 0, none⟩)))] w2 (by kernel_rfl) .nil ?_
  refine GoS.call [1] 22 #[.pointer (some (⟨b1, 0, none⟩))] (some 11) [.inRegion (cops (csub (cd Tryd.f8) [1,1,0])) [2,3,4,5,6], .code (csub (cd Tryd.f8) [1,1,1])] [(1, .pointer (some (⟨b1, 0, none⟩)))] (by kernel_rfl) (ccount_c ([130, 97, 0, 1, 5] : List UInt8) b1 w2 (Mem.lend (R := [⟨52, 1, (obj b1), 1, [.string (sb ([130, 97, 0, 1, 5] : List UInt8))]⟩]) (L := []) hM4)) ?_
  rintro _ w5 ⟨rfl, m6⟩
  refine ⟨_, rfl, ?_⟩
  have hM7 : Mem [] w w5 [⟨52, 1, (obj b1), 1, [.string (sb (cntR ([130, 97, 0, 1, 5] : List UInt8)))]⟩] := Mem.back (R := [⟨52, 1, (obj b1), 1, [.string (sb ([130, 97, 0, 1, 5] : List UInt8))]⟩]) (L := []) hM4 m6
  refine GoS.run [1, 2, 3, 15] [.n, .n, .n, .n, .n, .n, .n, .n, .n] _ [.inRegion (cops (csub (cd Tryd.f8) [1,1,1,0])) [1,2,3,4,5,6], .code (csub (cd Tryd.f8) [1,1,1,1])] [(1, .pointer (some (⟨b1, 0, none⟩))), (2, .int .i64 ((cntP ([130, 97, 0, 1, 5] : List UInt8)).1)), (3, .int .i64 ((cntP ([130, 97, 0, 1, 5] : List UInt8)).2.2)), (15, .pointer (some (⟨b1, 0, none⟩)))] w5 (by kernel_rfl) .nil ?_
  refine GoS.call [1, 2, 3] 19 #[.pointer (some (⟨b1, 0, none⟩))] (some 16) [.inRegion (cops (csub (cd Tryd.f8) [1,1,1,0])) [2,3,4,5,6], .code (csub (cd Tryd.f8) [1,1,1,1])] [(1, .pointer (some (⟨b1, 0, none⟩))), (2, .int .i64 ((cntP ([130, 97, 0, 1, 5] : List UInt8)).1)), (3, .int .i64 ((cntP ([130, 97, 0, 1, 5] : List UInt8)).2.2))] (by kernel_rfl) (ctext_c (cntR ([130, 97, 0, 1, 5] : List UInt8)) b1 (by decide +kernel) (by exact .inl (by decide +kernel)) w5 (Mem.lend (R := [⟨52, 1, (obj b1), 1, [.string (sb (cntR ([130, 97, 0, 1, 5] : List UInt8)))]⟩]) (L := []) hM7)) ?_
  rintro _ w8 ⟨rfl, m9⟩
  refine ⟨_, rfl, ?_⟩
  have hM10 : Mem [] w w8 [⟨52, 1, (obj b1), 1, [.string (sb (txR (cntR ([130, 97, 0, 1, 5] : List UInt8))))]⟩] := Mem.back (R := [⟨52, 1, (obj b1), 1, [.string (sb (cntR ([130, 97, 0, 1, 5] : List UInt8)))]⟩]) (L := []) hM7 m9
  have htx11 := txN_le (cntR ([130, 97, 0, 1, 5] : List UInt8))
  refine GoS.run [1, 2, 3, 4, 5, 20] [.n, .n, .n, .n, .n, .n, .n, .n, .n] _ [.inRegion (cops (csub (cd Tryd.f8) [1,1,1,1,0])) [1,2,3,4,5,6], .code (csub (cd Tryd.f8) [1,1,1,1,1])] [(1, .pointer (some (⟨b1, 0, none⟩))), (2, .int .i64 ((cntP ([130, 97, 0, 1, 5] : List UInt8)).1)), (3, .int .i64 ((cntP ([130, 97, 0, 1, 5] : List UInt8)).2.2)), (4, .string (sb (txS (cntR ([130, 97, 0, 1, 5] : List UInt8))))), (5, .int .i64 (txE (cntR ([130, 97, 0, 1, 5] : List UInt8)))), (20, .pointer (some (⟨b1, 0, none⟩)))] w8 (by kernel_rfl) .nil ?_
  refine GoS.call [1, 2, 3, 4, 5] 18 #[.pointer (some (⟨b1, 0, none⟩))] (some 21) [.inRegion (cops (csub (cd Tryd.f8) [1,1,1,1,0])) [2,3,4,5,6], .code (csub (cd Tryd.f8) [1,1,1,1,1])] [(1, .pointer (some (⟨b1, 0, none⟩))), (2, .int .i64 ((cntP ([130, 97, 0, 1, 5] : List UInt8)).1)), (3, .int .i64 ((cntP ([130, 97, 0, 1, 5] : List UInt8)).2.2)), (4, .string (sb (txS (cntR ([130, 97, 0, 1, 5] : List UInt8))))), (5, .int .i64 (txE (cntR ([130, 97, 0, 1, 5] : List UInt8))))] (by kernel_rfl) (cnum_c (txR (cntR ([130, 97, 0, 1, 5] : List UInt8))) b1 w8 (Mem.lend (R := [⟨52, 1, (obj b1), 1, [.string (sb (txR (cntR ([130, 97, 0, 1, 5] : List UInt8))))]⟩]) (L := []) hM10)) ?_
  rintro _ w12 ⟨rfl, m13⟩
  refine ⟨_, rfl, ?_⟩
  have hM14 : Mem [] w w12 [⟨52, 1, (obj b1), 1, [.string (sb (numR (txR (cntR ([130, 97, 0, 1, 5] : List UInt8)))))]⟩] := Mem.back (R := [⟨52, 1, (obj b1), 1, [.string (sb (txR (cntR ([130, 97, 0, 1, 5] : List UInt8))))]⟩]) (L := []) hM10 m13
  obtain ⟨v15, w16, hr17, hM18⟩ := m_lit sT28 hM14 (n := 2) (parts := #[(0, .int .i64 368), (1, .int .i64 (-113))]) (cs := [.int .i64 368, .int .i64 (-113)]) (by decide) (by kernel_rfl) rfl
  have o19 : (Instr.buildSlice 28 2 #[(0, .int .i64 368), (1, .int .i64 (-113))]).run Tryd.prog w12 = .ok v15 w16 := hr17
  refine GoS.run [1, 2, 3, 4, 5, 7, 24] [.n, .n, .n, .n, .n, .n, .n, .n, .u (v15) (w16)] _ [.inRegion (cops (csub (cd Tryd.f8) [1,1,1,1,1,0])) [1,2,3,4,5,6,7,8,9,10,11,12,13,14,15,16,17,18,19,20,21,22,23,24,25,26,27,28,29,30,31,32,33], .code (csub (cd Tryd.f8) [1,1,1,1,1,1])] [(1, .pointer (some (⟨b1, 0, none⟩))), (2, .int .i64 ((cntP ([130, 97, 0, 1, 5] : List UInt8)).1)), (3, .int .i64 ((cntP ([130, 97, 0, 1, 5] : List UInt8)).2.2)), (4, .string (sb (txS (cntR ([130, 97, 0, 1, 5] : List UInt8))))), (5, .int .i64 (txE (cntR ([130, 97, 0, 1, 5] : List UInt8)))), (7, .int .i64 ((numP (txR (cntR ([130, 97, 0, 1, 5] : List UInt8)))).2.2)), (24, v15)] w16 (by kernel_rfl) (.cons o19 .nil) ?_
  refine GoS.call [1, 2, 3, 4, 5, 7] 10 #[v15] (some 25) [.inRegion (cops (csub (cd Tryd.f8) [1,1,1,1,1,0])) [2,3,4,5,6,7,8,9,10,11,12,13,14,15,16,17,18,19,20,21,22,23,24,25,26,27,28,29,30,31,32,33], .code (csub (cd Tryd.f8) [1,1,1,1,1,1])] [(1, .pointer (some (⟨b1, 0, none⟩))), (2, .int .i64 ((cntP ([130, 97, 0, 1, 5] : List UInt8)).1)), (3, .int .i64 ((cntP ([130, 97, 0, 1, 5] : List UInt8)).2.2)), (4, .string (sb (txS (cntR ([130, 97, 0, 1, 5] : List UInt8))))), (5, .int .i64 (txE (cntR ([130, 97, 0, 1, 5] : List UInt8)))), (7, .int .i64 ((numP (txR (cntR ([130, 97, 0, 1, 5] : List UInt8)))).2.2))] (by kernel_rfl) (nums_c v15 ([368, (-113)] : List Int) (by intro j; rcases j with _ | _ | j <;> simp) (by simp) w16 (hM18.rd 0 rfl)) ?_
  rintro _ w20 ⟨rfl, m21⟩
  refine ⟨_, rfl, ?_⟩
  have hM22 := Mem.join hM18 m21
  have o23 : (binOp .eql 9 (.string (sb (bytesOf (numsB ([368, (-113)] : List Int))))) (.string (sb ([241, 1, 0, 15, 255] : List UInt8)))).run Tryd.prog w20 = .ok (.bool true) w20 := f_streq_yes (by decide +kernel)
  have o24 : (IntKind.i64 = IntKind.i64) ∧ w20 = w20 ∧ Value.bool true = .bool ((cntP ([130, 97, 0, 1, 5] : List UInt8)).1 == 2) := ⟨rfl, rfl, congrArg Value.bool (Eq.symm (by decide +kernel))⟩
  have o25 : (IntKind.i64 = IntKind.i64) ∧ w20 = w20 ∧ Value.bool true = .bool ((cntP ([130, 97, 0, 1, 5] : List UInt8)).2.2 == 0) := ⟨rfl, rfl, congrArg Value.bool (Eq.symm (by decide +kernel))⟩
  have o26 : (binOp .eql 9 (.string (sb (txS (cntR ([130, 97, 0, 1, 5] : List UInt8))))) (.string (sb ([97] : List UInt8)))).run Tryd.prog w20 = .ok (.bool true) w20 := f_streq_yes (wake_s)
  have o27 : (IntKind.i64 = IntKind.i64) ∧ w20 = w20 ∧ Value.bool true = .bool ((txE (cntR ([130, 97, 0, 1, 5] : List UInt8))) == 0) := ⟨rfl, rfl, congrArg Value.bool (Eq.symm (by rw [wake_e]; rfl))⟩
  have o28 : (IntKind.i64 = IntKind.i64) ∧ w20 = w20 ∧ Value.bool true = .bool ((numP (txR (cntR ([130, 97, 0, 1, 5] : List UInt8)))).2.2 == 3) := ⟨rfl, rfl, congrArg Value.bool (Eq.symm (by rw [wake_r]; decide +kernel))⟩
  have hM29 : Mem [] w w20 [⟨52, 1, (obj b1), 1, [.string (sb (numR (txR (cntR ([130, 97, 0, 1, 5] : List UInt8)))))]⟩] := hM22.sub (List.Sublist.cons _ (List.Sublist.cons_cons _ (List.Sublist.refl _)))
  refine GoS.run [1, 47, 48] [.h (.bool true), .n, .n, .h (.bool true), .n, .n, .n, .h (.bool true), .n, .n, .n, .h (.bool true), .n, .n, .n, .h (.bool true), .n, .n, .n, .h (.bool true), .n, .n, .n] _ [.inRegion (cops (csub (cd Tryd.f8) [1,1,1,1,1,0])) [25,26,27,28,29,30,31,32,33], .code (csub (cd Tryd.f8) [1,1,1,1,1,1])] [(1, .pointer (some (⟨b1, 0, none⟩))), (47, .bool true), (48, .pointer (some (⟨b1, 0, none⟩)))] w20 (by kernel_rfl) (.cons o23 (.cons o24 (.cons o25 (.cons o26 (.cons o27 (.cons o28 .nil)))))) ?_
  refine GoS.call [1, 47] 21 #[.pointer (some (⟨b1, 0, none⟩))] (some 49) [.inRegion (cops (csub (cd Tryd.f8) [1,1,1,1,1,0])) [26,27,28,29,30,31,32,33], .code (csub (cd Tryd.f8) [1,1,1,1,1,1])] [(1, .pointer (some (⟨b1, 0, none⟩))), (47, .bool true)] (by kernel_rfl) (crest_c (numR (txR (cntR ([130, 97, 0, 1, 5] : List UInt8)))) b1 w20 (Mem.lend (R := [⟨52, 1, (obj b1), 1, [.string (sb (numR (txR (cntR ([130, 97, 0, 1, 5] : List UInt8)))))]⟩]) (L := []) hM29)) ?_
  rintro _ w30 ⟨rfl, m31⟩
  refine ⟨_, rfl, ?_⟩
  have hM32 : Mem [] w w30 [⟨52, 1, (obj b1), 1, [.string (sb (numR (txR (cntR ([130, 97, 0, 1, 5] : List UInt8)))))]⟩] := Mem.back (R := [⟨52, 1, (obj b1), 1, [.string (sb (numR (txR (cntR ([130, 97, 0, 1, 5] : List UInt8)))))]⟩]) (L := []) hM29 m31
  have o33 : (binOp .eql 9 (.string (sb (numR (txR (cntR ([130, 97, 0, 1, 5] : List UInt8)))))) (.string (sb ([5] : List UInt8)))).run Tryd.prog w30 = .ok (.bool true) w30 := f_streq_yes (by rw [wake_r]; decide +kernel)
  refine GoS.run [52, 53] [.h (.bool true), .n, .n, .n] _ [.inRegion (cops (csub (cd Tryd.f8) [1,1,1,1,1,0])) [30,31,32,33], .code (csub (cd Tryd.f8) [1,1,1,1,1,1])] [(52, .bool true), (53, .pointer (some (⟨b1, 0, none⟩)))] w30 (by kernel_rfl) (.cons o33 .nil) ?_
  refine GoS.call [52] 23 #[.pointer (some (⟨b1, 0, none⟩))] (some 54) [.inRegion (cops (csub (cd Tryd.f8) [1,1,1,1,1,0])) [31,32,33], .code (csub (cd Tryd.f8) [1,1,1,1,1,1])] [(52, .bool true)] (by kernel_rfl) (cend_c (numR (txR (cntR ([130, 97, 0, 1, 5] : List UInt8)))) b1 w30 (Mem.lend (R := [⟨52, 1, (obj b1), 1, [.string (sb (numR (txR (cntR ([130, 97, 0, 1, 5] : List UInt8)))))]⟩]) (L := []) hM32)) ?_
  rintro _ w34 ⟨rfl, m35⟩
  refine ⟨_, rfl, ?_⟩
  have hM36 : Mem [] w w34 [⟨52, 1, (obj b1), 1, [.string (sb (numR (txR (cntR ([130, 97, 0, 1, 5] : List UInt8)))))]⟩] := Mem.back (R := [⟨52, 1, (obj b1), 1, [.string (sb (numR (txR (cntR ([130, 97, 0, 1, 5] : List UInt8)))))]⟩]) (L := []) hM32 m35
  have o37 : (IntKind.i64 = IntKind.i64) ∧ w34 = w34 ∧ Value.bool true = .bool ((endE (numR (txR (cntR ([130, 97, 0, 1, 5] : List UInt8))))) == 5) := ⟨rfl, rfl, congrArg Value.bool (Eq.symm (by rw [wake_r]; decide +kernel))⟩
  have hM38 : Mem [] w w34 [] := hM36.sub (List.Sublist.cons _ (List.Sublist.refl _))
  refine GoS.run [0] [.h (.bool true), .n, .n, .n] _ [.code (csub (cd Tryd.f8) [1,1,1,1,1,1])] [(0, .bool true)] w34 (by kernel_rfl) (.cons o37 .nil) ?_
  refine GoS.ret (fn := Tryd.f8) (v := (.bool true)) Tryd.func8 (by kernel_rfl) ?_
  rw [hR]
  exact ⟨ret_bool (by decide +kernel), hM38⟩


end Go.Proofs.YtmjkbmlcclmdkaaDoor
